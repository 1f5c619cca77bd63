/- Towards the last file's theorem: part 4. -/
import Derived.Test.YtndegphojkiblaaGreatDoorG3
import Derived.MapKept
set_option linter.all false
set_option maxHeartbeats 4000000
set_option maxRecDepth 100000
namespace Go.Proofs.YtndegphojkiblaaGreatDoor
noncomputable section
section
open Go.RowKit
open Classical
theorem aeO (k:bS) (z:Int):∀(es:List MapEntry) (i:Nat),(∀m∈es,∃y,m.key= .int k y)→
  ∃r,Instr.findNow (.int k) (.int k z) es i=some r∧∀j v,r=some (j,v)→i≤j∧∃m,es[j-i]? =some m∧m.key= .int k z
 |[],i,_=> ⟨none,rfl,by simp⟩
 |e::es,i,h=>by
  obtain⟨y,hy⟩:=h e (by simp);simp only[Instr.findNow,hy,Instr.sameNow,if_true];by_cases hz:z=y
  · subst hz;refine⟨some (i,e.val),by simp,fun j v hj=> ?_⟩;cases hj;exact⟨cT _,e,by simp,hy⟩
  · obtain⟨r,h1,h2⟩:=aeO k z es (i+1) (fun m hm=>h m (by simp[hm]));have:(z==y)=false:=by simpa using hz
    rw[this];refine⟨r,h1,fun j v hj=> ?_⟩;obtain⟨h3,m,h4,h5⟩:=h2 j v hj;refine⟨om,m,?_,h5⟩;rw[show j-i=(j- (i+1))+1 by omega];simpa using h4
def AY (en:Array MapEntry):Prop:=∀m∈en.toList,∃z,m.key= .int .u64 z
theorem Vh {P:aQ} {kt:aw} (hk:P.underlying kt=some (.int .u64)) {en:Array MapEntry} (rA:AY en) (z:Int) (w:av):
   ∃r,(Instr.findKey kt (.int .u64 z) en.toList).run P w= .ok r w∧∀j v,r=some (j,v)→∃m,en[j]? =some m∧m.key= .int .u64 z:=by
 obtain⟨r,h1,h2⟩:=aeO .u64 z en.toList 0 rA;refine⟨r,?_,fun j v hj=> ?_⟩
 · simp[Instr.findKey,run_underlying hk,h1]
 · obtain⟨_,m,h3,h4⟩:=h2 j v hj;exact⟨m,by simpa using h3,h4⟩
def World.lB (w:av) (g:Nat) (o:Obj):av:={w with heap:=w.heap.setIfInBounds g o}
theorem apY {P:aQ} {t kt vt:aw} (ht:P.underlying t=some (.map kt vt)) (hk:P.underlying kt=some (.int .u64)) {w:av} {g:Nat} {en:Array MapEntry} {clock:Nat} (hg:w.heap[g]? =some (.map en clock)) (rA:AY en) (z:Int) (v:aD):
  ∃oE clock',(Instr.mapUpdate t (.map (some g)) (.int .u64 z) v).run P w= .ok () (World.lB w g (.map oE clock'))∧AY oE:=by
 obtain⟨r,h1,h2⟩:=Vh hk rA z w;have hc:(Instr.checkKey false 10000 kt (.int .u64 z)).run P w= .ok () w:=by
  unfold Instr.checkKey;simp[run_underlying hk]
 cases r with
 |none=>
  refine⟨en.push {key:= .int .u64 z,val:=v,born:=clock},clock+1,?_,?_⟩
  · simp[Instr.mapUpdate,run_underlying ht,MapKept.run_getObj_map hg,hc,h1,MapKept.run_setObj_map _ hg,World.lB]
  · intro m hm;simp at hm;rcases hm with hm|rfl
    · exact rA m (by simpa using hm)
    · exact⟨z,rfl⟩
 |some r=>
  obtain⟨i,old⟩:=r;obtain⟨m0,h3,h4⟩:=h2 i old rfl;have aGI:(Instr.keyThatStays (((en[i]?).map (·.key)).getD (.int .u64 z)) (.int .u64 z)).run P w= .ok (.int .u64 z) w:=by
    rw[h3];simp[Instr.keyThatStays,h4,Instr.sameBits]
  refine⟨en.modify i fun e=> {e with key:= .int .u64 z,val:=v},clock,?_,?_⟩
  · simp only[Instr.mapUpdate,Sem.run_bind,run_underlying ht,Result.andThen_ok,MapKept.run_getObj_map hg,hc,h1,aGI,MapKept.run_setObj_map _ hg,World.lB]
  · intro m hm;obtain⟨j,hj,rfl⟩:=lQ hm;simp only[Array.toList_modify,List.getElem_modify];split
    · exact⟨z,rfl⟩
    · simp only[Array.toList_modify,List.length_modify]at hj;exact rA _ (b9 hj)
theorem aFP {P:aQ} {t kt vt:aw} (ht:P.underlying t=some (.map kt vt)) (hk:P.underlying kt=some (.int .u64)) {w:av} {g:Nat} {en:Array MapEntry} {clock:Nat} (hg:w.heap[g]? =some (.map en clock)) (rA:AY en) (z:Int) (ts:List aw) (ty:aw):
  ∃oE clock',(Builtin.delete_ (t::ts).toArray ty #[.map (some g),.int .u64 z]).run P w= .ok (.tuple #[]) (World.lB w g (.map oE clock'))∧AY oE:=by
 obtain⟨r,h1,h2⟩:=Vh hk rA z w;have hc:(Instr.checkKey en.isEmpty 10000 kt (.int .u64 z)).run P w= .ok () w:=by
  unfold Instr.checkKey;simp[run_underlying hk]
 cases r with
 |none=>
  refine⟨en,clock,?_,rA⟩;simp[Builtin.delete_,run_underlying ht,MapKept.run_getObj_map hg,hc,h1,MapKept.run_setObj_map _ hg,World.lB]
 |some r=>
  obtain⟨i,old⟩:=r;refine⟨en.eraseIdxIfInBounds i,clock,?_,?_⟩
  · simp[Builtin.delete_,run_underlying ht,MapKept.run_getObj_map hg,hc,h1,MapKept.run_setObj_map _ hg,World.lB]
  · intro m hm;refine rA m ?_;simp only[Array.eraseIdxIfInBounds]at hm;split at hm
    · simp only[Array.toList_eraseIdx]at hm;exact List.mem_of_mem_eraseIdx hm
    · exact hm
section
variable {X:Fx} {E:Env} {st:ak} {a:Act} {w:av}
theorem adx {w:av} {g k:Nat} {o:Obj} (h:k≠g):(World.lB w g o).heap[k]? =w.heap[k]?:=by
 simp only[World.lB,SA];rw[aE (fun h'=>h h'.symm)]
theorem Ya {w:av} {g:Nat} {o o':Obj} (h:w.heap[g]? =some o'):(World.lB w g o).heap[g]? =some o:=by
 have:=(dY.1 h).1;simp[World.lB,SA,this]
theorem Rel.K1 (h:Rel X E st a w) {n:Nat} {x:Nm} (hN:E.N n=some x) {g:Nat} (gZ:x.g=some g) {w':av} (rB:w'.os=w.os) (Rx:w'.tape=w.tape) (hout:w'.output=w.output)
   (oD:∀k,k≠g→w'.heap[k]? =w.heap[k]?) (bj:w'.heap.size=w.heap.size) (b:cO) (hb:gk X.M E E w w'→RB X.P X.M E w' n b):
   gk X.M E E w w'∧Rel X E (st.cq ⟨[(n,b)],[]⟩) a w':=by
 obtain⟨hx1,hx2,hx3⟩:=h.names n x g hN gZ;have hG:gk X.M E E w w':={
   cell:=fun k o u k1 k2=>by
     have:k≠g:=by rintro rfl;exact k2 (.inr ⟨n,x,hN,gZ⟩)
     exact⟨(World.cell?_of_block (w:=w) (a:=⟨k,o,none⟩) (oD k this)).trans k1,k2⟩
   name:=fun _ _ h=> .inr h
   ao:=fun _ h=>h}
 refine⟨hG,h.step ⟨[(n,b)],[]⟩ (nx:=st.next) (cT _) hG (by simp[h.ao]) ?_ h.cR (fun n x g hx=>by rw[bj];exact h.names n x g hx) h.inj (fun _ _=> .inr rfl) (by simp) ?_ ?_⟩
 · refine h.frame.trans (K':=fun k=>k=g) ⟨rB,Rx,hout,by rw[bj];exact cT _,fun k _ hk=>oD k hk⟩ ?_;rintro k hk rfl;rcases hx2 with h1|h1
   · exact h1
   · omega
 · intro m y k hy hk _ hl;refine oD _ fun he=> ?_
   subst he;have:=h.inj m n y x k hy hN hk gZ;subst this;simp at hl
 · intro m b' hl;simp only[eR,oQ]at hl;split at hl
   · rename_i heq;simp at heq hl;subst heq hl;exact .inr (hb hG)
   · cases hl
noncomputable def yD (P:aQ) (st:ak) (t:aw) (m k x:aM):Option dB:=
 match st.arg m with
 | some (.v (.c (.mp n)))=>match P.underlying t,st.heap.lookup n,st.arg k,st.arg x with
  |some (.map kt _),some (.map _),some (.v (.c (.p (.sc (.int .u64 _))))),some _=>match P.underlying kt with
   |some (.int .u64)=>some ⟨[(n,.map [])],[]⟩
   |_=>none
  |_,_,_,_=>none
 |_=>none
theorem ajJ (h:Rel X E st a w) {t:aw} {m k x:aM} {ef:dB} (he:yD X.P st t m k x=some ef):
   ∃w',(Instr.mapUpdate t (a.eval m) (a.eval k) (a.eval x)).run X.P w= .ok () w'∧Rel X E (st.cq ef) a w':=by
 unfold yD at he;split at he
 · rename_i n hm;have hn:=h.gQ hm (n:=n) (by simp[C.names]);obtain⟨y,h1,g,hg,h2⟩:=bT.get (h.bU hm).1 hn;split at he
   · rename_i kt vt es z v ht hl hk hx;have k1:=RP.dv (h.bU hk).1;split at he
     · rename_i Ry;cases he;obtain⟨x',g',en,clock,j1,j2,j3,j4⟩:=h.row (by rw[←h.ao];exact hn) hl;rw[h1]at j1;cases j1;rw[hg]at j2;cases j2;obtain⟨oE,clock',hr,eD⟩:=apY ht Ry j3 j4 z (a.eval x);refine⟨_,by rw[h2,k1];exact hr,(h.K1 h1 hg (w':=World.lB w g (.map oE clock')) rfl rfl rfl (fun k hk=>adx hk) (by simp[World.lB]) (.map []) (fun _=> ?_)).2⟩;exact⟨y,g,oE,clock',h1,hg,Ya j3,eD⟩
     · cases he
   · cases he
 · cases he
noncomputable def x7 (P:aQ) (st:ak) (t:aw) (m k:aM):Option dB:=
 match st.arg m with
 | some (.v (.c (.mp n)))=>match P.underlying t,st.heap.lookup n,st.arg k with
  |some (.map kt _),some (.map _),some (.v (.c (.p (.sc (.int .u64 _)))))=>match P.underlying kt with
   |some (.int .u64)=>some ⟨[(n,.map [])],[]⟩
   |_=>none
  |_,_,_=>none
 |_=>none
theorem aFl (h:Rel X E st a w) {t:aw} {ts:List aw} {ty:aw} {m k:aM} {ef:dB} (he:x7 X.P st t m k=some ef):
   ∃w',(Builtin.delete_ (t::ts).toArray ty #[a.eval m,a.eval k]).run X.P w= .ok (.tuple #[]) w'∧Rel X E (st.cq ef) a w':=by
 unfold x7 at he;split at he
 · rename_i n hm;have hn:=h.gQ hm (n:=n) (by simp[C.names]);obtain⟨y,h1,g,hg,h2⟩:=bT.get (h.bU hm).1 hn;split at he
   · rename_i kt vt es z ht hl hk;have k1:=RP.dv (h.bU hk).1;split at he
     · rename_i Ry;cases he;obtain⟨x',g',en,clock,j1,j2,j3,j4⟩:=h.row (by rw[←h.ao];exact hn) hl;rw[h1]at j1;cases j1;rw[hg]at j2;cases j2;obtain⟨oE,clock',hr,eD⟩:=aFP ht Ry j3 j4 z ts ty;refine⟨_,by rw[h2,k1];exact hr,(h.K1 h1 hg (w':=World.lB w g (.map oE clock')) rfl rfl rfl (fun k hk=>adx hk) (by simp[World.lB]) (.map []) (fun _=> ?_)).2⟩;exact⟨y,g,oE,clock',h1,hg,Ya j3,eD⟩
     · cases he
   · cases he
 · cases he
noncomputable def sr (P:aQ) (st:ak) (s d:aw) (x:aM):Option (V×dB):=
 match st.arg x with
 | some (.v (.c (.own n)))=>match st.heap.lookup n,P.underlying s with
  |some (.row e rows),some (.slice e')=>match P.underlying e' with
   |some (.int .u8)=>if s=d∧rows≠ []then some (.c (.own n),⟨[(n,.row e rows)],[]⟩)else none
   |_=>none
  |_,_=>none
 |_=>none
theorem aqq {w:av} {g:Nat} {cur:Array aD} {e:aw} {fz:Nat×Nat} (hg:w.heap[g]? =some (.cells cur e fz)) (hf:nc cur.size fz):
   ∃y7,(w.freeze ⟨g,cur.size,none⟩ 1).heap[g]? =some (.cells cur e y7)∧nc cur.size y7:=by
 obtain⟨lo,hi⟩:=fz;have hlt:=(dY.1 hg).1;refine⟨if lo==hi then(cur.size,cur.size+1)else(min lo cur.size,max hi (cur.size+1)),?_,?_⟩
 · simp only[World.freeze,Nat.one_ne_zero,if_false,Array.getElem?_modify,hg];simp
 · split
   · exact .inr (cT _)
   · rename_i hne;rcases hf with h|h
     · cases h;simp at hne
     · exact .inr (by simp only at h⊢;omega)
theorem aAk {w:av} {g k o:Nat} (h:k≠g):(w.freeze ⟨g,o,none⟩ 1).heap[k]? =w.heap[k]?:=by
 simp only[World.freeze,Nat.one_ne_zero,if_false,Array.getElem?_modify];split
 · rename_i h';exact absurd h'.symm h
 · rfl
theorem ass (h:Rel X E st a w) {s d:aw} {x:aM} {v:V} {ef:dB} (he:sr X.P st s d x=some (v,ef)):
   ∃u w',(convert s d (a.eval x)).run X.P w= .ok u w'∧Rel X E (st.cq ef) a w'∧RV X.M E w' v u:=by
 unfold sr at he;split at he
 · rename_i n hx;have hn:=h.gQ hx (n:=n) (by simp[C.names]);have hh:=(h.bU hx).1;obtain⟨y,h1,h2⟩:=bT.get hh hn;split at he
   · rename_i e rows e' hl hs;split at he
     · rename_i Rz;split at he
       · rename_i hc;cases he;obtain⟨rfl,h0⟩:=hc;obtain⟨x',cur,fz,j1,ca,j2,j3,j4,j5,j6,j7,j8,j9,tS,CG⟩:=h.row (by rw[←h.ao];exact hn) hl;rw[h1]at j1;cases j1
         cases hg:y.g with
         |none=>
          have:=tS hg;have:rows.length=0:=om;exact absurd (iq this) h0
         | some g=>
          have hblk:=j2 g hg;obtain⟨y7,k1,k2⟩:=aqq hblk ca;have hT:=h.K1 h1 hg (w':=w.freeze ⟨g,cur.size,none⟩ 1) (by simp[World.freeze]) (by simp[World.freeze]) (by simp[World.freeze]) (fun k hk=>aAk hk) (by simp[World.freeze]) (.row e rows) (fun hG=>by
           refine⟨y,cur,y7,h1,k2,fun g' hg'=> ?_,j3,j4,j5,j6,j7,j8,j9,tS,fun i r j p hi hj=> ?_⟩
           · rw[hg]at hg';cases hg';exact k1
           · obtain⟨u,q1,q2⟩:=CG i r j p hi hj;exact⟨u,q1,q2.goes hG⟩)
          refine⟨a.eval x,_,?_,hT.2,.inr ⟨y,h1,h2⟩⟩;rw[h2,hg];have nJ:w.shape? g=some (e,cur.size):=by simp[World.shape?,hblk]
          simp[convert,run_underlying hs,run_underlying Rz,markStringish,nJ]
       · cases he
     · cases he
   · cases he
 · cases he
noncomputable def r7 (P:aQ) (st:ak) (t:aw) (s x:aM):Option (V×dB):=
 match st.arg s,st.arg x with
 | some (.v (.c (.sub m 0 len))),some (.v (.c cx))=>match st.heap.lookup m,st.view cx,eL P t with
  |some (.row e' rows),some bK,some e=>match jH P e with
   |some (n,_)=>if e'=e∧bA n bK=true∧len+bK.length≤rows.length then some (.c (.sub m 0 (len+bK.length)),⟨[(m,.row e (rows.take len++bK++rows.drop (len+bK.length)))],[]⟩)else none
   |none=>none
  |_,_,_=>none
 |_,_=>none
theorem anc (h:Rel X E st a w) {t ty:aw} {s x:aM} {v:V} {ef:dB} (he:r7 X.P st t s x=some (v,ef)):
   ∃u w',(Builtin.append_ #[t,t] ty #[a.eval s,a.eval x]).run X.P w= .ok u w'∧Rel X E (st.cq ef) a w'∧RV X.M E w' v u:=by
 unfold r7 at he;split at he
 · rename_i m len cx hs hx;have hn:=h.gQ hs (n:=m) (by simp[C.names]);obtain⟨z0,nK,hle,A,ry,hA⟩:=bT.get (h.bU hs).1 hn;have hA:=hA (.inr rfl);simp only[Nat.zero_mul,Nat.sub_zero]at hA ry;split at he
   · rename_i e' rows bK e hl hv ht;obtain⟨hu,kG⟩:=ph ht;split at he
     · rename_i n b ft;obtain⟨i,zz,hi,hzz,hzs,df,bW,hib,gy⟩:=xl ft;split at he
       · rename_i hc;cases he;obtain⟨rfl,hR,hroom⟩:=hc;rw[nZ]at hR;obtain⟨z,cur,fz,k1,ca,k2,k3,k4,k5,k6,k7,k8,k9,ik,lE⟩:=h.row (by rw[←h.ao];exact hn) hl;rw[nK]at k1;cases k1;have bj:z0.sz=n:=by rw[k7,gy]
         have hlt:=h.cR m z0 nK;rcases(h.views hx hv).src hR with⟨rfl,B,cap,iH⟩| ⟨gs,os,cap,news,iH,hne,eW,hcell,lG,hval⟩
         ·
           have CD:=h.step ⟨[(m,.row e' rows)],[]⟩ (E':=E) (w':=w) (nx:=st.next) (cT _) ⟨fun _ _ _ h1 h2=> ⟨h1,h2⟩,fun _ _ h=> .inr h,fun _ h=>h⟩ (by simp[h.ao]) h.frame h.cR h.names h.inj (fun _ _=> .inr rfl) (by simp) (fun _ _ _ _ _ _ _=>rfl) (fun k b hb=>by
             simp only[eR,oQ]at hb;split at hb
             · rename_i heq;simp at heq;subst heq;cases hb;exact .inr (h.row (by rw[←h.ao];exact hn) hl)
             · cases hb)
           refine⟨.slice A len z0.cap,w,?_,?_,?_⟩
           · rw[ry,iH];have pN:len≤z0.cap:=om
             cases A with
             |none=>cases B<;>simp[Builtin.append_,run_underlying hu,sizeOf,typeInfo,hi,Builtin.lenOf,Builtin.firstCells,loadCells,loadCellsFrom,pN]
             |some A=>cases B<;>simp[Builtin.append_,run_underlying hu,sizeOf,typeInfo,hi,Builtin.lenOf,Builtin.firstCells,loadCells,loadCellsFrom,pN,storeCells]
           · have e1:rows.take len++ []++rows.drop (len+([]:List (List PV)).length)=rows:=by simp
             rw[e1];exact CD
           · refine .inr ⟨z0,nK,by simpa using hle,A,by simp,fun _=>by simpa using hA⟩
         · cases hg : z0.g with
           |none=>have:=ik hg;omega
           | some g =>
             rw[hg]at hA;simp only[aJ]at hA;subst hA;have hblk:=k2 g hg;have hmul:len*n+bK.length*n≤cur.size:=by
               rw[k8,bj,←iO];exact fx _ om
             have hrun:=afL (P:=X.P) w t ty e' i hu hi g len z0.cap cur ca hblk ⟨gs,os,none⟩ bK.length cap news (by rw[bW];exact eW) hcell lG om (by rw[bW,eW];exact hmul);rw[bW]at hrun;have cS:(cur.toList.take (len*n)++news++cur.toList.drop (len*n+news.length)).toArray.size=cur.size:=by simp[eW];omega
             have g_:eA z0.sz (rows.take len++bK++rows.drop (len+bK.length)):=((k9.take _).app (by rw[bj];exact hR)).app (fun r hr=>k9 r (oR hr));have hw:=(h.write nK hg hblk ((cur.toList.take (len*n)++news++cur.toList.drop (len*n+news.length)).toArray) [] (by simp) (.row e' (rows.take len++bK++rows.drop (len+bK.length))) (fun hG gw _=>by
               refine⟨z0,_,fz,by rw[drop_nil];exact nK,by rw[cS];exact ca,fun g' hg'=>by rw[hg]at hg';cases hg';exact gw,by simp;omega,k4,k5,k6,k7,by rw[cS,k8],g_,ik,fun i r j p hi hj=> ?_⟩;rw[eW]at hG;have hjz:j<n:=by rw[←bj,←g_ r (cH hi)];exact(cN.1 hj).1
               rw[zv,sP (by simp;omega),eW,bj];rw[sP (l:=rows) (ys:=bK) (off:=len) (k:=i) hroom]at hi;split at hi
               · rename_i hc;have hlt:(i-len+1)*n≤bK.length*n:=fx _ om;have e1:i*n=len*n+(i-len)*n:=by rw[←iO];congr 1;omega
                 rw[kl]at hlt;rw[au om];obtain⟨u,q1,q2⟩:=hval _ r j p hi hj;exact⟨u,by rw[←q1];congr 1;omega,q2.goes hG⟩
               · rename_i hc;have hno:¬(len*n≤i*n+j∧i*n+j<len*n+bK.length*n):=by
                  rintro⟨q1,q2⟩;apply hc;rw[←iO]at q2;refine⟨?_,?_⟩
                  · rcases pX i len with h7|h7
                    · have:(i+1)*n≤len*n:=fx _ h7;rw[kl]at this;omega
                    · exact h7
                  · rcases pX i (len+bK.length)with h7|h7
                    · exact h7
                    · have:(len+bK.length)*n≤i*n:=fx _ h7;omega
                 rw[aE hno];obtain⟨u,q1,q2⟩:=lE i r j p hi hj;rw[bj]at q1;exact⟨u,by simpa using q1,q2.goes hG⟩)).2
             rw[drop_nil]at hw;exact⟨_,_,by rw[ry,iH];exact hrun,hw,.inr ⟨z0,nK,om,some ⟨g,0,none⟩,rfl,fun _=>by rw[hg];simp⟩⟩
       · cases he
     · cases he
   · cases he
 · cases he
noncomputable def pq (P:aQ) (st:ak) (d:Nat) (t t':aw) (s x:aM):Option (V×dB):=
 match eL P t,st.arg s,st.arg x,P.underlying t' with
 | some e,some (.v (.c .nil)),some (.v (.c (.p (.sc (.int .i64 n))))),some (.int _)=>match jH P e,qg P e with
  |some (_,b),some zs=>match oV zs with
   |some z=>if 0<n∧n≤9223372036854775807∧n.toNat*b≤140737488355328 then some (.c (.own d),⟨[(d,.row e (List.replicate n.toNat z))],[]⟩)else none
   |none=>none
  |_,_=>none
 |_,_,_,_=>none
theorem awI (h:Rel X E st a w) {d:Nat} (hd:E.N d=none) (eM:X.k0≤d) (dJ:d<st.next) {t t' ty:aw} {s x:aM} {v:V} {ef:dB}
   (he:pq X.P st d t t' s x=some (v,ef)):
   ∃u w' E',(Builtin.append_ #[t,t'] ty #[a.eval s,a.eval x]).run X.P w= .ok u w'∧(∀n,n≠d→E.N n=none→E'.N n=none)∧Rel X E' (st.cq ef) a w'∧RV X.M E' w' v u:=by
 unfold pq at he;split at he
 · rename_i e n k ht hs hx hk;obtain⟨hu,kG⟩:=ph ht;have h3:a.eval s= .slice none 0 0:=(h.bU hs).1;have h4:=RP.dv (h.bU hx).1;split at he
   · rename_i sz b zs ft hz;obtain⟨i,z,hi,hzz,hzs,df,bW,hib,gy⟩:=xl ft;obtain⟨i',z',hi',tQ,kJ⟩:=Bd (M:=X.M) (E:=E) (w:=w) hz;rw[hi]at hi';cases hi';rw[hzz]at tQ;cases tQ;split at he
     · rename_i zp CF;split at he
       · rename_i jA;obtain⟨h0,tR,hb⟩:=jA;cases he;obtain⟨eE,hl2⟩:=qB CF;have hzl:zp.length=sz:=by rw[eE,←kJ.1,hzs]
         obtain⟨N,rfl⟩:∃N:Nat,n=(N:Int):=⟨n.toNat,om⟩
         simp only[gd]at hb⊢;have hm:N≤maxLen:=by simp only[maxLen];omega
         have ru:=grownCap_ge w N 0 e;have iI:=grownCap_le_maxLen w N 0 e hm;have hR:eA sz (List.replicate N zp):=fun r hr=>by rw[(Dg.1 hr).2];exact hzl
         have hf:=h.uK hd eM dJ (e:=e) df gy.symm (rows:=List.replicate N zp) hR (cap:=grownCap w N 0 e) (by simpa using ru) iI
          (us:=Builtin.zeroCells z.cells N++Builtin.zeroCells z.cells (grownCap w N 0 e-N)) (by
           simp only[zw,size_zeroCells,hzs,←iO];congr 1;omega) (fun i' r j' p h5 h6=>by
           have gC:r=zp:=(Dg.1 (cH h5)).2;subst gC;have kI:i'<N:=by have:=(cN.1 h5).1;simpa using this
           have hj':j'<sz:=by rw[←hzl];exact(cN.1 h6).1
           obtain⟨cc,h7,h8⟩:=hl2 j' p h6;obtain⟨u',h9,h10,_⟩:=kJ.2 j' cc h7;have hlt:i'*sz+j'<N*sz:=by
            have:(i'+1)*sz≤N*sz:=fx _ kI;rw[kl]at this;omega
           refine⟨u',?_,RC.pv h10 h8⟩;rw[oU,au (by rw[size_zeroCells,hzs];exact hlt)];simp only[Builtin.zeroCells,Array.getElem?_map,hzs,Array.getElem?_range,hlt,if_true,aJ,im];rw[show(i'*sz+j')%sz=j' by rw[SH,aiC,IM hj']];obtain⟨q,hq⟩:=dY.1 h9;rw[getElem!_pos z.cells j' q];exact hq) (wd:=w.drew) (.inr rfl)
         simp only[pZ]at hf;refine⟨_,_,_,?_,fun k hk fJ=>by rw[Env.lb hk];exact fJ,hf.1,hf.2⟩;rw[h3,h4];have hN:0<N:=om;have hw:IntKind.i64.wrap (N:Int)=(N:Int):=by
          rw[IntKind.wrap_i64];omega
         have e1:¬((N:Int)<0):=om;have e2:¬(281474976710656< (N:Int)*(i.bytes:Int)):=by
          rw[hib,←zA];omega
         have e3:¬(9223372036854775807< (N:Int)):=om;have e4:¬(281474976710656<Builtin.nextslicecap N 0*i.bytes):=by rw[nextslicecap_zero hN,hib];omega
         have e5:N*sz≠0:=SJ (SK hN df);have e6:¬N=0:=om;have e7:¬sz=0:=om;have e8:¬((N:Int)≤0):=om;have e9:max (N:Int) 0=N:=om;simp[Builtin.append_,run_underlying hu,run_underlying hk,sizeOf,typeInfo,zeroValue,hi,hzz,bW,asInt,asIntOf,hw,e1,e2,e3,e4,e5,e6,e7,e8,e9,Question.forced,Builtin.firstCells,newRow,grownCap]
       · cases he
     · cases he
   · cases he
 · cases he
noncomputable def sZ (P:aQ) (st:ak) (t:aw) (x:aM):Option (V×dB):=
 match st.arg x with
 | some (.v (.c (.ptr n off)))=>match la P t,st.heap.lookup n with
  |some (bM,e),some (.box cs)=>match oV ((cs.drop off).take bM)with
   |some qs=>if db P e=1∧mU P e=true∧0<bM∧bM≤4096∧qs.length=bM then some (.c (.p (.sl (qs.map fun q=> [q]))),⟨[],[n]⟩)else none
   |none=>none
  |_,_=>none
 |_=>none
theorem anO (h:Rel X E st a w) {t:aw} {x:aM} {v:V} {ef:dB} (he:sZ X.P st t x=some (v,ef)):
   ∃u E',(Instr.sliceAt t (a.eval x) none none none).run X.P w= .ok u w∧(∀n,E.N n=none→E'.N n=none)∧Rel X E' (st.cq ef) a w∧RV X.M E' w v u:=by
 unfold sZ at he;split at he
 · rename_i n off hx;have hn:=h.gQ hx (n:=n) (by simp[C.names]);obtain⟨y,h1,g,hg,h2⟩:=bT.get (h.bU hx).1 hn;split at he
   · rename_i bM e cs har hl;split at he
     · rename_i qs hq;split at he
       · rename_i hc;cases he;obtain⟨bj,wb,df,aJI,hlen⟩:=hc;obtain⟨hua,kG⟩:=D0 har;obtain⟨x',g',cur,e',j1,j2,j3,j4,j5⟩:=h.row (by rw[←h.ao];exact hn) hl;rw[h1]at j1;cases j1;rw[hg]at j2;cases j2;have hlt:=h.cR n y h1;obtain⟨q1,q2⟩:=qB hq;have hst:iB (bad X.M E) (bad X.M (E.drop [n])) w w:=fun k o u h1 h2=> ⟨h1,fun h=>h2 (sf h)⟩
         have mH:¬bad X.M (E.drop [n]) g:=by
           rintro(hb| ⟨m,z,k1,k2⟩)
           · exact(h.names n y g h1 hg).2.2 hb
           · obtain⟨k3,k4⟩:=mZ k1;have:=h.inj m n z y g k3 h1 k2 hg;subst this;simp at k4
         have hval:∀(i:Nat) (q:PV),qs[i]? =some q→∃u,cur[off+i]? =some u∧RP (bad X.M (E.drop [n])) w q u:=by
           intro i q hi;obtain⟨c,k1,k2⟩:=q2 i q hi;rw[jD]at k1;split at k1
           · rw[kP]at k1;obtain⟨u,k3,k4,_⟩:=j5 _ c k1;exact⟨u,k3,RP.trans (RC.pv k4 k2) hst⟩
           · cases k1
         refine⟨.slice (some ⟨g,off,none⟩) bM bM,E.drop [n],?_,fun m hm=>Env.kC hm,h.drop [n] (by simpa using hlt),?_⟩
         · rw[h2];have hne:¬bM=0:=om;simp[Instr.sliceAt,run_underlying hua,Instr.sliceBounds,run_sizeOf w wb,Instr.sureAddr,hne];unfold Addr.add;simp
         · have tU:(qs.map fun q=> [q]).length=bM:=by simpa using hlen
           show RP _ w (.sl (qs.map fun q=> [q])) _;rw[show(Value.slice (some ⟨g,off,none⟩) bM bM)= .slice (some ⟨g,off,none⟩) (qs.map fun q=> [q]).length bM by rw[tU]];refine .row (sz:=1) (f:=fun i _=> (cur[off+i]?).getD undef) (by intro h0;rw[h0]at tU;simp at tU;omega) om (by simp only[maxLen];omega) (fun r hr=> ?_) (fun i r j p hi hj=> ?_) (fun i r j p hi hj=> ?_)
           · simp at hr;obtain⟨q,_,rfl⟩:=hr;rfl
           · simp only[bO,aW]at hi;obtain⟨q,hi,rfl⟩:=hi;obtain⟨u,k1,k2⟩:=hval i q hi;have rC:j=0:=by cases j with|zero=>rfl|succ j=>simp at hj
             subst rC;refine⟨?_,mH⟩;rw[cell_of_row w g _ cur e' (0,0) j3,IK,gb,k1];rfl
           · simp only[bO,aW]at hi;obtain⟨q,hi,rfl⟩:=hi;obtain⟨u,k1,k2⟩:=hval i q hi;have rC:j=0:=by cases j with|zero=>rfl|succ j=>simp at hj
             subst rC;simp at hj;subst hj;show RP _ w q ((cur[off+i]?).getD undef);rw[k1];exact k2
       · cases he
     · cases he
   · cases he
 · cases he
end
end
section
open Go.RowKit
theorem anU {P:aQ} (w:av) (t t' ty e:aw) (i:TypeInfo) (z:aD) {kk:bS} (ht:P.underlying t=some (.slice e)) (gM:P.underlying t'=some (.int kk)) (hi:P.info? e=some i) (hz:i.zero=some z)
  (g d_ sCap:Nat) (cur:Array aD) {fz:Nat×Nat} (ca:nc cur.size fz) (hg:w.heap[g]? =some (.cells cur e fz)) (N:Nat) (hN:0<N) (df:0<i.size) (hNm:(N:Int)≤9223372036854775807) (hNb:N*i.bytes≤281474976710656)
  (h1:∀u∈(Builtin.zeroCells z.cells N).toList,u.oneCell'=true)
  (hroom:d_+N≤sCap) (gx:d_*i.size+(Builtin.zeroCells z.cells N).toList.length≤cur.size):
  (Builtin.append_ #[t,t'] ty #[.slice (some ⟨g,0,none⟩) d_ sCap,.int .i64 N]).run P w=
   .ok (.slice (some ⟨g,0,none⟩) (d_+N) sCap) (w.setRow g (cur.toList.take (d_*i.size)++(Builtin.zeroCells z.cells N).toList++cur.toList.drop (d_*i.size+(Builtin.zeroCells z.cells N).toList.length)).toArray):=by
 have hst:=Ay P g (d_*i.size) e fz (Builtin.zeroCells z.cells N).toList 0 cur w ca hg (by simpa using gx) h1;simp only[gb]at hst;have hw:IntKind.i64.wrap (N:Int)=(N:Int):=by rw[IntKind.wrap_i64];omega
 have e1:¬((N:Int)<0):=om;have e2:¬(281474976710656< (N:Int)*(i.bytes:Int)):=by rw[←zA];omega
 have e6:¬N=0:=om;have e7:¬i.size=0:=om;have e5:N*i.size≠0:=SJ (SK hN df);have e8:¬((N:Int)≤0):=om;have e9:max (N:Int) 0=N:=om;simp[Builtin.append_,run_underlying ht,run_underlying gM,sizeOf,typeInfo,zeroValue,hi,hz,asInt,asIntOf,hw,e1,e2,e5,e6,e7,e8,e9,hroom,Addr.add_lit,hst]
theorem axu {P:aQ} {w:av} (t t' ty e:aw) (i:TypeInfo) (z:aD) {kk:bS} (ht:P.underlying t=some (.slice e)) (gM:P.underlying t'=some (.int kk)) (hi:P.info? e=some i) (hz:i.zero=some z)
  (b:Addr) (d_ sCap:Nat) (olds:List aD) (dr:olds.length=d_*i.size) (holds:∀j v,olds[j]? =some v→w.cell? (b.add j)=some v)
  (N:Nat) (hN:0<N) (df:0<i.size) (hNb:N*i.bytes≤281474976710656)
  (hg:sCap<d_+N) (h63:((d_+N:Nat):Int)≤9223372036854775807) (gx:Builtin.nextslicecap (d_+N) sCap*i.bytes≤281474976710656):
  (Builtin.append_ #[t,t'] ty #[.slice (some b) d_ sCap,.int .i64 N]).run P w=
   .ok (.slice (some ⟨w.heap.size,0,none⟩) (d_+N) (grownCap w (d_+N) sCap e))
    (w.drew.alloc (.cells (olds.toArray++(Builtin.zeroCells z.cells N).toList.toArray++Builtin.zeroCells z.cells (grownCap w (d_+N) sCap e- (d_+N))) e)):=by
 have hn:¬(d_+N≤sCap):=om;have aGL:¬(9223372036854775807< ((d_:Int)+(N:Int))):=om;have aGM:¬(281474976710656<Builtin.nextslicecap (d_+N) sCap*i.bytes):=om;have y8:=run_firstCells_some (P:=P) w.drew i.size d_ b d_ sCap olds dr (by simpa using holds);have hw:IntKind.i64.wrap (N:Int)=(N:Int):=by rw[IntKind.wrap_i64];omega
 have e1:¬((N:Int)<0):=om;have e2:¬(281474976710656< (N:Int)*(i.bytes:Int)):=by rw[←zA];omega
 have e6:¬N=0:=om;have e7:¬i.size=0:=om;have e5:N*i.size≠0:=SJ (SK hN df);have e8:¬((N:Int)≤0):=om;have e9:max (N:Int) 0=N:=om;simp[Builtin.append_,run_underlying ht,run_underlying gM,sizeOf,typeInfo,zeroValue,hi,hz,asInt,asIntOf,hw,e1,e2,e5,e6,e7,e8,e9,hn,aGL,aGM,Question.forced,y8,newRow,grownCap]
noncomputable def uX (P:aQ) (st:ak) (d:Nat) (t t':aw) (s x:aM):Option (V×dB):=
 match eL P t,st.arg s,st.arg x,P.underlying t' with
 | some e,some (.v (.c cs)),some (.v (.c (.p (.sc (.int .i64 n))))),some (.int _)=>match jH P e,qg P e,st.fy e cs with
  |some (n0,b),some zs,some (rows,ms)=>match oV zs with
   |some z=>if 0<n∧rows.length+n.toNat≤9223372036854775807∧(rows.length+n.toNat)*b≤140737488355328∧bA n0 rows=true then some (.c (.own d),⟨[(d,.row e (rows++List.replicate n.toNat z))],ms⟩)else none
   |none=>none
  |_,_,_=>none
 |_,_,_,_=>none
section
variable {X:Fx} {E:Env} {st:ak} {a:Act} {w:av}
set_option maxHeartbeats 2000000 in
theorem awb (h:Rel X E st a w) {d:Nat} (hd:E.N d=none) (eM:X.k0≤d) (dJ:d<st.next) (rq:d∉st.ao) {t t' ty:aw} {s x:aM} {v:V} {ef:dB}
   (he:uX X.P st d t t' s x=some (v,ef)):
   ∃u w' E',(Builtin.append_ #[t,t'] ty #[a.eval s,a.eval x]).run X.P w= .ok u w'∧(∀n,n≠d→E.N n=none→E'.N n=none)∧Rel X E' (st.cq ef) a w'∧RV X.M E' w' v u:=by
 unfold uX at he;split at he
 · rename_i e cs nn kk ht hs hx hk;obtain⟨hu,kG⟩:=ph ht;have iH:a.eval x= .int .i64 nn:=RP.dv (h.bU hx).1;split at he
   · rename_i n b zs rows ms ft hzz dK;obtain⟨i,z,hi,hz,hzs,df,bW,hib,gy⟩:=xl ft;obtain⟨i',z',hi',tQ,kJ⟩:=Bd (M:=X.M) (E:=E) (w:=w) hzz;rw[hi]at hi';cases hi';rw[hz]at tQ;cases tQ;split at he
     · rename_i zp CF;split at he
       · rename_i hb;obtain⟨h0n,CC,hby,g_⟩:=hb;rw[nZ]at g_;cases he;obtain⟨eE,hl2⟩:=qB CF;have hzl:zp.length=n:=by rw[eE,←kJ.1,hzs]
         obtain⟨N,rfl⟩:∃N:Nat,nn=(N:Int):=⟨nn.toNat,om⟩
         simp only[gd]at CC hby⊢;have hN:0<N:=om;have hNp:=hN;generalize RA:List.replicate N zp=bK;have hrl:bK.length=N:=by rw[←RA];simp
         rw[←hrl]at CC hby;have kg:eA n bK:=fun r hr=>by rw[←RA]at hr;rw[(Dg.1 hr).2];exact hzl
         have hlen:rows.length+bK.length≤maxLen:=by simp only[maxLen];omega
         obtain⟨hsc,_,pE⟩:=h.bU hs;have hmx:(rows.length+bK.length:Nat)≤9223372036854775807:=CC;have hst:∀ns,iB (bad X.M E) (bad X.M (E.drop ns)) w w:=fun ns k o u h1 h2=> ⟨h1,fun h=>h2 (sf h)⟩
         generalize hnews:(Builtin.zeroCells z.cells N).toList=news;have eW:news.length=bK.length*n:=by rw[←hnews,hrl];simp[Builtin.zeroCells,hzs]
         have ahn:∀q,q<N*n→news[q]? =some (z.cells[q%n]!):=fun q hq=>by
          rw[←hnews];simp only[Builtin.zeroCells,aiB,bO,hzs,Array.toList_range,pY hq,aJ]
         have hval:∀(i':Nat) (r:List PV) (j':Nat) (p:PV),bK[i']? =some r→r[j']? =some p→∃u,news[i'*n+j']? =some u∧RP (bad X.M E) w p u:=fun i' r j' p h5 h6=>by
          rw[←RA]at h5;have gC:r=zp:=(Dg.1 (cH h5)).2;subst gC;have kI:i'<N:=by have:=(cN.1 h5).1;simpa using this
          have hj':j'<n:=by rw[←hzl];exact(cN.1 h6).1
          obtain⟨cc,h7,h8⟩:=hl2 j' p h6;obtain⟨u',h9,h10,_⟩:=kJ.2 j' cc h7;have hlt:i'*n+j'<N*n:=by
            have:(i'+1)*n≤N*n:=fx _ kI;rw[kl]at this;omega
          refine⟨u',?_,RC.pv h10 h8⟩;rw[ahn _ hlt,show(i'*n+j')%n=j' by rw[SH,aiC,IM hj']];obtain⟨q,hq⟩:=dY.1 h9;rw[getElem!_pos z.cells j' q,hq]
         have lG:∀u∈news,u.oneCell'=true:=fun u hu'=>by
          obtain⟨q,hq⟩:=List.getElem?_of_mem hu';have tU:=(cN.1 hq).1;rw[eW,hrl]at tU;rw[ahn q tU]at hq;have hqm:q%n<n:=Nat.mod_lt _ df;have aGP:q%n<z.cells.size:=by rw[hzs];exact hqm
          have aGQ:q%n<zs.length:=by rw[←kJ.1];exact aGP
          obtain⟨u',h9,_,h10⟩:=kJ.2 (q%n) _ (bX aGQ);obtain⟨q',hq'⟩:=dY.1 h9;rw[getElem!_pos z.cells _ q',hq']at hq;cases hq;exact h10
         rw[iH];have hnil:a.eval s= .slice none 0 0→rows=[]→(∀m∈ms,m<st.next)→
            ∃u w' E',(Builtin.append_ #[t,t'] ty #[a.eval s,.int .i64 N]).run X.P w= .ok u w'∧(∀n,n≠d→E.N n=none→E'.N n=none)∧Rel X E' (st.cq ⟨[(d,.row e (rows++bK))],ms⟩) a w'∧RV X.M E' w' (.c (.own d)) u:=by
          intro hA h0 pF;subst h0;rw[hA];have hD:=h.drop ms pF;have pG:(E.drop ms).N d=none:=Env.kC hd;have pH:∀b,(st.cq ⟨[],ms⟩).cq ⟨[(d,b)],[]⟩=st.cq ⟨[(d,b)],ms⟩:=fun b=>by simp[ak.cq]
          have ru:=grownCap_ge w bK.length 0 e;have iI:=grownCap_le_maxLen w bK.length 0 e (by simpa using hlen);have hf:=hD.uK pG eM dJ (e:=e) df gy.symm kg ru iI (us:=news.toArray++Builtin.zeroCells z.cells (grownCap w bK.length 0 e-bK.length))
            (by simp only[zw,rT,size_zeroCells,hzs,eW,←iO];congr 1;omega)
            (fun i r j p k1 k2=>by
              obtain⟨u,k3,k4⟩:=hval i r j p k1 k2;have hk:=(cN.1 k3).1;exact⟨u,by rw[oU,au (by simpa using hk)];simpa using k3,k4.trans (hst ms)⟩) (wd:=w.drew) (.inr rfl)
          rw[pH]at hf;refine⟨_,_,_,?_,fun k hk fJ=>by rw[Env.lb hk];exact Env.kC fJ,hf.1,hf.2⟩;have hw:IntKind.i64.wrap (N:Int)=(N:Int):=by rw[IntKind.wrap_i64];omega
          have e1:¬((N:Int)<0):=om;have aJL:N*b≤140737488355328:=by simpa[hrl]using hby
          have e2:¬(281474976710656< (N:Int)*(i.bytes:Int)):=by rw[hib,←zA];omega
          have e3:¬(9223372036854775807< (N:Int)):=om;have e4:¬(281474976710656<Builtin.nextslicecap N 0*i.bytes):=by rw[nextslicecap_zero hN,hib];omega
          have e6:¬N=0:=om;have e7:¬n=0:=om;have e5:N*n≠0:=SJ (SK hN df);have e8:¬((N:Int)≤0):=om;have e9:max (N:Int) 0=N:=om;rw[hrl,←hnews];simp[Builtin.append_,run_underlying hu,run_underlying hk,sizeOf,typeInfo,zeroValue,hi,hz,bW,asInt,asIntOf,hw,e1,e2,e3,e4,e5,e6,e7,e8,e9,Question.forced,Builtin.firstCells,newRow,grownCap]
         have hrow:∀(m:Nat) (y:Nm) (g:Nat) (cur:Array aD) (fz:Nat×Nat),nc cur.size fz→m∉st.ao→E.N m=some y→y.g=some g→w.heap[g]? =some (.cells cur e fz)→y.sz=n→y.cap≤maxLen→cur.size=y.cap*n→rows.length≤y.cap→
            (∀(i:Nat) (r:List PV) (j:Nat) (p:PV),rows[i]? =some r→r[j]? =some p→∃u,cur[i*n+j]? =some u∧RP (bad X.M E) w p u)→a.eval s= .slice (some ⟨g,0,none⟩) rows.length y.cap→ms=[m]→
            ∃u w' E',(Builtin.append_ #[t,t'] ty #[a.eval s,.int .i64 N]).run X.P w= .ok u w'∧(∀n,n≠d→E.N n=none→E'.N n=none)∧Rel X E' (st.cq ⟨[(d,.row e (rows++bK))],ms⟩) a w'∧RV X.M E' w' (.c (.own d)) u:=by
          intro m y g0 cur fz ca iJ hN yY hg0 mG tK tL lH tM ry pF;subst pF;have yZ:=h.cR m y hN;rw[ry];have hmul:rows.length*n≤cur.size:=by rw[tL];exact fx _ lH
          have gz:(cur.toList.take (rows.length*n)).length=rows.length*n:=by simp;omega
          have rz:∀(us:Array aD),(∀k,k<rows.length*n+news.length→us[k]? =(cur.toList.take (rows.length*n)++news)[k]?)→∀(i:Nat) (r:List PV) (j:Nat) (p:PV),(rows++bK)[i]? =some r→r[j]? =some p→∃u,us[i*n+j]? =some u∧RP (bad X.M E) w p u:=by
            intro us cS i r j p k1 k2;have hrn:r.length=n:=(g_.app kg) r (cH k1);have hj:=(cN.1 k2).1;rw[ki]at k1;split at k1
            · rename_i hlt;obtain⟨u,k3,k4⟩:=tM i r j p k1 k2;have:(i+1)*n≤rows.length*n:=fx _ hlt;rw[kl]at this;refine⟨u,?_,k4⟩;rw[cS _ om,ki,au (by rw[gz];omega),jD,au om];simpa using k3
            · rename_i hlt;obtain⟨u,k3,k4⟩:=hval _ r j p k1 k2;have hk:=(cN.1 k3).1;have e1:i*n=rows.length*n+(i-rows.length)*n:=by rw[←iO];congr 1;omega
              refine⟨u,?_,k4⟩;rw[cS _ om,ki,aE (by rw[gz];omega),gz,←k3];congr 1;omega
          by_cases hroom:rows.length+bK.length≤y.cap
          · have gx:rows.length*n+news.length≤cur.size:=by rw[eW,tL,←iO];exact fx _ hroom
            have hr:=anU (P:=X.P) w t t' ty e i z hu hk hi hz g0 rows.length y.cap cur ca hg0 N hNp om om (by rw[hib];have:N*b≤(rows.length+bK.length)*b:=fx _ om;omega) (by rw[hnews];exact lG) om (by rw[bW,hnews];exact gx)
            conv at hr=>rhs;rw[hnews,←hrl]
            rw[bW]at hr;have hk:=h.take (d:=d) yZ hN yY hg0 (us:=(cur.toList.take (rows.length*n)++news++cur.toList.drop (rows.length*n+news.length)).toArray) (by rw[show(cur.toList.take (rows.length*n)++news++cur.toList.drop (rows.length*n+news.length)).toArray.size=cur.size by simp;omega];exact ca) hd eM dJ rq (rows:=rows++bK) (by rw[mG];exact g_.app kg) om (by rw[mG,gy]) (by simpa using hroom) tK
              (by rw[mG,←tL];simp;omega) (by
               rw[mG];refine rz _ fun k hk=> ?_
               rw[zv,ki,au (by simp only[dL,gz];exact hk)])
            simp only[dL]at hk;exact⟨_,_,_,hr,fun k hk fJ=>by rw[Env.lb hk];exact Env.kC fJ,hk.1,hk.2⟩
          · have holds:∀j v,(cur.toList.take (rows.length*n))[j]? =some v→w.cell? ((⟨g0,0,none⟩:Addr).add j)=some v:=fun j u hj=>by
              rw[ox,cell_of_row w g0 _ cur e fz hg0];simpa using(xe hj).1
            have hr:=axu (P:=X.P) (w:=w) t t' ty e i z hu hk hi hz ⟨g0,0,none⟩ rows.length y.cap (cur.toList.take (rows.length*n)) (by rw[bW];exact gz) holds N hNp om (by rw[hib];have:N*b≤(rows.length+bK.length)*b:=fx _ om;omega) om om
              (by rw[hib,←hrl];exact growslice_fits om hby)
            conv at hr=>rhs;rw[hnews,←hrl]
            have ru:=grownCap_ge w (rows.length+bK.length) y.cap e;have iI:=grownCap_le_maxLen w (rows.length+bK.length) y.cap e hlen;have gA:∀k,k<rows.length*n+news.length→((cur.toList.take (rows.length*n)).toArray++news.toArray++Builtin.zeroCells z.cells (grownCap w (rows.length+bK.length) y.cap e- (rows.length+bK.length)))[k]? =(cur.toList.take (rows.length*n)++news)[k]?:=by
              intro k hk;rw[oU,au (by simp only[zw,rT,gz];exact hk)];simp[ki,oU]
            have hD:=h.drop [m] (by simpa using yZ);have pG:(E.drop [m]).N d=none:=Env.kC hd;have pH:∀b,(st.cq ⟨[],[m]⟩).cq ⟨[(d,b)],[]⟩=st.cq ⟨[(d,b)],[m]⟩:=fun b=>by simp[ak.cq]
            have hf:=hD.uK pG eM dJ (e:=e) df gy.symm (rows:=rows++bK) (g_.app kg) (cap:=grownCap w (rows.length+bK.length) y.cap e) (by simpa using ru) iI
              (us:=(cur.toList.take (rows.length*n)).toArray++news.toArray++Builtin.zeroCells z.cells (grownCap w (rows.length+bK.length) y.cap e- (rows.length+bK.length)))
              (by simp only[zw,rT,size_zeroCells,hzs,eW,gz,←iO];congr 1;omega)
              (fun i r j p k1 k2=>by
               obtain⟨u,k3,k4⟩:=rz _ gA i r j p k1 k2;exact⟨u,k3,k4.trans (hst [m])⟩) (wd:=w.drew) (.inr rfl)
            rw[pH]at hf;simp only[dL]at hf;exact⟨_,_,_,hr,fun k hk fJ=>by rw[Env.lb hk];exact Env.kC fJ,hf.1,hf.2⟩
         cases cs with
         |nil=>
          simp[ak.fy]at dK;obtain⟨rfl,rfl⟩:=dK;exact hnil hsc rfl (by simp)
         | own m=>
          simp only[ak.fy]at dK;have iJ:=pE m (by simp[C.names]);split at dK
          · rename_i e' y4 hl;split at dK
            · rename_i fK;subst fK;cases dK;obtain⟨y,cur,fz,h1,ca,h2,h3,h4,h5,h6,h11,h7,h8,h10,h9⟩:=h.row iJ hl;obtain⟨y',k1,k2⟩:=bT.get hsc (by rw[h.ao];exact iJ);rw[h1]at k1;cases k1;have kH:y.sz=n:=by rw[h11,gy]
              cases hg:y.g with
              |none=>
               have hc0:=h10 hg;have hl0:y.len=0:=om;rw[hg,hl0,hc0]at k2;exact hnil (by simpa using k2) (iq om) (by simpa using h.cR m y h1)
              |some g=>
               rw[hg,h3]at k2;exact hrow m y g cur fz ca iJ h1 hg (h2 g hg) kH h5 (by rw[←kH];exact h7) om (by rw[←kH];exact h9) (by simpa using k2) rfl
            · cases dK
          · cases dK
         | sub m lo len=>
          cases lo with
          |succ lo=>simp[ak.fy]at dK
          |zero=>
          simp only[ak.fy]at dK;have iJ:=pE m (by simp[C.names]);split at dK
          · rename_i e' y4 hl;split at dK
            · rename_i fK;subst fK;cases dK;obtain⟨y,cur,fz,h1,ca,h2,h3,h4,h5,h6,h11,h7,h8,h10,h9⟩:=h.row iJ hl;obtain⟨y',k1,k2,A,k3,k4⟩:=bT.get hsc (by rw[h.ao];exact iJ);rw[h1]at k1;cases k1;have kH:y.sz=n:=by rw[h11,gy]
              have hA:=k4 (.inr rfl);have tN:(y4.take len).length=len:=by simp;omega
              cases hg:y.g with
              |none=>
               have hc0:=h10 hg;have hl0:len=0:=om;rw[hA,hg,hl0,hc0]at k3;exact hnil (by simpa using k3) (by rw[hl0];simp) (by simpa using h.cR m y h1)
              |some g=>
               rw[hA,hg]at k3;refine hrow m y g cur fz ca iJ h1 hg (h2 g hg) kH h5 (by rw[←kH];exact h7) (by rw[tN];omega) (fun i r j p hi hj=> ?_) (by rw[tN];simpa using k3) rfl;rw[←kH];exact h9 i r j p (xe hi).1 hj
            · cases dK
          · cases dK
         |_=>simp[ak.fy]at dK
       · cases he
     · cases he
   · cases he
 · cases he
end
noncomputable def qM (P:aQ) (st:ak) (d:Nat) (t t':aw) (s x:aM):Option (V×dB):=match pq P st d t t' s x with
 |some r=>some r
 |none=>uX P st d t t' s x
section
variable {X:Fx} {E:Env} {st:ak} {a:Act} {w:av}
theorem ard (h:Rel X E st a w) {d:Nat} (hd:E.N d=none) (eM:X.k0≤d) (dJ:d<st.next) (rq:d∉st.ao) {t t' ty:aw} {s x:aM} {v:V} {ef:dB}
   (he:qM X.P st d t t' s x=some (v,ef)):
   ∃u w' E',(Builtin.append_ #[t,t'] ty #[a.eval s,a.eval x]).run X.P w= .ok u w'∧(∀n,n≠d→E.N n=none→E'.N n=none)∧Rel X E' (st.cq ef) a w'∧RV X.M E' w' v u:=by
 unfold qM at he;split at he
 · rename_i r hr;cases he;exact awI h hd eM dJ hr
 · exact awb h hd eM dJ rq he
end
theorem UI:∀{rows:List (List PV)},eA 1 rows→∀j:Nat,rows.flatten[j]? =(rows[j]?).bind (·[0]?)
 |[],_,j=>by simp
 | r::rows,h,j=>by
  have h1:r.length=1:=h r (by simp)
  match r,h1 with
  | [p],_=>
   cases j with
   |zero=>rfl
   |succ j=>
    simp only[aix,fv,fa,zB];exact UI (fun r hr=>h r (by simp[hr])) j
noncomputable def yQ (P:aQ) (st:ak) (t:aw) (x:aM):Option V:=
 match st.arg x,la P t with
 |some (.v (.c (.p (.sl rows)))),some (n,_)=>if 0<n∧n≤rows.length∧bA 1 rows=true then some (.v (.c (.ref (rows.take n).flatten)))else none
 |_,_=>none
section
variable {X:Fx} {E:Env} {st:ak} {a:Act} {w:av}
theorem alE (h:Rel X E st a w) {t:aw} {x:aM} {v:V}
   (he:yQ X.P st t x=some v):∃u,(Instr.arrayAt t (a.eval x)).run X.P w= .ok u w∧RV X.M E w v u:=by
 unfold yQ at he;split at he
 · rename_i rows n e hx ht;obtain⟨hu,_⟩:=D0 ht;split at he
   · rename_i hb;obtain⟨b0,b1,b2⟩:=hb;cases he;have hr:RP (bad X.M E) w (.sl rows) (a.eval x):=(h.bU hx).1;have hR:=nZ.1 b2;generalize a.eval x=y at hr
     cases hr with
     |nil=>simp at b1;omega
     | @row _ g o cap sz f h0 hl hm hs hcc tI=>
      have bj:sz=1:=by
        cases rows with
        |nil=>exact absurd rfl h0
        |cons r rows=>rw[←hs r (by simp),hR r (by simp)]
      subst bj;refine⟨.pointer (some ⟨g,o,none⟩),?_,g,o,rfl,fun j p hj=> ?_⟩
      · simp[Instr.arrayAt,run_underlying hu,Nat.not_lt.2 b1]
      · rw[UI (fun r hr=>hR r (hU hr))]at hj;simp only[gE]at hj;obtain⟨r,h1,h2⟩:=hj;rw[jD]at h1;split at h1
        · have k1:=hcc j r 0 p h1 h2;have k2:=tI j r 0 p h1 h2;rw[IK,gb]at k1;exact⟨_,k1.1,k1.2,k2⟩
        · cases h1
   · cases he
 · cases he
end
def yk (P:aQ) (f:Field) (i:Nat):Bool:=decide (f.offset=i)&&decide (f.name≠ "_")&& (match P.underlying f.type with
 |some (.int _)=>true
 |_=>false)
def xQ (P:aQ) (t:aw):Bool:=match P.underlying t with
 |some (.struct fs)=>match fs.toList with
  |[f0,f1,f2,f3]=>yk P f0 0&&yk P f1 1&&yk P f2 2&&yk P f3 3&& !P.stoodInHeld t&& !P.eqGuardType P.depth t
  |_=>false
 |_=>false
theorem FC {P:aQ} {f:Field} {i:Nat} (h:yk P f i=true):f.offset=i∧f.name≠ "_" ∧∃k,P.underlying f.type=some (.int k):=by
 simp only[yk,bt,cg]at h;obtain⟨⟨h1,h2⟩,h3⟩:=h;refine⟨h1,h2,?_⟩;split at h3
 · rename_i k hk;exact⟨k,hk⟩
 · cases h3
theorem eq_int {P:aQ} {w:av} {t:aw} {k k':bS} {a b:Int} (ht:P.underlying t=some (.int k')) (d:Nat):
  (Op.equalIn (d+1) t (.int k a) (.int k b)).run P w= .ok (a==b) w:=by
 simp[Op.equalIn,run_underlying ht]
theorem Ej {P:aQ} {w:av} {t:aw} {k:bS} (ht:P.underlying t=some (.int k)) {cs:Array aD} {i:Nat} {v:aD} (hv:cs[i]? =some v):
  (part t cs i).run P w= .ok v w:=by
 simp[part,isAgg,run_underlying ht,hv]
theorem aAM {P:aQ} {t:aw} (h:xQ P t=true) (w:av) {k0 k1 k2 k3:bS} (a0 a1 a2 a3 b0 b1 b2 b3:Int):
   (Op.equal t (.agg #[.int k0 a0,.int k1 a1,.int k2 a2,.int k3 a3]) (.agg #[.int k0 b0,.int k1 b1,.int k2 b2,.int k3 b3])).run P w= .ok (a0==b0&&a1==b1&&a2==b2&&a3==b3) w∧
     P.eqGuardType P.depth t=false:=by
 unfold xQ at h;split at h
 · rename_i fs hu;split at h
   · rename_i f0 f1 f2 f3 kK;simp only[bt,lO]at h;obtain⟨⟨⟨⟨⟨h0,h1⟩,h2⟩,h3⟩,h4⟩,h5⟩:=h;obtain⟨o0,n0,j0,u0⟩:=FC h0;obtain⟨o1,n1,j1,u1⟩:=FC h1;obtain⟨o2,n2,j2,u2⟩:=FC h2;obtain⟨o3,n3,j3,u3⟩:=FC h3;obtain rfl:fs= #[f0,f1,f2,f3]:=by
      cases fs;simp at kK;subst kK;rfl
     refine⟨?_,h5⟩;have key:∀d,(Op.equalIn (d+1+1) t (.agg #[.int k0 a0,.int k1 a1,.int k2 a2,.int k3 a3]) (.agg #[.int k0 b0,.int k1 b1,.int k2 b2,.int k3 b3])).run P w= .ok (a0==b0&&a1==b1&&a2==b2&&a3==b3) w:=by
      intro d;rw[Op.equalIn];simp[run_underlying hu,h4,n0,n1,n2,n3,o0,o1,o2,o3,Ej u0,Ej u1,Ej u2,Ej u3,eq_int u0,eq_int u1,eq_int u2,eq_int u3];by_cases e0:a0=b0<;>by_cases e1:a1=b1<;>by_cases e2:a2=b2<;>by_cases e3:a3=b3<;>simp[e0,e1,e2,e3]
     exact key 9998
   · cases h
 · cases h
theorem aqz {P:aQ} {t:aw} (h:xQ P t=true) (w:av) (x y:aM) {k0 k1 k2 k3:bS} (a0 a1 a2 a3 b0 b1 b2 b3:Int):
   (do eqGuard .eql t x y (.agg #[.int k0 a0,.int k1 a1,.int k2 a2,.int k3 a3]) (.agg #[.int k0 b0,.int k1 b1,.int k2 b2,.int k3 b3]);binOp .eql t (.agg #[.int k0 a0,.int k1 a1,.int k2 a2,.int k3 a3]) (.agg #[.int k0 b0,.int k1 b1,.int k2 b2,.int k3 b3])).run P w= .ok (.bool (a0==b0&&a1==b1&&a2==b2&&a3==b3)) w∧
   (do eqGuard .neq t x y (.agg #[.int k0 a0,.int k1 a1,.int k2 a2,.int k3 a3]) (.agg #[.int k0 b0,.int k1 b1,.int k2 b2,.int k3 b3]);binOp .neq t (.agg #[.int k0 a0,.int k1 a1,.int k2 a2,.int k3 a3]) (.agg #[.int k0 b0,.int k1 b1,.int k2 b2,.int k3 b3])).run P w= .ok (.bool (!(a0==b0&&a1==b1&&a2==b2&&a3==b3))) w:=by
 obtain⟨h1,h2⟩:=aAM h w a0 a1 a2 a3 b0 b1 b2 b3 (k0:=k0) (k1:=k1) (k2:=k2) (k3:=k3);constructor
 · simp[eqGuard,binOp,run_program,h1,h2]
 · simp[eqGuard,binOp,run_program,h1,h2]
def FM (P:aQ) (op:BinOp) (t:aw):List C→List C→Option Bool
 | [.p (.sc (.int k0 a0)),.p (.sc (.int k1 a1)),.p (.sc (.int k2 a2)),.p (.sc (.int k3 a3))],[.p (.sc (.int j0 b0)),.p (.sc (.int j1 b1)),.p (.sc (.int j2 b2)),.p (.sc (.int j3 b3))]=>
  if xQ P t=true∧k0=j0∧k1=j1∧k2=j2∧k3=j3 then match op with
   | .eql=>some (a0==b0&&a1==b1&&a2==b2&&a3==b3)
   | .neq=>some (!(a0==b0&&a1==b1&&a2==b2&&a3==b3))
   |_=>none
  else none
 |_,_=>none
theorem RP.slice3 {M:bY} {w:av} {rows:List (List PV)} {A:Option Addr} {n cap size:Nat} (hr:RP M w (.sl rows) (.slice A n cap)) (hR:eA size rows) {l h:Nat} (h1:l≤h) {m:Nat} (hm1:h≤m) (H5:m≤rows.length):
   RP M w (.sl ((rows.take h).drop l)) (.slice (if m=l then A else A.map (·.add (l*size))) (h-l) (m-l)):=by
 by_cases Rj:l=h
 · subst Rj;have:(rows.take l).drop l=[]:=by simp
   rw[this,II];exact .nil
 · cases hr with
   |nil=>simp at H5;omega
   | @row _ g o cap sz f h0 hl hm hs hcc tI=>
    have h2:h≤rows.length:=uf hm1 H5;have hlen:((rows.take h).drop l).length=h-l:=by simp;omega
    have bj:∀r∈rows,sz=size:=fun r hr=>by rw[←hs r hr];exact hR r hr
    have hne:m≠l:=om;rw[aE hne,←hlen];simp only[aJ,ox];have hg:∀(i:Nat) (r:List PV),((rows.take h).drop l)[i]? =some r→rows[l+i]? =some r:=by
      intro i r hi;rw[kP,jD]at hi;split at hi
      · exact hi
      · cases hi
    have df:∀(i:Nat) (r:List PV) (j:Nat),((rows.take h).drop l)[i]? =some r→o+l*size+i*sz+j=o+(l+i)*sz+j:=by
      intro i r j hi;have:=bj r (cH (hg i r hi));subst this;rw[iO];omega
    refine RP.row (sz:=sz) (f:=fun i j=>f (l+i) j) (by intro h3;rw[h3]at hlen;simp at hlen;omega) (by rw[hlen];omega) om (fun r hr=>hs r (hU (oR hr))) ?_ ?_
    · intro i r j p hi hj;rw[df i r j hi];exact hcc (l+i) r j p (hg i r hi) hj
    · intro i r j p hi hj;exact tI (l+i) r j p (hg i r hi) hj
theorem RP.aFF {M:bY} {w:av} {rows:List (List PV)} {v:aD} (h:RP M w (.sl rows) v):∃A n cap,v= .slice A n cap∧rows.length≤cap:=by
 cases h with
 |nil=>exact⟨_,_,_,rfl,p6 _⟩
 |row h0 hl=>exact⟨_,_,_,rfl,hl⟩
theorem aDt {P:aQ} (isSlice:Bool) (len cap:Nat) (lo:Option aD) {l h m:Int} {k1 k2:bS} (dr:lo=none∧l=0∨∃k,lo=some (.int k l))
   (h0:0≤l) (h1:l≤h) (h2:h≤m) (h3:m≤cap) (w:av):(Instr.sliceBounds isSlice len cap lo (some (.int k1 h)) (some (.int k2 m))).run P w= .ok (l.toNat,h.toNat,m.toNat) w:=by
 have e1:∀(k:bS) (y:Nat) (c:BoundsCode) (i:Int),0≤i→i≤y→(Instr.sliceBound (.int k i) y c).run P w= .ok i.toNat w:=by
   intro k y c i hi0 il;simp[Instr.sliceBound,asIntOf,hi0,il]
 rcases dr with⟨rfl,rfl⟩| ⟨k,rfl⟩
 · simp[Instr.sliceBounds,e1 k2 cap _ m om h3,e1 k1 m.toNat _ h om om]
 · simp[Instr.sliceBounds,e1 k2 cap _ m om h3,e1 k1 m.toNat _ h om om,e1 k h.toNat _ l h0 om]
noncomputable def xz (P:aQ) (st:ak) (t:aw) (x:aM) (lo:Option aM) (hi mx:aM):Option V:=
 match st.arg x,eL P t,st.num lo 0,st.arg hi,st.arg mx with
 |some (.v (.c (.p (.sl rows)))),some e,some l,some (.v (.c (.p (.sc (.int _ h))))),some (.v (.c (.p (.sc (.int _ m)))))=>
  if 0≤l∧l≤h∧h≤m∧m.toNat≤rows.length∧bA (db P e) rows=true then some (.v (.c (.p (.sl ((rows.take h.toNat).drop l.toNat)))))else none
 |_,_,_,_,_=>none
section
variable {X:Fx} {E:Env} {st:ak} {a:Act} {w:av}
theorem asl (h:Rel X E st a w) {t:aw} {x hi mx:aM} {lo:Option aM} {v:V}
   (he:xz X.P st t x lo hi mx=some v):∃u,(Instr.sliceAt t (a.eval x) (lo.map a.eval) (some (a.eval hi)) (some (a.eval mx))).run X.P w= .ok u w∧RV X.M E w v u:=by
 unfold xz at he;split at he
 · rename_i rows e l k1 hh k2 m hx ht dr eC hmx;obtain⟨hu,kG⟩:=ph ht;split at he
   · rename_i hb;obtain⟨b0,b1,b2,b3,b4⟩:=hb;cases he;have hr:RP (bad X.M E) w (.sl rows) (a.eval x):=(h.bU hx).1;have e1:=RP.dv (h.bU eC).1;have e2:=RP.dv (h.bU hmx).1;obtain⟨A,n,cap,hA,lF⟩:=RP.aFF hr;rw[hA]at hr;have h4:=aDt (P:=X.P) true n cap (lo.map a.eval) (k1:=k1) (k2:=k2) (Bi h dr) b0 b1 b2 om w;refine⟨_,?_,RP.slice3 hr (nZ.1 b4) (l:=l.toNat) (h:=hh.toNat) (m:=m.toNat) om om b3⟩;rw[hA,e1,e2];simp[Instr.sliceAt,Instr.slice,run_underlying hu,h4,run_sizeOf w kG,db]
   · cases he
 · cases he
end
end
end
end Go.Proofs.YtndegphojkiblaaGreatDoor
