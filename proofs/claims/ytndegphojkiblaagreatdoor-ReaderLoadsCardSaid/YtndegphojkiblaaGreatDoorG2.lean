/- Towards the last file's theorem: part 2. -/
import Derived.Test.YtndegphojkiblaaGreatDoorG1
import Derived.Laws.Tables
import Derived.Laws.BytesArg
import Derived.Laws.IdiomStrings
set_option linter.all false
set_option maxHeartbeats 4000000
set_option maxRecDepth 100000
namespace Go.Proofs.YtndegphojkiblaaGreatDoor
noncomputable section
section
open Go.RowKit
open Classical
def Env.drop (E:Env) (ns:List Nat):Env:=⟨fun n=>if n∈ns then none else E.N n,ns++E.ao⟩
theorem drop_nil (E:Env):E.drop []=E:=by simp[Env.drop]
theorem mZ {E:Env} {ns:List Nat} {n:Nat} {x:Nm} (h:(E.drop ns).N n=some x):E.N n=some x∧n∉ns:=by
 simp_all[Env.drop]
theorem sf {M:bY} {E:Env} {ns:List Nat} {g:Nat} (h:bad M (E.drop ns) g):bad M E g:=by
 rcases h with h| ⟨n,x,h1,h2⟩
 · exact .inl h
 · exact .inr ⟨n,x,(mZ h1).1,h2⟩
theorem I0 (M:bY) (E:Env) (ns:List Nat) (w:av):gk M E (E.drop ns) w w:={
 cell:=fun _ _ _ h1 h2=> ⟨h1,fun h=>h2 (sf h)⟩
 name:=fun n x hx=>by
  by_cases hn:n∈ns
  · exact .inl (by simp[Env.drop,hn])
  · exact .inr (by simp[Env.drop,hn,hx])
 ao:=fun n hn=>by simp[Env.drop,hn]}
section
variable {X:Fx} {E:Env} {st:ak} {a:Act} {w:av}
theorem Rel.drop (h:Rel X E st a w) (ns:List Nat) (fp:∀n∈ns,n<st.next):Rel X (E.drop ns) (st.cq ⟨[],ns⟩) a w:=
 h.step ⟨[],ns⟩ (nx:=st.next) (cT _) (I0 _ _ _ _) (by simp[Env.drop,h.ao]) h.frame (fun n x hx=>h.cR n x (mZ hx).1) (fun n x g hx=>h.names n x g (mZ hx).1)
  (fun n m x y g hx hy=>h.inj n m x y g (mZ hx).1 (mZ hy).1) (fun m _=>by simp only[Env.drop];split;exact .inl rfl;exact .inr rfl) fp (fun _ _ _ _ _ _ _=>rfl) (fun n b hl=>by simp at hl)
theorem Rel.write (h:Rel X E st a w) {n:Nat} {x:Nm} (hN:E.N n=some x) {g:Nat} (gZ:x.g=some g) {cur:Array aD} {e:aw} {fz:Nat×Nat} (hg:w.heap[g]? =some (.cells cur e fz)) (us:Array aD) (ns:List Nat) (fp:∀m∈ns,m<st.next) (b:cO)
   (hb:gk X.M E (E.drop ns) w (w.setRow g us)→(w.setRow g us).heap[g]? =some (.cells us e fz)→n∉ns→RB X.P X.M (E.drop ns) (w.setRow g us) n b):
   gk X.M E (E.drop ns) w (w.setRow g us)∧Rel X (E.drop ns) (st.cq ⟨[(n,b)],ns⟩) a (w.setRow g us):=by
 have oD:∀k,k≠g→(w.setRow g us).heap[k]? =w.heap[k]?:=fun k hk=>setRow_other w g k _ hk
 have bj:(w.setRow g us).heap.size=w.heap.size:=by simp_all
 obtain⟨hx1,hx2,hx3⟩:=h.names n x g hN gZ;have hG:gk X.M E (E.drop ns) w (w.setRow g us):={
   cell:=fun k o u k1 k2=>by
     have:k≠g:=by rintro rfl;exact k2 (.inr ⟨n,x,hN,gZ⟩)
     exact⟨(World.cell?_of_block (w:=w) (a:=⟨k,o,none⟩) (oD k this)).trans k1,fun h=>k2 (sf h)⟩
   name:=(I0 X.M E ns w).name
   ao:=(I0 X.M E ns w).ao}
 refine⟨hG,h.step ⟨[(n,b)],ns⟩ (nx:=st.next) (cT _) hG (by simp[Env.drop,h.ao]) ?_ (fun n x hx=>h.cR n x (mZ hx).1) (fun n x g hx=>by rw[bj];exact h.names n x g (mZ hx).1)
   (fun n m x y g hx hy=>h.inj n m x y g (mZ hx).1 (mZ hy).1) (fun m _=>by simp only[Env.drop];split;exact .inl rfl;exact .inr rfl) fp ?_ ?_⟩
 · refine h.frame.trans (K':=fun k=>k=g) ⟨rfl,rfl,rfl,om,fun k _ hk=>oD k hk⟩ ?_;rintro k hk rfl;rcases hx2 with h1|h1
   · exact h1
   · omega
 · intro m y k hy hk _ hl;refine oD _ fun he=> ?_
   subst he;have:=h.inj m n y x k hy hN hk gZ;simp_all
 · intro m b' hl;simp only[eR,oQ]at hl;split at hl
   · rename_i heq;simp at heq hl;subst heq hl;by_cases hm:m∈ns
     · exact .inl (by simp[Env.drop,hm])
     · exact .inr (hb hG (setRow_heap w g cur us e _ hg) hm)
   · cases hl
theorem Rel.aoc (h:Rel X E st a w) {n:Nat} {x:Nm} (hN:E.N n=some x):n<st.next:=h.cR n x hN
def ak.sink (st:ak):C→Option (PV×List Nat)
 | .p q=>some (q,[])
 | .nil=>some (.sl [],[])
 | .own n=>match st.heap.lookup n with
  |some (.row _ rows)=>some (.sl rows,[n])
  |_=>none
 | .sub n lo len=>match st.heap.lookup n with
  |some (.row _ rows)=>some (.sl ((rows.drop lo).take len),[n])
  |_=>none
 |_=>none
theorem Rows.rp {M M':bY} {w:av} {rows:List (List PV)} {v:aD} (h:Rows M w rows v) (hM:∀g,M' g→M g) (hb:∀g o n c,v= .slice (some ⟨g,o,none⟩) n c→¬M' g):RP M' w (.sl rows) v:=by
 rcases h with⟨rfl,A,cap,rfl⟩| ⟨g,o,cap,sz,f,rfl,h0,hl,hm,hR,hc⟩
 · exact .nil
 · have hs:iB M M' w w:=fun k o u h1 h2=> ⟨h1,fun h=>h2 (hM k h)⟩
   exact .row h0 hl hm hR (fun i r j p hi hj=> ⟨(hc i r j p hi hj).1,hb g o _ _ rfl⟩) (fun i r j p hi hj=> (hc i r j p hi hj).2.trans hs)
theorem Rel.sink (h:Rel X E st a w) {c:C} {v:aD} {q:PV} {ns:List Nat} (hc:RC X.M E w c v) (hn:∀n∈c.names,n∉st.ao) (hs:st.sink c=some (q,ns)):
  (∀n∈ns,n<st.next)∧(∀n∈ns,n∉st.ao)∧∀eg,(∀n∈ns,n∈eg)→RP (bad X.M (E.drop eg)) w q v:=by
 have hst:∀eg,iB (bad X.M E) (bad X.M (E.drop eg)) w w:=fun eg k o u h1 h2=> ⟨h1,fun h=>h2 (sf h)⟩
 have key :∀n lo len,n∉st.ao→RC X.M E w c v→(c= .own n∨c= .sub n lo len)→∀rows,st.view c=some rows→
    (∀k∈ [n],k<st.next)∧(∀k∈ [n],k∉st.ao)∧∀eg,(∀k∈ [n],k∈eg)→RP (bad X.M (E.drop eg)) w (.sl rows) v:=by
  intro n lo len fq hc hcc rows hv;have hr:=h.view hc hn hv;have hx :∃x,E.N n=some x∧∀g o m cp,v= .slice (some ⟨g,o,none⟩) m cp→x.g=some g∨m=0:=by
    rcases hcc with rfl|rfl
    · obtain⟨x,h1,rfl⟩:=bT.get hc (by rw[h.ao];exact fq);simp_all
    · obtain⟨x,h1,h2,A,rfl,h4⟩:=bT.get hc (by rw[h.ao];exact fq);refine⟨x,h1,fun g o m cp he=> ?_⟩;simp at he;by_cases hl0:len=0
      · right;omega
      · left;simp only[ak.view]at hv;split at hv
        · rename_i e rs hlk;obtain⟨x',cur,fz,k3,ca,k4,k5,k6,_⟩:=h.row fq hlk;rw[h1]at k3;cases k3;rw[h4 om]at he
          cases hg:x.g with
          |none=>simp_all
          |some g'=>simp_all
        · cases hv
  obtain⟨x,hN,hx⟩:=hx;refine⟨by simpa using h.aoc hN,by simpa using fq,fun eg fp=> ?_⟩;by_cases h0:rows=[]
  · subst h0;rcases hr with⟨_,A,cap,rfl⟩| ⟨_,_,_,_,_,_,h0,_⟩
    · exact .nil
    simp_all
  · refine hr.rp (fun g hg=>sf hg) ?_;rintro g o m cp rfl hb;have hg:x.g=some g:=by
      rcases hx g o m cp rfl with h1|h1
      · exact h1
      · rcases hr with⟨h2,_⟩| ⟨g',o',cap,sz,f,h2,_⟩
        · exact absurd h2 h0
        · simp at h2;exact absurd (iq om) h0
    rcases hb with hb| ⟨k,y,h1,h2⟩
    · exact(h.names n x g hN hg).2.2 hb
    · obtain⟨h3,h4⟩:=mZ h1;have:=h.inj k n y x g h3 hN h2 hg;simp_all
 cases c with
 |p q'=>simp[ak.sink]at hs;obtain⟨rfl,rfl⟩:=hs;exact⟨by simp,by simp,fun eg _=>RP.trans hc (hst eg)⟩
 |nil=>simp[ak.sink]at hs;obtain⟨rfl,rfl⟩:=hs;cases hc;exact⟨by simp,by simp,fun eg _=> .nil⟩
 |own n=>
  simp only[ak.sink]at hs;split at hs
  · rename_i e rows hl;simp at hs;obtain⟨rfl,rfl⟩:=hs;exact key n 0 0 (hn n (by simp[C.names])) hc (.inl rfl) rows (by simp[ak.view,hl])
  · cases hs
 |sub n lo len=>
  simp only[ak.sink]at hs;split at hs
  · rename_i e rows hl;simp at hs;obtain⟨rfl,rfl⟩:=hs;exact key n lo len (hn n (by simp[C.names])) hc (.inr rfl) _ (by simp[ak.view,hl])
  · cases hs
 |_=>cases hs
def ak.sinks (st:ak):List C→Option (List PV×List Nat)
 |[]=>some ([],[])
 |c::cs=>match st.sink c,st.sinks cs with
  |some (q,ns),some (qs,ms)=>some (q::qs,ns++ms)
  |_,_=>none
theorem afI {st:ak}:∀{cs:List C} {qs:List PV} {ns:List Nat},st.sinks cs=some (qs,ns)→qs.length=cs.length∧(∀(i:Nat) (q:PV),qs[i]? =some q→∃c ms,cs[i]? =some c∧st.sink c=some (q,ms)∧∀m∈ms,m∈ns)∧
    ∀n∈ns,∃c q ms,c∈cs∧st.sink c=some (q,ms)∧n∈ms
 |[],qs,ns,h=>by simp[ak.sinks]at h;simp_all
 | c :: cs,qs,ns,h=>by
  simp only[ak.sinks]at h;split at h
  · rename_i q ms qs' ms' h1 h2;simp at h;obtain⟨rfl,rfl⟩:=h;obtain⟨h3,h4,h5⟩:=afI h2;refine⟨by simp[h3],fun i q' hi=> ?_,fun n hn=> ?_⟩
    · cases i with
      |zero=>simp at hi;subst hi;exact⟨c,ms,rfl,h1,fun m hm=>ui _ hm⟩
      | succ i=>
        obtain⟨c',Rk,k1,k2,k3⟩:=h4 i q' (by simpa using hi);exact⟨c',Rk,by simpa using k1,k2,fun m hm=>rR _ (k3 m hm)⟩
    · rcases ei.1 hn with h6|h6
      · exact⟨c,q,ms,by simp,h1,h6⟩
      · obtain⟨c',q',Rk,k1,k2,k3⟩:=h5 n h6;exact⟨c',q',Rk,by simp[k1],k2,k3⟩
  · cases h
theorem Rel.sinks (h:Rel X E st a w) {cs:List C} {us:Array aD} {qs:List PV} {ns:List Nat} (bj:us.size=cs.length) (hc:∀(i:Nat) (c:C),cs[i]? =some c→∃u,us[i]? =some u∧RC X.M E w c u) (hn:∀c∈cs,∀n∈c.names,n∉st.ao) (hs:st.sinks cs=some (qs,ns)):
  qs.length=us.size∧(∀n∈ns,n<st.next)∧(∀n∈ns,n∉st.ao)∧∀eg,(∀n∈ns,n∈eg)→∀(i:Nat) (q:PV),qs[i]? =some q→∃u,us[i]? =some u∧RP (bad X.M (E.drop eg)) w q u:=by
 obtain⟨h1,h2,h3⟩:=afI hs;have hall:∀n∈ns,n<st.next∧n∉st.ao:=by
  intro n cZ;obtain⟨c,q,ms,k1,k2,k3⟩:=h3 n cZ;obtain⟨i,hi,rfl⟩:=lQ k1;obtain⟨u,k4,k5⟩:=hc i _ (bX hi);obtain⟨k6,k7,_⟩:=h.sink k5 (hn _ k1) k2;simp_all
 refine⟨by rw[h1,bj],fun n cZ=> (hall n cZ).1,fun n cZ=> (hall n cZ).2,fun eg fp i q hi=> ?_⟩;obtain⟨c,ms,k1,k2,k3⟩:=h2 i q hi;obtain⟨u,k4,k5⟩:=hc i c k1;obtain⟨_,_,k6⟩:=h.sink k5 (hn c (cH k1)) k2;exact⟨u,k4,k6 eg (fun n cZ=>fp n (k3 n cZ))⟩
theorem WW {ao:List Nat} {y:V1} (hl:(V.v y).live ao=true):∀c∈y.cells,∀n∈c.names,n∉ao:=by
 cases y with
 |c c=>intro c' hc';simp[V1.cells]at hc';subst hc';exact(MX hl).2
 |agg cs=>exact atJ hl
noncomputable def uo (P:aQ) (st:ak) (t:aw) (x y:aM):Option dB:=
 match st.arg x,st.arg y with
 |some (.v (.c (.ptr n off))),some (.v y)=>match st.heap.lookup n with
  |some (.box cs)=>if y.cells.length=db P t∧off+y.cells.length≤cs.length∧mU P t=true then some ⟨[(n,.box (cs.take off++y.cells++cs.drop (off+y.cells.length)))],[]⟩else none
  |_=>none
 | some (.v (.c (.cB n i j))),some (.v y)=>match st.heap.lookup n,st.sinks y.cells with
  |some (.row e rows),some (qs,ns)=>match rows[i]? with
   |some r=>if qs.length=db P t∧j+qs.length≤r.length∧mU P t=true∧n∉ns then some ⟨[(n,.row e (rows.set i (r.take j++qs++r.drop (j+qs.length))))],ns⟩else none
   |none=>none
  |_,_=>none
 |_,_=>none
theorem sP {α:Type} {l ys:List α} {off k:Nat} (h:off+ys.length≤l.length):(l.take off++ys++l.drop (off+ys.length))[k]? =if off≤k∧k<off+ys.length then ys[k-off]? else l[k]?:=by
 rw[e_,ki];have:(l.take off).length=off:=by simp;omega
 rw[this];split
 · rename_i h1;rw[aE om,jD,au h1]
 · rename_i h1;rw[ki];split
   · rename_i h2;rw[au om]
   · rename_i h2;rw[aE om,kP];congr 1;omega
theorem nc.not {n:Nat} {fz:Nat×Nat} (h:nc n fz) {w:av} {g:Nat} {cur:Array aD} {e:aw} (hg:w.heap[g]? =some (.cells cur e fz)) {i:Nat} (hi:i<n):w.frozen? ⟨g,i,none⟩=false:=by
 obtain⟨lo,hi'⟩:=fz;simp only[World.frozen?,hg,Bool.and_eq_false_iff,rS];rcases h with h|h
 · simp_all
 omega
theorem Ay (P:aQ) (g o:Nat) (t:aw) (fz:Nat×Nat):∀(vs:List aD) (i:Nat) (cur:Array aD) (w:av),nc cur.size fz→w.heap[g]? =some (.cells cur t fz)→o+i+vs.length≤cur.size→(∀v∈vs,v.oneCell'=true)→
  (storeCells ⟨g,o,none⟩ vs i).run P w= .ok () (w.setRow g (cur.toList.take (o+i)++vs++cur.toList.drop (o+i+vs.length)).toArray)
 |[],i,cur,w,hf,hg,_,_=>by
  simp only[storeCells,kj,oT,gb,List.take_append_drop,Array.toArray_toList];rw[setRow_self w g cur t fz hg];rfl
 | v::rest,i,cur,w,hf,hg,hl,h1=>by
  have hi:o+i<cur.size:=by simp at hl;omega
  have aGk:(⟨g,o,none⟩:Addr).add i=⟨g,o+i,none⟩:=by unfold Addr.add;simp_all
  have hcell:w.cell? ⟨g,o+i,none⟩=some cur[o+i]:=by simp[World.cell?,hg,hi]
  have aGl:w.frozen? ⟨g,o+i,none⟩=false:=hf.not hg hi;have hst:(store ((⟨g,o,none⟩:Addr).add i) v).run P w= .ok () (w.setRow g (cur.setIfInBounds (o+i) v)):=by
   rw[aGk,run_store P w _ v _ (h1 v (by simp)),hcell];simp[aGl,setCell_eq_setRow w g (o+i) cur t fz v hg]
  have ih:=Ay P g o t fz rest (i+1) (cur.setIfInBounds (o+i) v) (w.setRow g (cur.setIfInBounds (o+i) v)) (by simpa using hf) (setRow_heap w g cur _ t _ hg) (by simp at hl⊢;omega) (fun x hx=>h1 x (by simp[hx]));simp only[storeCells,Sem.run_bind,hst,Result.andThen_ok,ih,setRow_setRow];congr 3;have e:=list_seg_step cur.toList (o+i) v rest om;simpa[Array.toList_setIfInBounds,rQ]using e
theorem aaq (P:aQ) {t:aw} {g o:Nat} {v:aD} {cur:Array aD} {e:aw} {fz:Nat×Nat} {w:av} (ca:nc cur.size fz) (hg:w.heap[g]? =some (.cells cur e fz)) (bj:v.cells.size=db P t) (hi:mU P t=true) (gx:o+v.cells.size≤cur.size)
  (lG:∀u∈v.cells.toList,u.oneCell'=true):
  (Instr.storeAt t (.pointer (some ⟨g,o,none⟩)) v).run P w= .ok () (w.setRow g (cur.toList.take o++v.cells.toList++cur.toList.drop (o+v.cells.toList.length)).toArray):=by
 have hst:=Ay P g o e fz v.cells.toList 0 cur w ca hg (by simp;omega) lG;simp only[gb]at hst;have:¬v.cells.size≠db P t:=by rw[bj];simp
 simp only[Instr.storeAt,Instr.sureAddr,storeVar,Sem.run_bind,Sem.run_pure,Result.andThen_ok,run_sizeOf w hi,this,if_false];exact hst
theorem apN (h:Rel X E st a w) {t:aw} {x y:aM} {ef:dB}
   (he:uo X.P st t x y=some ef):∃w' E',(Instr.storeAt t (a.eval x) (a.eval y)).run X.P w= .ok () w'∧(∀n,E.N n=none→E'.N n=none)∧Rel X E' (st.cq ef) a w':=by
 unfold uo at he;split at he
 · rename_i n off y1 hx hy;have hn:=h.gQ hx (n:=n) (by simp[C.names]);obtain⟨z,h1,g,hg,h2⟩:=bT.get (h.bU hx).1 hn;obtain⟨Rl,yX⟩:=h.arg hy;split at he
   · rename_i cs hl;split at he
     · rename_i hb;cases he;obtain⟨bj,gx,wb⟩:=hb;obtain⟨x',g',cur,e,h3,Cy,h4,h5,h6⟩:=h.row (by rw[←h.ao];exact hn) hl;rw[h1]at h3;cases h3;rw[hg]at Cy;cases Cy;obtain⟨k1,k2⟩:=dq.cells Rl (by rw[h.ao];exact yX);have lG:∀u∈(a.eval y).cells.toList,u.oneCell'=true:=by
         intro u hu;obtain⟨i,hi,Rm⟩:=lQ hu;have hi':i<y1.cells.length:=by rw[←k1];simpa using hi
         obtain⟨u',j1,j2,j3⟩:=k2 i _ (bX hi');have:(a.eval y).cells[i]? =some u:=by rw[←Rm];simp[pW (by simpa using hi:i< (a.eval y).cells.size)]
         rw[this]at j1;cases j1;exact j3
       have hrun:=aaq X.P (t:=t) (o:=off) (.inl rfl) h4 (by rw[k1,bj]) wb (by rw[k1,h5];exact gx) lG;have hcell:∀(i:Nat) (c:C),(cs.take off++y1.cells++cs.drop (off+y1.cells.length))[i]? =some c→∃u,(cur.toList.take off++(a.eval y).cells.toList++cur.toList.drop (off+(a.eval y).cells.toList.length)).toArray[i]? =some u∧RC X.M E w c u∧u.oneCell'=true:=by
         intro i c hi;rw[sP gx]at hi;rw[zv,sP (by simp[k1,h5];exact gx)];simp only[SF,k1];split
         · rename_i hc;rw[au hc]at hi;obtain⟨u,j1,j2,j3⟩:=k2 _ c hi;exact⟨u,by simpa using j1,j2,j3⟩
         · rename_i hc;rw[aE hc]at hi;obtain⟨u,j1,j2,j3⟩:=h6 _ c hi;exact⟨u,by simpa using j1,j2,j3⟩
       have hw:=h.write h1 hg h4 (cur.toList.take off++(a.eval y).cells.toList++cur.toList.drop (off+(a.eval y).cells.toList.length)).toArray [] (by simp) (.box (cs.take off++y1.cells++cs.drop (off+y1.cells.length))) (fun hG gw _=>by
         refine⟨z,g,_,e,by rw[drop_nil];exact h1,hg,gw,by simp[k1,h5],fun i c hi=> ?_⟩;obtain⟨u,j1,j2,j3⟩:=hcell i c hi;exact⟨u,j1,j2.goes hG,j3⟩)
       exact⟨_,_,by rw[h2];exact hrun,fun m hm=>by rw[drop_nil];exact hm,hw.2⟩
     · cases he
   · cases he
 · rename_i n i j y1 hx hy;have hn:=h.gQ hx (n:=n) (by simp[C.names]);obtain⟨z,h1,hi,g,hg,h2⟩:=bT.get (h.bU hx).1 hn;obtain⟨Rl,yX⟩:=h.arg hy;split at he
   · rename_i e rows qs ns hl hsk;split at he
     · rename_i r hr;split at he
       · rename_i hb;cases he;obtain⟨bj,gx,wb,hnn⟩:=hb;obtain⟨x',cur,fz,h3,ca,h4',h5,CA,aGn,df,aGo,hcs,hR,hnone,h6⟩:=h.row (by rw[←h.ao];exact hn) hl;rw[h1]at h3;cases h3;have h4:=h4' g hg;obtain⟨k1,k2⟩:=dq.cells Rl (by rw[h.ao];exact yX);obtain⟨s1,s2,s3,s4⟩:=h.sinks k1 (fun i c hi=>let⟨u,q1,q2,_⟩:=k2 i c hi; ⟨u,q1,q2⟩) (WW yX) hsk;have lG:∀u∈(a.eval y).cells.toList,u.oneCell'=true:=by
           intro u hu;obtain⟨i,hi,Rm⟩:=lQ hu;have hi':i<y1.cells.length:=by rw[←k1];simpa using hi
           obtain⟨u',j1,j2,j3⟩:=k2 i _ (bX hi');have:(a.eval y).cells[i]? =some u:=by rw[←Rm];simp[pW (by simpa using hi:i< (a.eval y).cells.size)]
           rw[this]at j1;cases j1;exact j3
         have aGp:r.length=z.sz:=hR r (cH hr);have hblk:i*z.sz+z.sz≤cur.size:=by
           rw[hcs,←kl];exact fx _ om
         have hrun:=aaq X.P (t:=t) (o:=i*z.sz+j) ca h4 (by rw[←s1,bj]) wb (by rw[←s1];omega) lG;have hlen:(r.take j++qs++r.drop (j+qs.length)).length=z.sz:=by simp;omega
         have hcell:∀(i':Nat) (r':List PV) (j':Nat) (p:PV),(rows.set i (r.take j++qs++r.drop (j+qs.length)))[i']? =some r'→r'[j']? =some p→∃u,(cur.toList.take (i*z.sz+j)++(a.eval y).cells.toList++cur.toList.drop (i*z.sz+j+(a.eval y).cells.toList.length)).toArray[i'*z.sz+j']? =some u∧RP (bad X.M (E.drop ns)) w p u:=by
           intro i' r' j' p hi' hj';have hst:iB (bad X.M E) (bad X.M (E.drop ns)) w w:=fun k o u h1 h2=> ⟨h1,fun h=>h2 (sf h)⟩
           rw[zv,sP (by simp;omega)];simp only[SF,←s1];rw[IG]at hi';split at hi'
           · rename_i rn;subst rn;split at hi'
             · cases hi';rw[sP gx]at hj';split at hj'
               · rename_i hc;rw[au om,show i*z.sz+j'- (i*z.sz+j)=j'-j by omega];obtain⟨u,q1,q2⟩:=s4 ns (fun _ h=>h) _ p hj';exact⟨u,by simpa using q1,q2⟩
               · rename_i hc;have HY:j'<z.sz:=by rw[←aGp];exact(cN.1 hj').1
                 rw[aE om];obtain⟨u,q1,q2⟩:=h6 i r j' p hr hj';exact⟨u,by simpa using q1,q2.trans hst⟩
             · cases hi'
           · rename_i rn;have HY:j'<z.sz:=by rw[←hR r' (cH hi')];exact(cN.1 hj').1
             have hno:¬(i*z.sz+j≤i'*z.sz+j'∧i'*z.sz+j'<i*z.sz+j+qs.length):=by
               rcases pX i i' with h7|h7
               · have:(i+1)*z.sz≤i'*z.sz:=fx _ h7;rw[kl]at this;omega
               · have h8:i'<i:=om;have:(i'+1)*z.sz≤i*z.sz:=fx _ h8;rw[kl]at this;omega
             rw[aE hno];obtain⟨u,q1,q2⟩:=h6 i' r' j' p hi' hj';exact⟨u,by simpa using q1,q2.trans hst⟩
         have hw:=h.write h1 hg h4 (cur.toList.take (i*z.sz+j)++(a.eval y).cells.toList++cur.toList.drop (i*z.sz+j+(a.eval y).cells.toList.length)).toArray ns s2 (.row e (rows.set i (r.take j++qs++r.drop (j+qs.length)))) (fun hG gw agX=>by
           refine⟨z,_,fz,by simp only[Env.drop,aE agX];exact h1,(by
             have e1:(cur.toList.take (i*z.sz+j)++(a.eval y).cells.toList++cur.toList.drop (i*z.sz+j+(a.eval y).cells.toList.length)).toArray.size=cur.size:=by simp;omega
             rw[e1];exact ca),fun g' hg'=>by rw[hg]at hg';cases hg';exact gw,by simp[h5],CA,aGn,df,aGo,by rw[←hcs];simp;omega,?_,hnone,fun i' r' j' p hi' hj'=> ?_⟩
           · intro q hq;rcases SG hq with h7|h7
             · exact hR q h7
             · rw[h7];exact hlen
           · obtain⟨u,q1,q2⟩:=hcell i' r' j' p hi' hj';refine⟨u,q1,q2.trans (fun k o u' c1 c2=> ?_)⟩;have hne:k≠g:=by rintro rfl;exact c2 (.inr ⟨n,z,by simp only[Env.drop,aE agX];exact h1,hg⟩)
             exact⟨(World.cell?_of_block (w:=w) (a:=⟨k,o,none⟩) (setRow_other w g k _ hne)).trans c1,c2⟩)
         exact⟨_,_,by rw[h2];exact hrun,fun m hm=>by simp[Env.drop,hm],hw.2⟩
       · cases he
     · cases he
   · cases he
 · cases he
end
theorem eA.flat {n:Nat} {rows:List (List PV)} (h:eA n rows):rows.flatten.length=rows.length*n:=by
 induction rows with
 |nil=>simp
 |cons r l ih=>
  have h1:=h r (by simp);have h2:=ih (fun r hr=>h r (by simp[hr]));simp only[aix,dL,km,h2,h1,kl];omega
theorem eA.app {n:Nat} {a b:List (List PV)} (ha:eA n a) (hb:eA n b):eA n (a++b):=fun r hr=>by
 rcases ei.1 hr with h|h
 · exact ha r h
 · exact hb r h
theorem eA.take {n:Nat} {a:List (List PV)} (ha:eA n a) (k:Nat):eA n (a.take k):=fun r hr=>ha r (hU hr)
theorem Rows.src {M:bY} {w:av} {rows:List (List PV)} {v:aD} {n:Nat} (h:Rows M w rows v) (hR:eA n rows):
   (rows=[]∧∃A cap,v= .slice A 0 cap)∨∃(g o cap:Nat) (news:List aD),v= .slice (some ⟨g,o,none⟩) rows.length cap∧0<rows.length∧news.length=rows.length*n∧
     (∀(k:Nat) (u:aD),news[k]? =some u→w.cell? ((⟨g,o,none⟩:Addr).add k)=some u)∧(∀u∈news,u.oneCell'=true)∧
     ∀(i:Nat) (r:List PV) (j:Nat) (p:PV),rows[i]? =some r→r[j]? =some p→∃u,news[i*n+j]? =some u∧RP M w p u:=by
 rcases h with h| ⟨g,o,cap,sz,f,rfl,h0,hl,hm,hs,hc⟩
 · exact .inl h
 · right;have bj:sz=n:=by
     cases rows with
     |nil=>exact absurd rfl h0
     |cons r l=>rw[←hs r (by simp)];exact hR r (by simp)
   subst bj;have hex:∀k,k<rows.length*sz→∃u,w.cell? ⟨g,o+k,none⟩=some u∧u.oneCell'=true:=by
     intro k hk;have df:0<sz:=by rcases aiy sz with h1|h1; (rw[h1]at hk;omega);exact h1
     have hi:k/sz<rows.length:=by rw[Nat.div_lt_iff_lt_mul df];exact hk
     have hj:k%sz< (rows[k/sz]).length:=by rw[hs _ (b9 hi)];exact Nat.mod_lt _ df
     obtain⟨h1,h2⟩:=hc (k/sz) _ (k%sz) _ (bX hi) (bX hj);refine⟨_,?_,h2.tF⟩;rw[←h1,rQ,SH,Nat.div_add_mod]
   refine⟨g,o,cap,(List.range (rows.length*sz)).map fun k=> (w.cell? ⟨g,o+k,none⟩).getD undef,rfl,List.length_pos_iff.2 h0,by simp,?_,?_,?_⟩
   · intro k u hu;simp only[bO,aW]at hu;obtain⟨k',eD,rfl⟩:=hu;obtain⟨nG,hk2⟩:=cN.1 eD;simp at nG hk2;subst hk2;obtain⟨u,h1,_⟩:=hex _ nG;rw[ox,h1];rfl
   · intro u hu;simp only[dy,ko]at hu;obtain⟨k,hk,rfl⟩:=hu;obtain⟨u,h1,h2⟩:=hex _ hk;rw[h1];exact h2
   · intro i r j p hi hj;obtain⟨h1,h2⟩:=hc i r j p hi hj;have hlt:i*sz+j<rows.length*sz:=by
      have h3:=(cN.1 hi).1;have h4:=(cN.1 hj).1;rw[hs r (cH hi)]at h4;have:(i+1)*sz≤rows.length*sz:=fx _ h3;rw[kl]at this;omega
     refine⟨f i j,?_,h2⟩;rw[bO,pY hlt,aJ,←rQ,h1];rfl
section
variable {X:Fx} {E:Env} {st:ak} {a:Act} {w:av}
theorem afL {P:aQ} (w:av) (t ty e:aw) (i:TypeInfo) (ht:P.underlying t=some (.slice e)) (hi:P.info? e=some i)
  (g d_ sCap:Nat) (cur:Array aD) {fz:Nat×Nat} (ca:nc cur.size fz) (hg:w.heap[g]? =some (.cells cur e fz))
  (a:Addr) (m c:Nat) (news:List aD) (hl:news.length=m*i.size) (hnews:∀j u,news[j]? =some u→w.cell? (a.add j)=some u) (h1:∀u∈news,u.oneCell'=true)
  (hroom:d_+m≤sCap) (gx:d_*i.size+news.length≤cur.size):
  (Builtin.append_ #[t,t] ty #[.slice (some ⟨g,0,none⟩) d_ sCap,.slice (some a) m c]).run P w=
   .ok (.slice (some ⟨g,0,none⟩) (d_+m) sCap) (w.setRow g (cur.toList.take (d_*i.size)++news++cur.toList.drop (d_*i.size+news.length)).toArray):=by
 have hf:=run_firstCells_some (P:=P) w i.size m a m c news hl hnews;have hst:=Ay P g (d_*i.size) e fz news 0 cur w ca hg (by simpa using gx) h1;simp only[gb]at hst;simp[Builtin.append_,run_underlying ht,sizeOf,typeInfo,hi,Builtin.lenOf,hroom,hf,Addr.add_lit,hst]
theorem Rel.uK (h:Rel X E st a w) {d:Nat} (hd:E.N d=none) (eM:X.k0≤d) (dJ:d<st.next) {e:aw} {n:Nat} (df:0<n) (hne:n=X.P.cellsOf e)
  {rows:List (List PV)} (hR:eA n rows) {cap:Nat} (lF:rows.length≤cap) (hm:cap≤maxLen) {us:Array aD} (cS:us.size=cap*n)
  (hc:∀(i:Nat) (r:List PV) (j:Nat) (p:PV),rows[i]? =some r→r[j]? =some p→∃u,us[i*n+j]? =some u∧RP (bad X.M E) w p u) {wd:av} (hwd:wd=w∨wd=w.drew):
  let E':=E.add d ⟨some w.heap.size,rows.length,cap,n⟩
  Rel X E' (st.cq ⟨[(d,.row e rows)],[]⟩) a (wd.alloc (.cells us e))∧RV X.M E' (wd.alloc (.cells us e)) (.c (.own d)) (.slice (some ⟨w.heap.size,0,none⟩) rows.length cap):=by
 intro E';have hb:Below w.heap.size w (wd.alloc (.cells us e)):=by
  rcases hwd with rfl|rfl
  · exact(Below.refl _ _).alloc (cT _) _
  · exact((Below.refl _ w).drew).alloc (cT _) _
 have bj:wd.heap.size=w.heap.size:=by rcases hwd with rfl|rfl<;>rfl
 have hg:(wd.alloc (.cells us e)).heap[w.heap.size]? =some (.cells us e (0,0)):=by rw[←bj];exact heap_alloc_new wd _
 have:=h.fresh (w':=wd.alloc (.cells us e)) d hd eM dJ hb (x:=⟨some w.heap.size,rows.length,cap,n⟩) (.inr ⟨rfl,by simp[bj]⟩) (.row e rows) (fun hG=>
  ⟨⟨some w.heap.size,rows.length,cap,n⟩,us,(0,0),by simp[Env.add],.inl rfl,fun g hg'=>by cases hg';exact hg,rfl,lF,hm,df,hne,cS,hR,fun h=> (by cases h),fun i r j p hi hj=>let⟨u,h1,h2⟩:=hc i r j p hi hj; ⟨u,h1,h2.goes hG⟩⟩)
 exact⟨this.2,.inr ⟨⟨some w.heap.size,rows.length,cap,n⟩,by simp[E',Env.add],rfl⟩⟩
theorem Rel.auv (h:Rel X E st a w) {d:Nat} (hd:E.N d=none) (eM:X.k0≤d) (dJ:d<st.next) (e:aw) {n:Nat} (df:0<n) (hne:n=X.P.cellsOf e):
  let E':=E.add d ⟨none,0,0,n⟩
  Rel X E' (st.cq ⟨[(d,.row e [])],[]⟩) a w∧RV X.M E' w (.c (.own d)) (.slice none 0 0):=by
 intro E';have:=h.fresh (w':=w) d hd eM dJ (Below.refl _ _) (x:=⟨none,0,0,n⟩) (.inl rfl) (.row e []) (fun _=>
  ⟨⟨none,0,0,n⟩,#[],(0,0),by simp[Env.add],.inl rfl,fun g hg'=> (by cases hg'),rfl,cT _,by simp[maxLen],df,hne,by simp,fun r hr=>by simp at hr,fun _=>rfl,fun i r j p hi=>by simp at hi⟩)
 exact⟨this.2,.inr ⟨⟨none,0,0,n⟩,by simp[E',Env.add],rfl⟩⟩
theorem Rel.take (h:Rel X E st a w) {m d:Nat} (hm:m<st.next) {x:Nm} (hN:E.N m=some x) {g:Nat} (gZ:x.g=some g) {cur us:Array aD} {e:aw} {fz:Nat×Nat} (hg:w.heap[g]? =some (.cells cur e fz)) (ca:nc us.size fz)
   (hd:E.N d=none) (eM:X.k0≤d) (dJ:d<st.next) (rq:d∉st.ao) {rows:List (List PV)} (hR:eA x.sz rows) (df:0<x.sz) (hne:x.sz=X.P.cellsOf e) (lF:rows.length≤x.cap) (nH:x.cap≤maxLen) (cS:us.size=x.cap*x.sz)
   (hc:∀(i:Nat) (r:List PV) (j:Nat) (p:PV),rows[i]? =some r→r[j]? =some p→∃u,us[i*x.sz+j]? =some u∧RP (bad X.M E) w p u):
   let E':=(E.drop [m]).add d ⟨some g,rows.length,x.cap,x.sz⟩
   Rel X E' (st.cq ⟨[(d,.row e rows)],[m]⟩) a (w.setRow g us)∧RV X.M E' (w.setRow g us) (.c (.own d)) (.slice (some ⟨g,0,none⟩) rows.length x.cap):=by
 intro E';have hmd:m≠d:=by rintro rfl;rw[hd]at hN;cases hN
 have oD:∀k,k≠g→(w.setRow g us).heap[k]? =w.heap[k]?:=fun k hk=>setRow_other w g k _ hk
 have bj:(w.setRow g us).heap.size=w.heap.size:=by simp[World.setRow]
 obtain⟨hx1,hx2,hx3⟩:=h.names m x g hN gZ;have CB:∀n y,E'.N n=some y→(n=d∧y=⟨some g,rows.length,x.cap,x.sz⟩)∨(n≠d∧n≠m∧E.N n=some y):=by
   intro n y hy;simp only[E',Env.add]at hy;split at hy
   · cases hy;exact .inl ⟨by assumption,rfl⟩
   · obtain⟨h1,h2⟩:=mZ hy;exact .inr ⟨by assumption,by simpa using h2,h1⟩
 have eh:∀k,bad X.M E' k→bad X.M E k:=by
   rintro k (h1| ⟨n,y,h1,h2⟩)
   · exact .inl h1
   · rcases CB n y h1 with⟨_,rfl⟩| ⟨_,_,h3⟩
     · exact .inr ⟨m,x,hN,gZ.trans h2⟩
     · exact .inr ⟨n,y,h3,h2⟩
 have hG:gk X.M E E' w (w.setRow g us):={
   cell:=fun k o u k1 k2=>by
     have:k≠g:=by rintro rfl;exact k2 (.inr ⟨m,x,hN,gZ⟩)
     exact⟨(World.cell?_of_block (w:=w) (a:=⟨k,o,none⟩) (oD k this)).trans k1,fun h=>k2 (eh k h)⟩
   name:=fun n y hy=>by
     by_cases hn:n=m
     · subst hn;exact .inl (by simp[E',Env.add,Env.drop])
     · right;have:n≠d:=by rintro rfl;rw[hd]at hy;cases hy
       simp[E',Env.add,Env.drop,this,hn,hy]
   ao:=fun n hn=>by simp[E',Env.add,Env.drop,hn]}
 refine⟨h.step ⟨[(d,.row e rows)],[m]⟩ (nx:=st.next) (cT _) hG (by simp[E',Env.add,Env.drop,h.ao]) ?_ ?_ ?_ ?_ ?_ (by simpa using hm) ?_ ?_,.inr ⟨⟨some g,rows.length,x.cap,x.sz⟩,by simp[E',Env.add],rfl⟩⟩
 · refine h.frame.trans (K':=fun k=>k=g) ⟨rfl,rfl,rfl,by rw[bj];exact cT _,fun k _ hk=>oD k hk⟩ ?_;rintro k hk rfl;rcases hx2 with h1|h1
   · exact h1
   · omega
 · intro n y hy;rcases CB n y hy with⟨rfl,_⟩| ⟨_,_,h3⟩
   · exact dJ
   · exact h.cR n y h3
 · intro n y k hy hk;rw[bj];rcases CB n y hy with⟨rfl,rfl⟩| ⟨_,_,h3⟩
   · cases hk;exact⟨hx1,hx2,hx3⟩
   · exact h.names n y k h3 hk
 · intro n k y z b hy hz hb1 hb2;rcases CB n y hy with⟨rfl,rfl⟩| ⟨h1,h2,h3⟩<;>rcases CB k z hz with⟨rfl,rfl⟩| ⟨k1,k2,k3⟩
   · rfl
   · cases hb1;exact absurd (h.inj k m z x g k3 hN hb2 gZ) k2
   · cases hb2;exact absurd (h.inj n m y x g h3 hN hb1 gZ) h2
   · exact h.inj n k y z b h3 k3 hb1 hb2
 · intro n hn;simp only[E',Env.add,Env.drop];rw[aE om];split
   · exact .inl rfl
   · exact .inr rfl
 · intro n y k hy hk fq _;refine oD k fun he=> ?_
   subst he;have:=h.inj n m y x k hy hN hk gZ;subst this;exact fq (by simp[E',Env.add,Env.drop])
 · intro n b hl;simp only[eR,oQ]at hl;split at hl
   · rename_i heq;simp at heq;subst heq;cases hl;refine .inr ⟨⟨some g,rows.length,x.cap,x.sz⟩,us,fz,by simp[E',Env.add],ca,fun k hk=>by cases hk;exact setRow_heap w g cur us e _ hg,rfl,lF,nH,df,hne,cS,hR,fun h=> (by cases h),fun i r j p hi hj=> ?_⟩;obtain⟨u,h1,h2⟩:=hc i r j p hi hj;exact⟨u,h1,h2.goes hG⟩
   · cases hl
def jH (P:aQ) (e:aw):Option (Nat×Nat):=match P.info? e with
 |some i=>match i.zero with
  |some z=>if z.cells.size=i.size∧0<i.size then some (i.size,i.bytes)else none
  |none=>none
 |none=>none
theorem xl {P:aQ} {e:aw} {n b:Nat} (h:jH P e=some (n,b)):∃i z,P.info? e=some i∧i.zero=some z∧z.cells.size=n∧0<n∧i.size=n∧i.bytes=b∧P.cellsOf e=n:=by
 unfold jH at h;split at h
 · rename_i i hi;split at h
   · rename_i z hz;split at h
     · rename_i hs;simp at h;obtain⟨rfl,rfl⟩:=h;exact⟨i,z,hi,hz,hs.1,hs.2,rfl,rfl,by simp[Program.cellsOf,hi]⟩
     · cases h
   · cases h
 · cases h
def ak.fy (st:ak) (e:aw):C→Option (List (List PV)×List Nat)
 | .nil=>some ([],[])
 | .own m=>match st.heap.lookup m with
  |some (.row e' rows)=>if e'=e then some (rows,[m])else none
  |_=>none
 | .sub m 0 len=>match st.heap.lookup m with
  |some (.row e' rows)=>if e'=e then some (rows.take len,[m])else none
  |_=>none
 |_=>none
def bA (n:Nat) (rows:List (List PV)):Bool:=rows.all (·.length==n)
theorem nZ {n:Nat} {rows:List (List PV)}:bA n rows=true ↔ eA n rows:=by simp[bA,eA]
noncomputable def r_ (P:aQ) (st:ak) (d:Nat) (t:aw) (s x:aM):Option (V×dB):=
 match eL P t with
 | some e=>match jH P e,st.arg s,st.arg x with
  |some (n,b),some (.v (.c s)),some (.v (.c x))=>match st.fy e s,st.view x with
   |some (rows,ms),some bK=>if rows.length+bK.length≤9223372036854775807∧(rows.length+bK.length)*b≤140737488355328∧bA n rows=true∧bA n bK=true then some (.c (.own d),⟨[(d,.row e (rows++bK))],ms⟩)else none
   |_,_=>none
  |_,_,_=>none
 |none=>none
theorem xe {α:Type} {l:List α} {n k:Nat} {u:α} (h:(l.take n)[k]? =some u):l[k]? =some u∧k<n:=by
 rw[jD]at h;split at h
 · exact⟨h,by assumption⟩
 · cases h
theorem Env.lb {E:Env} {d n:Nat} {x:Nm} (h:n≠d):(E.add d x).N n=E.N n:=by simp[Env.add,h]
theorem Env.kC {E:Env} {ns:List Nat} {n:Nat} (h:E.N n=none):(E.drop ns).N n=none:=by simp[Env.drop,h]
theorem akL (h:Rel X E st a w) {d:Nat} (hd:E.N d=none) (eM:X.k0≤d) (dJ:d<st.next) (rq:d∉st.ao) {t ty:aw} {s x:aM} {v:V} {ef:dB}
   (he:r_ X.P st d t s x=some (v,ef)):
   ∃u w' E',(Builtin.append_ #[t,t] ty #[a.eval s,a.eval x]).run X.P w= .ok u w'∧(∀n,n≠d→E.N n=none→E'.N n=none)∧Rel X E' (st.cq ef) a w'∧RV X.M E' w' v u:=by
 unfold r_ at he;split at he
 · rename_i e ht;obtain⟨hu,kG⟩:=ph ht;split at he
   · rename_i n b cs cx ft hs hx;obtain⟨i,z,hi,hz,hzs,df,bW,hib,gy⟩:=xl ft;split at he
     · rename_i rows ms bK dK hpv;split at he
       · rename_i hb;obtain⟨CC,hby,g_,kg⟩:=hb;rw[nZ]at g_ kg;have hlen:rows.length+bK.length≤maxLen:=by simp only[maxLen];omega
         cases he;obtain⟨hxc,_,hxn⟩:=h.bU hx;have hxr:=h.view hxc hxn hpv;obtain⟨hsc,_,pE⟩:=h.bU hs;have hmx:(rows.length+bK.length:Nat)≤9223372036854775807:=CC;have hst:∀ns,iB (bad X.M E) (bad X.M (E.drop ns)) w w:=fun ns k o u h1 h2=> ⟨h1,fun h=>h2 (sf h)⟩
         have hnil:a.eval s= .slice none 0 0→rows=[]→(∀m∈ms,m<st.next)→
            ∃u w' E',(Builtin.append_ #[t,t] ty #[a.eval s,a.eval x]).run X.P w= .ok u w'∧(∀n,n≠d→E.N n=none→E'.N n=none)∧Rel X E' (st.cq ⟨[(d,.row e (rows++bK))],ms⟩) a w'∧RV X.M E' w' (.c (.own d)) u:=by
          intro hA h0 pF;subst h0;rw[hA];have hD:=h.drop ms pF;have pG:(E.drop ms).N d=none:=Env.kC hd;have pH:∀b,(st.cq ⟨[],ms⟩).cq ⟨[(d,b)],[]⟩=st.cq ⟨[(d,b)],ms⟩:=fun b=>by simp[ak.cq]
          rcases hxr.src kg with⟨rfl,B,cap,iH⟩| ⟨g,o,cap,news,iH,hne,eW,hcell,lG,hval⟩
          · have hf:=hD.auv pG eM dJ e df gy.symm;rw[pH]at hf;refine⟨_,w,_,?_,fun k hk fJ=>by rw[Env.lb hk];exact Env.kC fJ,hf.1,hf.2⟩;rw[iH];cases B<;>simp[Builtin.append_,run_underlying hu,sizeOf,typeInfo,hi,Builtin.lenOf,Builtin.firstCells,loadCells,loadCellsFrom]
          · rw [iH];have ru:=grownCap_ge w bK.length 0 e;have iI:=grownCap_le_maxLen w bK.length 0 e (by simpa using hlen);have hrun:=run_append_nil (P:=X.P) w t ty e i z hu hi hz ⟨g,o,none⟩ bK.length cap news (by rw[bW];exact eW) hcell hne om (by rw[hib];simp at hby;omega);have hf:=hD.uK pG eM dJ (e:=e) df gy.symm kg ru iI (us:=news.toArray++Builtin.zeroCells z.cells (grownCap w bK.length 0 e-bK.length))
              (by simp only[zw,rT,size_zeroCells,hzs,eW,←iO];congr 1;omega)
              (fun i r j p k1 k2=>by
                obtain⟨u,k3,k4⟩:=hval i r j p k1 k2;have hk:=(cN.1 k3).1;exact⟨u,by rw[oU,au (by simpa using hk)];simpa using k3,k4.trans (hst ms)⟩) (wd:=w.drew) (.inr rfl)
            rw[pH]at hf;exact⟨_,_,_,hrun,fun k hk fJ=>by rw[Env.lb hk];exact Env.kC fJ,hf.1,hf.2⟩
         have hrow:∀(m:Nat) (y:Nm) (g:Nat) (cur:Array aD) (fz:Nat×Nat),nc cur.size fz→m∉st.ao→E.N m=some y→y.g=some g→w.heap[g]? =some (.cells cur e fz)→y.sz=n→y.cap≤maxLen→cur.size=y.cap*n→rows.length≤y.cap→
            (∀(i:Nat) (r:List PV) (j:Nat) (p:PV),rows[i]? =some r→r[j]? =some p→∃u,cur[i*n+j]? =some u∧RP (bad X.M E) w p u)→a.eval s= .slice (some ⟨g,0,none⟩) rows.length y.cap→ms=[m]→
            ∃u w' E',(Builtin.append_ #[t,t] ty #[a.eval s,a.eval x]).run X.P w= .ok u w'∧(∀n,n≠d→E.N n=none→E'.N n=none)∧Rel X E' (st.cq ⟨[(d,.row e (rows++bK))],ms⟩) a w'∧RV X.M E' w' (.c (.own d)) u:=by
          intro m y g0 cur fz ca iJ hN yY hg0 mG tK tL lH tM ry pF;subst pF;have yZ:=h.cR m y hN;rw[ry];have hmul:rows.length*n≤cur.size:=by rw[tL];exact fx _ lH
          have gz:(cur.toList.take (rows.length*n)).length=rows.length*n:=by simp;omega
          rcases hxr.src kg with⟨rfl,B,cap,iH⟩| ⟨g,o,cap,news,iH,hne,eW,hcell,lG,hval⟩
          · have CD:w.setRow g0 cur=w:=setRow_self w g0 cur e fz hg0;have hk:=h.take (d:=d) yZ hN yY hg0 (us:=cur) ca hd eM dJ rq (rows:=rows) (by rw[mG];exact g_) om (by rw[mG,gy]) lH tK (by rw[mG];exact tL) (by rw[mG];exact tM);simp only[CD]at hk;refine⟨.slice (some ⟨g0,0,none⟩) rows.length y.cap,w,_,?_,fun k hk fJ=>by rw[Env.lb hk];exact Env.kC fJ,by rw[kj];exact hk.1,hk.2⟩;rw[iH]
            cases B with
            |none=>simp[Builtin.append_,run_underlying hu,sizeOf,typeInfo,hi,Builtin.lenOf,Builtin.firstCells,lH,storeCells]
            |some B=>simp[Builtin.append_,run_underlying hu,sizeOf,typeInfo,hi,Builtin.lenOf,Builtin.firstCells,loadCells,loadCellsFrom,lH,storeCells]
          · rw [iH];have rz:∀(us:Array aD),(∀k,k<rows.length*n+news.length→us[k]? =(cur.toList.take (rows.length*n)++news)[k]?)→∀(i:Nat) (r:List PV) (j:Nat) (p:PV),(rows++bK)[i]? =some r→r[j]? =some p→∃u,us[i*n+j]? =some u∧RP (bad X.M E) w p u:=by
              intro us cS i r j p k1 k2;have hrn:r.length=n:=(g_.app kg) r (cH k1);have hj:=(cN.1 k2).1;rw[ki]at k1;split at k1
              · rename_i hlt;obtain⟨u,k3,k4⟩:=tM i r j p k1 k2;have:(i+1)*n≤rows.length*n:=fx _ hlt;rw[kl]at this;refine⟨u,?_,k4⟩;rw[cS _ om,ki,au (by rw[gz];omega),jD,au om];simpa using k3
              · rename_i hlt;obtain⟨u,k3,k4⟩:=hval _ r j p k1 k2;have hk:=(cN.1 k3).1;have e1:i*n=rows.length*n+(i-rows.length)*n:=by rw[←iO];congr 1;omega
                refine⟨u,?_,k4⟩;rw[cS _ om,ki,aE (by rw[gz];omega),gz,←k3];congr 1;omega
            by_cases hroom:rows.length+bK.length≤y.cap
            · have gx:rows.length*n+news.length≤cur.size:=by rw[eW,tL,←iO];exact fx _ hroom
              have hr:=afL (P:=X.P) w t ty e i hu hi g0 rows.length y.cap cur ca hg0 ⟨g,o,none⟩ bK.length cap news (by rw[bW];exact eW) hcell lG hroom (by rw[bW];exact gx);rw[bW]at hr;have hk:=h.take (d:=d) yZ hN yY hg0 (us:=(cur.toList.take (rows.length*n)++news++cur.toList.drop (rows.length*n+news.length)).toArray) (by rw[show(cur.toList.take (rows.length*n)++news++cur.toList.drop (rows.length*n+news.length)).toArray.size=cur.size by simp;omega];exact ca) hd eM dJ rq (rows:=rows++bK) (by rw[mG];exact g_.app kg) om (by rw[mG,gy]) (by simpa using hroom) tK
                (by rw[mG,←tL];simp;omega) (by
                 rw[mG];refine rz _ fun k hk=> ?_
                 rw[zv,ki,au (by simp only[dL,gz];exact hk)])
              simp only[dL]at hk;exact⟨_,_,_,hr,fun k hk fJ=>by rw[Env.lb hk];exact Env.kC fJ,hk.1,hk.2⟩
            · have holds:∀j v,(cur.toList.take (rows.length*n))[j]? =some v→w.cell? ((⟨g0,0,none⟩:Addr).add j)=some v:=fun j u hj=>by
                rw[ox,cell_of_row w g0 _ cur e fz hg0];simpa using(xe hj).1
              have hr:=run_append_grow (P:=X.P) w t ty e i z hu hi hz ⟨g0,0,none⟩ rows.length y.cap (cur.toList.take (rows.length*n)) (by rw[bW];exact gz) holds ⟨g,o,none⟩ bK.length cap news (by rw[bW];exact eW) hcell om om
                (by rw[hib];exact growslice_fits om hby)
              have ru:=grownCap_ge w (rows.length+bK.length) y.cap e;have iI:=grownCap_le_maxLen w (rows.length+bK.length) y.cap e hlen;have gA:∀k,k<rows.length*n+news.length→((cur.toList.take (rows.length*n)).toArray++news.toArray++Builtin.zeroCells z.cells (grownCap w (rows.length+bK.length) y.cap e- (rows.length+bK.length)))[k]? =(cur.toList.take (rows.length*n)++news)[k]?:=by
                intro k hk;rw[oU,au (by simp only[zw,rT,gz];exact hk)];simp[ki,oU]
              have hD:=h.drop [m] (by simpa using yZ);have pG:(E.drop [m]).N d=none:=Env.kC hd;have pH:∀b,(st.cq ⟨[],[m]⟩).cq ⟨[(d,b)],[]⟩=st.cq ⟨[(d,b)],[m]⟩:=fun b=>by simp[ak.cq]
              have hf:=hD.uK pG eM dJ (e:=e) df gy.symm (rows:=rows++bK) (g_.app kg) (cap:=grownCap w (rows.length+bK.length) y.cap e) (by simpa using ru) iI
                (us:=(cur.toList.take (rows.length*n)).toArray++news.toArray++Builtin.zeroCells z.cells (grownCap w (rows.length+bK.length) y.cap e- (rows.length+bK.length)))
                (by simp only[zw,rT,size_zeroCells,hzs,eW,gz,←iO];congr 1;omega)
                (fun i r j p k1 k2=>by
                 obtain⟨u,k3,k4⟩:=rz _ gA i r j p k1 k2;exact⟨u,k3,k4.trans (hst [m])⟩) (wd:=w.drew) (.inr rfl)
              rw[pH]at hf;simp only[dL]at hf;exact⟨_,_,_,hr,fun k hk fJ=>by rw[Env.lb hk];exact Env.kC fJ,hf.1,hf.2⟩
         cases cs with
         |nil=>
          simp[ak.fy]at dK;obtain⟨rfl,rfl⟩:=dK;exact hnil hsc rfl (by simp)
         |own m=>
          simp only[ak.fy]at dK;have iJ:=pE m (by simp[C.names]);split at dK
          · rename_i e' y4 hl;split at dK
            · rename_i fK;subst fK;cases dK;obtain⟨y,cur,fz,h1,ca,h2,h3,h4,h5,h6,h11,h7,h8,h10,h9⟩:=h.row iJ hl;obtain⟨y',k1,k2⟩:=bT.get hsc (by rw[h.ao];exact iJ);rw[h1]at k1;cases k1;have kH:y.sz=n:=by rw[h11,gy]
              cases hg:y.g with
              | none=>
                have hc0:=h10 hg;have hl0:y.len=0:=om;rw[hg,hl0,hc0]at k2;exact hnil (by simpa using k2) (iq om) (by simpa using h.cR m y h1)
              | some g=>
                rw[hg,h3]at k2;exact hrow m y g cur fz ca iJ h1 hg (h2 g hg) kH h5 (by rw[←kH];exact h7) om (by rw[←kH];exact h9) (by simpa using k2) rfl
            · cases dK
          · cases dK
         |sub m lo len=>
          cases lo with
          |succ lo=>simp[ak.fy]at dK
          |zero=>
          simp only[ak.fy]at dK;have iJ:=pE m (by simp[C.names]);split at dK
          · rename_i e' y4 hl;split at dK
            · rename_i fK;subst fK;cases dK;obtain⟨y,cur,fz,h1,ca,h2,h3,h4,h5,h6,h11,h7,h8,h10,h9⟩:=h.row iJ hl;obtain⟨y',k1,k2,A,k3,k4⟩:=bT.get hsc (by rw[h.ao];exact iJ);rw[h1]at k1;cases k1;have kH:y.sz=n:=by rw[h11,gy]
              have hA:=k4 (.inr rfl);have tN:(y4.take len).length=len:=by simp;omega
              cases hg:y.g with
              | none=>
                have hc0:=h10 hg;have hl0:len=0:=om;rw[hA,hg,hl0,hc0]at k3;exact hnil (by simpa using k3) (by rw[hl0];simp) (by simpa using h.cR m y h1)
              | some g=>
                rw[hA,hg]at k3;refine hrow m y g cur fz ca iJ h1 hg (h2 g hg) kH h5 (by rw[←kH];exact h7) (by rw[tN];omega) (fun i r j p hi hj=> ?_) (by rw[tN];simpa using k3) rfl;rw[←kH];exact h9 i r j p (xe hi).1 hj
            · cases dK
          · cases dK
         |_=>simp[ak.fy]at dK
       · cases he
     · cases he
   · cases he
 · cases he
end
def setAt (off:Nat) (l:List aD) (s:Nat) (cs:Array aD):Array aD:=(l.zipIdx s).foldl (fun cs x=>cs.setIfInBounds (off+x.2) x.1) cs
theorem OH (off:Nat) (l:List aD) (s:Nat) (cs:Array aD):(setAt off l s cs).size=cs.size:=by
 induction l generalizing s cs with
 |nil=>rfl
 |cons v l ih=>simp_all[setAt]
theorem KU (off:Nat) (l:List aD) (s:Nat) (cs:Array aD) (k:Nat):(setAt off l s cs)[k]? =if off+s≤k∧k<off+s+l.length∧k<cs.size then l[k- (off+s)]? else cs[k]?:=by
 induction l generalizing s cs with
 |nil=>simp[setAt];intro h1 h2;omega
 |cons v l ih=>
  have:=ih (s+1) (cs.setIfInBounds (off+s) v);simp only[setAt,aiz,aiA]at this⊢;rw[this];simp only[Array.size_setIfInBounds,km];by_cases h1:off+s=k
  · subst h1;by_cases h2:off+s<cs.size
    · rw[aE om,au om];simp[h2]
    · rw[aE om,aE om];simp[h2]
  · rw[SA,aE h1];by_cases h3:off+s≤k∧k<off+s+(l.length+1)∧k<cs.size
    · rw[au om,au h3,show k- (off+s)=(k- (off+(s+1)))+1 by omega];simp
    · rw[aE om,aE h3]
theorem agG (place:Nat→Option (Nat×Nat)) (cells:Array aD) (i:Nat) (v:aD) (rest:List (Nat×aD)) {off size:Nat} (hp:place i=some (off,size)) (hs:v.cells.size=size) (hf:off+size≤cells.size):
  Instr.fill place cells ((i,v)::rest)=Instr.fill place (setAt off v.cells.toList 0 cells) rest:=by
 have h1:(v.cells.zipIdx.foldl (fun cs x=>cs.setIfInBounds (off+x.2) x.1) cells)=setAt off v.cells.toList 0 cells:=by
  unfold setAt;rw[←Array.foldl_toList];simp
 simp only[Instr.fill,hp];rw[aE (by simp[hs];omega)];rw[←h1]
theorem Xq (n:Nat):∀(vs:List aD) (k:Nat) (cells:Array aD),(∀v∈vs,v.cells.size=n)→(k+vs.length)*n≤cells.size→
  ∃ us,Instr.fill (fun i=>some (i*n,n)) cells ((vs.zipIdx k).map fun x=> (x.2,x.1))=some us∧us.size=cells.size∧
    (∀j,j<k*n→us[j]? =cells[j]?)∧∀(i:Nat) (v:aD) (j:Nat),vs[i]? =some v→j<n→us[(k+i)*n+j]? =v.cells[j]?
 |[],k,cells,_,_=> ⟨cells,rfl,rfl,fun _ _=>rfl,fun i v j h=>by simp at h⟩
 | v ::vs,k,cells,hv,bj=>by
  have h1:=hv v (by simp);have hk:(k+1)*n≤cells.size:=uf (fx _ (by simp)) bj;rw[kl]at hk;obtain⟨us,h2,h3,h4,h5⟩:=Xq n vs (k+1) (setAt (k*n) v.cells.toList 0 cells) (fun u hu=>hv u (by simp[hu])) (by rw[OH];simp only[km]at bj;rw[show k+1+vs.length=k+(vs.length+1)by omega];exact bj);refine⟨us,?_,by rw[h3,OH],fun j hj=> ?_,fun i u j hi hj=> ?_⟩
  · simp only[aiz,bC];rw[agG _ _ _ _ _ rfl h1 hk];exact h2
  · rw[h4 j (by rw[kl];omega),KU,aE om]
  · cases i with
    |zero=>
     simp at hi;subst hi;rw[gb,h4 _ (by rw[kl];omega),KU,au (by simp[h1];omega)];simp
    |succ i=>
     have:=h5 i u j (by simpa using hi) hj;rw[show k+1+i=k+(i+1)by omega]at this;exact this
theorem qB {α β:Type} {f:α→Option β}:∀{l:List α} {l':List β},l.mapM f=some l'→l'.length=l.length∧∀(i:Nat) (y:β),l'[i]? =some y→∃x,l[i]? =some x∧f x=some y
 |[],l',h=>by simp_all
 | a::l,l',h=>by
  simp only[je]at h
  cases wc:f a with
  |none=>simp[wc]at h
  | some b=>
   cases hl:l.mapM f with
   |none=>simp[wc,hl]at h
   |some l2=>
    simp[wc,hl]at h;subst h;obtain⟨h1,h2⟩:=qB hl;refine⟨by simp[h1],fun i y hi=> ?_⟩
    cases i with
    |zero=>simp at hi;subst hi;exact⟨a,rfl,wc⟩
    |succ i=>simpa using h2 i y (by simpa using hi)
def ak.eu (st:ak) (x:aM):Option V1:=match st.arg x with|some (.v x)=>some x|_=>none
def ak.lits (st:ak):List aM→Option (List (List PV)×List Nat)
 |[]=>some ([],[])
 | x::xs=>match st.eu x with
  |some y=>match st.sinks y.cells,st.lits xs with
   |some (r,ns),some (rs,ms)=>some (r::rs,ns++ms)
   |_,_=>none
  |none=>none
section
variable {X:Fx} {E:Env} {st:ak} {a:Act} {w:av}
theorem Rel.eu (h:Rel X E st a w) {x:aM} {v:V1} (hx:st.eu x=some v):dq X.M E w v (a.eval x)∧(V.v v).live st.ao=true:=by
 unfold ak.eu at hx;split at hx
 · rename_i y hy;simp at hx;subst hx;exact h.arg hy
 · cases hx
theorem Rel.lits (h:Rel X E st a w):∀{xs:List aM} {rows:List (List PV)} {ns:List Nat},st.lits xs=some (rows,ns)→rows.length=xs.length∧(∀n∈ns,n<st.next)∧
  ∀eg,(∀n∈ns,n∈eg)→∀(i:Nat) (r:List PV),rows[i]? =some r→∃x,xs[i]? =some x∧r.length=(a.eval x).cells.size∧∀(j:Nat) (p:PV),r[j]? =some p→∃u,(a.eval x).cells[j]? =some u∧RP (bad X.M (E.drop eg)) w p u
 |[],rows,ns,hl=>by simp[ak.lits]at hl;simp_all
 | x :: xs,rows,ns,hl=>by
  simp only[ak.lits]at hl;split at hl
  · rename_i y hy;split at hl
    · rename_i r ns1 rs ms hs hr;cases hl;obtain⟨h1,h2,h3⟩:=h.lits hr;obtain⟨k1,k2⟩:=h.eu hy;obtain⟨k3,k4⟩:=dq.cells k1 (by rw[h.ao];exact k2);obtain⟨s1,s2,_,s4⟩:=h.sinks k3 (fun i c hi=>let⟨u,q1,q2,_⟩:=k4 i c hi; ⟨u,q1,q2⟩) (WW k2) hs;refine⟨by simp[h1],fun n hn=> ?_,fun eg fp i r' hi=> ?_⟩
      · rcases ei.1 hn with h5|h5
        · exact s2 n h5
        · exact h2 n h5
      · cases i with
        | zero=>
          simp_all
        | succ i=>
          simp_all
    · cases hl
  · cases hl
def yH (P:aQ) (st:ak) (d:Nat) (t:aw) (len:Nat) (parts:List (Nat×aM)):Option (V×dB):=
 match eL P t with
 |some e=>match jH P e,st.lits (parts.map (·.2))with
  |some (n,_),some (rows,ns)=>if parts.map (·.1)=List.range len∧bA n rows=true∧len*n≤16777216 then some (.c (.own d),⟨[(d,.row e rows)],ns⟩)else none
  |_,_=>none
 |none=>none
theorem aqa (h:Rel X E st a w) {d:Nat} (hd:E.N d=none) (eM:X.k0≤d) (dJ:d<st.next) {t:aw} {len:Nat} {parts:Array (Nat×aM)} {v:V} {ef:dB}
   (he:yH X.P st d t len parts.toList=some (v,ef)):
   ∃u w' E',(Instr.buildSlice t len (parts.map fun x=> (x.1,a.eval x.2))).run X.P w= .ok u w'∧(∀n,n≠d→E.N n=none→E'.N n=none)∧Rel X E' (st.cq ef) a w'∧RV X.M E' w' v u:=by
 unfold yH at he;split at he
 · rename_i e ht;obtain⟨hu,kG⟩:=ph ht;split at he
   · rename_i n b rows ns ft tO;obtain⟨i,z,hi,hz,hzs,df,bW,hib,gy⟩:=xl ft;split at he
     · rename_i hc;obtain⟨hr,hR,bj⟩:=hc;rw[nZ]at hR;cases he;obtain⟨eE,aGu,hl2⟩:=h.lits tO;have hpl:parts.toList.length=len:=by have:=cI List.length hr;simpa using this
       have hrl:rows.length=len:=by simp_all
       have aGv:(parts.map fun x=> (x.1,a.eval x.2)).toList=(((parts.toList.map fun x=>a.eval x.2).zipIdx 0).map fun x=> (x.2,x.1)):=by
        apply uj;intro k;simp only[aiB,bO,List.getElem?_zipIdx,IJ]
        cases hk:parts.toList[k]? with
        |none=>simp
        | some x=>
          have h1:(parts.toList.map (·.1))[k]? =some x.1:=by simp only[bO,hk,aJ]
          rw[hr]at h1;have h2:=(cN.1 h1).2;simp at h2;simp[←h2]
       have aha:∀(k:Nat) (u:aD),(parts.toList.map fun x=>a.eval x.2)[k]? =some u→∃r,rows[k]? =some r∧u.cells.size=n∧∀(j:Nat) (p:PV),r[j]? =some p→∃u',u.cells[j]? =some u'∧RP (bad X.M (E.drop ns)) w p u':=by
        intro k u hk;simp only[bO,aW]at hk;obtain⟨x,hx,rfl⟩:=hk;have Rn:k<rows.length:=by rw[hrl,←hpl];exact(cN.1 hx).1
        obtain⟨x',h1,h2,h3⟩:=hl2 ns (fun _ h=>h) k _ (bX Rn);simp only[bO,hx,aJ,im]at h1;subst h1;exact⟨_,bX Rn,by rw[←h2];exact hR _ (b9 Rn),h3⟩
       have Ro:∀u∈parts.toList.map (fun x=>a.eval x.2),u.cells.size=n:=by
        intro u hu;obtain⟨k,hk,hku⟩:=lQ hu;obtain⟨r,_,h2,_⟩:=aha k u (by rw[←hku];exact bX hk);exact h2
       have hz0:∃z0:Array aD,((Array.range (len*n)).map (z0[· %z0.size]!)).size=len*n∧(Instr.buildSlice t len (parts.map fun x=> (x.1,a.eval x.2))).run X.P w=
          (match Instr.fill (fun i=>some (i*n,n)) ((Array.range (len*n)).map (z0[· %z0.size]!)) (parts.map fun x=> (x.1,a.eval x.2)).toList with
          |some cells=> .ok (.slice (some ⟨w.heap.size,0,none⟩) len len) (w.alloc (.cells cells e))
          |none=> .halt (.stuck "buildSlice: a part of the wrong size") w):=by
        have hgt:¬(len*n>16777216):=om;by_cases h0:len*n=0
        · refine⟨#[],by simp,?_⟩;simp[Instr.buildSlice,run_underlying hu,sizeOf,typeInfo,hi,bW,h0];generalize Instr.fill _ _ _=q;cases q<;>simp[newRow]
        · refine⟨z.cells,by simp,?_⟩;have oC:¬(len=0∨n=0):=by rintro(h|h)<;>simp[h]at h0
          simp only[Instr.buildSlice,run_underlying hu,sizeOf,typeInfo,zeroValue,hi,hz,bW,h0,hgt,Sem.run_bind,run_program,Result.andThen_ok,Sem.run_pure,if_false];generalize Instr.fill _ _ _=q;cases q<;>simp[newRow]
       obtain⟨z0,hz1,hrun⟩:=hz0;obtain⟨us,h1,h2,_,h4⟩:=Xq n (parts.toList.map fun x=>a.eval x.2) 0 ((Array.range (len*n)).map (z0[· %z0.size]!)) Ro (by simp_all);rw[aGv,h1]at hrun;rw[hz1]at h2;have hm:rows.length≤maxLen:=by
        have:len*1≤len*n:=Nat.mul_le_mul_left _ df;simp only[maxLen];omega
       have hD:=h.drop ns aGu;have pG:(E.drop ns).N d=none:=Env.kC hd;have pH:∀b,(st.cq ⟨[],ns⟩).cq ⟨[(d,b)],[]⟩=st.cq ⟨[(d,b)],ns⟩:=fun b=>by simp[ak.cq]
       have hf:=hD.uK pG eM dJ (e:=e) df gy.symm hR (cap:=rows.length) (cT _) hm (us:=us) (by rw[h2,hrl]) (fun i' r j p hi' hj=>by
        have kI:i'< (parts.toList.map fun x=>a.eval x.2).length:=by simp[hpl,←hrl];exact(cN.1 hi').1
        obtain⟨r',gC,h5,h6⟩:=aha i' _ (bX kI);rw[hi']at gC;cases gC;have hjn:j<n:=by rw[←hR r (cH hi')];exact(cN.1 hj).1
        have:=h4 i' _ j (bX kI) hjn;rw[Dd]at this;rw[this];exact h6 j p hj) (wd:=w) (.inl rfl)
       rw[pH,hrl]at hf;exact⟨_,_,_,hrun,fun k hk fJ=>by rw[Env.lb hk];exact Env.kC fJ,hf.1,hf.2⟩
     · cases he
   · cases he
 · cases he
end
def RL (M:bY) (E:Env) (w:av) (cs:List C) (us:Array aD):Prop:=us.size=cs.length∧∀(i:Nat) (c:C),cs[i]? =some c→∃u,us[i]? =some u∧RC M E w c u∧u.oneCell'=true
theorem RL.splice {M:bY} {E:Env} {w:av} {cs xs:List C} {us:Array aD} {vs:List aD} (h:RL M E w cs us) (hx:RL M E w xs vs.toArray) {off:Nat} (hf:off+xs.length≤cs.length):
   RL M E w (cs.take off++xs++cs.drop (off+xs.length)) (setAt off vs 0 us):=by
 have pI:vs.length=xs.length:=by simpa using hx.1
 refine⟨by simp only[OH,h.1,dL,dX,fw];omega,fun i c hi=> ?_⟩;rw[KU];simp only[gb,pI,h.1,e_]at hi⊢;rw[ki]at hi;simp only[dX,De (show off≤cs.length by omega)]at hi;split at hi
 · rename_i hio;rw[jD,au hio]at hi;rw[aE om];exact h.2 i c hi
 · rename_i hio;rw[ki]at hi;split at hi
   · rename_i hj;rw[au om];obtain⟨u,h1,h2⟩:=hx.2 _ c hi;simp_all
   · rename_i hj;rw[aE om];rw[kP,show off+xs.length+(i-off-xs.length)=i by omega]at hi;exact h.2 i c hi
def uH (place:Nat→Option (Nat×Nat)) (cells:List C):List (Nat×List C)→Option (List C)
 |[]=>some cells
 | (i,x)::rest=>match place i with
  |none=>none
  |some (off,size)=>if x.length=size∧off+x.length≤cells.length then uH place (cells.take off++x++cells.drop (off+x.length)) rest else none
theorem acJ {M:bY} {E:Env} {w:av} (place:Nat→Option (Nat×Nat)):∀(parts:List (Nat×List C)) (vals:List (Nat×aD)) (cells:List C) (us:Array aD) {out:List C},
  vals.length=parts.length→(∀(k:Nat) (x:Nat×List C) (y:Nat×aD),parts[k]? =some x→vals[k]? =some y→y.1=x.1∧RL M E w x.2 y.2.cells)→RL M E w cells us→uH place cells parts=some out→
  ∃pJ,Instr.fill place us vals=some pJ∧RL M E w out pJ
 |[],vals,cells,us,out,hl,_,hr,h=>by
  have:vals=[]:=iq (by simpa using hl);subst this;simp[uH]at h;subst h;exact⟨us,rfl,hr⟩
 | (i,x)::parts,vals,cells,us,out,hl,hv,hr,h=>by
  cases vals with
  |nil=>simp at hl
  | cons y vals=>
   obtain⟨h1,h2⟩:=hv 0 (i,x) y rfl rfl;obtain⟨i',v⟩:=y;simp at h1;subst h1;simp only[uH]at h
   cases hp:place i' with
   |none=>simp[hp]at h
   |some os=>
    obtain⟨off,size⟩:=os;simp only[hp]at h;split at h
    · rename_i hc;rw[agG place us i' v vals hp (by rw[h2.1];exact hc.1) (by rw[←hc.1,hr.1];exact hc.2)];exact acJ place parts vals _ _ (by simpa using hl) (fun k x y hx hy=>hv (k+1) x y (by simpa using hx) (by simpa using hy)) (hr.splice (vs:=v.cells.toList) (by simpa using h2) hc.2) h
    · cases h
def HE (P:aQ) (t:aw):Option (List (Nat×Nat)):=match P.underlying t with
 |some (.struct fields)=>fields.toList.mapM (fun f=> (P.info? f.type).map fun i=> (f.offset,i.size))
 |some (.array n e)=>match P.info? e with
  |some i=>some ((List.range n).map fun k=> (k*i.size,i.size))
  |none=>none
 |_=>none
theorem Bd {P:aQ} {M:bY} {E:Env} {w:av} {t:aw} {cs:List C} (h:qg P t=some cs):∃i z,P.info? t=some i∧i.zero=some z∧RL M E w cs z.cells:=by
 unfold qg at h;split at h
 · rename_i i hi;split at h
   · rename_i z hz;split at h
     · rename_i hall;simp at h;subst h;refine⟨i,z,hi,hz,by simp,fun k c hk=> ?_⟩;simp only[bO,aW,IH]at hk;obtain⟨u,h1,rfl⟩:=hk;exact⟨u,h1,MI M E w u,by simp only[bk]at hall;exact hall u (aiv.2 (SD h1))⟩
     · cases h
   · cases h
 · cases h
noncomputable def yF (P:aQ) (st:ak) (t:aw) (parts:Array (Nat×aM)):Option V:=
 match qg P t,HE P t,parts.toList.mapM (fun x=> (st.eu x.2).map fun y=> (x.1,y.cells))with
 |some zs,some ps,some xs=> (uH (ps[·]?) zs xs).map fun cs=> .v (.agg cs)
 |_,_,_=>none
theorem Uq {p q:Nat→Option (Nat×Nat)} (h:∀i x,p i=some x→q i=some x):∀(l:List (Nat×aD)) (us pJ:Array aD),Instr.fill p us l=some pJ→Instr.fill q us l=some pJ
 |[],us,pJ,h'=>h'
 | (i,v)::l,us,pJ,h'=>by
  simp only[Instr.fill]at h'⊢
  cases hp:p i with
  |none=>simp[hp]at h'
  |some x=>
   rw[h i x hp];simp only[hp]at h'⊢;split at h'
   · cases h'
   · rename_i hc;rw[aE hc];exact Uq h l _ _ h'
theorem axm {X:Fx} {E:Env} {st:ak} {a:Act} {w:av} (h:Rel X E st a w) {t:aw} {parts:Array (Nat×aM)} {v:V}
   (he:yF X.P st t parts=some v):∃u,(Instr.build t (parts.map fun x=> (x.1,a.eval x.2))).run X.P w= .ok u w∧RV X.M E w v u:=by
 unfold yF at he;split at he
 · rename_i zs ps xs hz hp hx;simp at he;obtain⟨cs,hcs,rfl⟩:=he;obtain⟨i,z,hi,hzz,kJ⟩:=Bd (M:=X.M) (E:=E) (w:=w) hz;obtain⟨eE,hl2⟩:=qB hx;obtain⟨us,h1,h2⟩:=acJ (M:=X.M) (E:=E) (w:=w) (ps[·]?) xs (parts.map fun x=> (x.1,a.eval x.2)).toList zs z.cells (by simp[eE]) (fun k x y hk hy=>by
     obtain⟨o,h3,h4⟩:=hl2 k x hk;simp only[aiB,bO,h3,aJ,im]at hy;subst hy;simp only[aW]at h4;obtain⟨y1,h5,rfl⟩:=h4;obtain⟨h6,h7⟩:=h.eu h5;exact⟨rfl,dq.cells h6 (by rw[h.ao];exact h7)⟩) kJ hcs
   refine⟨_,run_build w t _ us ?_,us,rfl,h2.1,h2.2⟩;unfold Program.built;unfold HE at hp;split at hp
   · simp_all
   · rename_i n e hu;split at hp
     · rename_i ie kG;simp at hp;subst hp;simp only[hi,hu,hzz,kG];refine Uq (fun k x hk=> ?_) _ _ _ h1;simp only[bO,aW]at hk;obtain⟨k',eD,rfl⟩:=hk;have:=(cN.1 eD).2;simp at this;simp[←this]
     · cases hp
   · cases hp
 · cases he
end
end
end Go.Proofs.YtndegphojkiblaaGreatDoor
