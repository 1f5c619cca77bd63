/- Towards the last file's theorem: part 3. -/
import Derived.Test.YtndegphojkiblaaGreatDoorG2
set_option linter.all false
set_option maxHeartbeats 4000000
set_option maxRecDepth 100000
namespace Go.Proofs.YtndegphojkiblaaGreatDoor
noncomputable section
section
open Go.RowKit
open Classical
def fT (l:List Int):List (List PV):=l.map fun n=> [.sc (.int .u8 n)]
def u_:List PV→Option Int
 |[.sc (.int .u8 n)]=>some n
 |_=>none
def lj (rows:List (List PV)):Option (List Int):=rows.mapM u_
theorem Xa (l:List Int):lj (fT l)=some l:=by
 unfold lj fT
 induction l with
 |nil=>rfl
 |cons n l ih=>simp_all[u_]
theorem abA (l:List Int):eA 1 (fT l):=by intro r hr;simp[fT]at hr;obtain⟨n,_,rfl⟩:=hr;rfl
theorem Cw (l:List Int):(fT l).length=l.length:=by simp[fT]
theorem aab (l:List Int) (n:Nat):(fT l)[n]? =(l[n]?).map fun n=> [.sc (.int .u8 n)]:=by simp[fT]
def lD (P:aQ) (st:ak) (s d:aw) (x:aM):Option V:=
 match st.arg x with
 |some (.v (.c (.p (.sc (.int _ n)))))=>match P.underlying s,P.underlying d with
  |some _,some (.int k)=>some (.sc (.int k (k.wrap n)))
  |_,_=>none
 |some (.v (.c (.p (.sc (.string b)))))=>match P.underlying s,P.underlying d with
  |some .string,some .string=>some (.sc (.string b))
  |_,_=>none
 | some (.v (.c c))=>match st.view c,P.underlying s,P.underlying d with
  |some rows,some (.slice e),some .string=>match P.underlying e,lj rows with
   |some (.int .u8),some l=>some (.sc (.string (strOfNums l)))
   |_,_=>none
  |_,_,_=>none
 |_=>none
section
variable {X:Fx} {E:Env} {st:ak} {a:Act} {w:av}
theorem Rel.views (h:Rel X E st a w) {x:aM} {c:C} {rows:List (List PV)} (hx:st.arg x=some (.v (.c c))) (hv:st.view c=some rows):Rows (bad X.M E) w rows (a.eval x):=
 h.view (h.bU hx).1 (h.bU hx).2.2 hv
theorem aAg (h:Rel X E st a w) {s d:aw} {x:aM} {v:V}
   (he:lD X.P st s d x=some v):∃u,(convert s d (a.eval x)).run X.P w= .ok u w∧RV X.M E w v u:=by
 unfold lD at he;split at he
 · rename_i k n hx;have h3:=RP.dv (h.bU hx).1;split at he
   · rename_i ds k' hs hd;simp at he;subst he;refine⟨_,?_,.sc rfl⟩;rw[h3];simp[convert,run_underlying hs,run_underlying hd,Conv.intToInt]
   · cases he
 · rename_i b hx;have h3:=RP.dv (h.bU hx).1;split at he
   · rename_i hs hd;simp at he;subst he;refine⟨_,?_,.sc rfl⟩;rw[h3];simp[convert,run_underlying hs,run_underlying hd]
   · cases he
 · rename_i c _ _ hx;split at he
   · rename_i rows e hp hs hd;split at he
     · rename_i l fK hl;simp at he;subst he;refine⟨_,?_,.sc rfl⟩;have CE:=h.views hx hp;obtain⟨eE,hl2⟩:=qB hl;rcases CE with⟨rfl,A,cap,iH⟩| ⟨g,o,cap,sz,f,iH,h0,hlc,hm,y5,hcc⟩
       · rw[iH];simp[lj]at hl;subst hl
         cases A with
         |none=>exact run_convert_bytes_nil w s e hs fK 0 cap d hd
         |some A=>
          rw[run_convert_bytes_string w s d e _ 0 cap hs fK hd];rfl
       · rw [iH];have key:∀(i:Nat) (r:List PV),rows[i]? =some r→∃n,l[i]? =some n∧r=[.sc (.int .u8 n)]:=by
          intro i r hi;have pK:i<l.length:=by rw[eE];exact(cN.1 hi).1
          obtain⟨r',h4,h5⟩:=hl2 i _ (bX pK);rw[hi]at h4;cases h4;refine⟨_,bX pK,?_⟩;unfold u_ at h5;split at h5
          · simp at h5;rw[h5]
          · cases h5
         have bj:sz=1:=by
          cases rows with
          |nil=>simp_all
          | cons r rs=>
            obtain⟨n,_,hr⟩:=key 0 r rfl;have:=y5 r (by simp);simp_all
         subst bj;refine run_convert_bytes_arg w s e hs fK g o rows.length cap l eE (fun i hi=> ?_) d hd;obtain⟨n,h4,h5⟩:=key i _ (bX hi);obtain⟨h6,h7⟩:=hcc i _ 0 (.sc (.int .u8 n)) (bX hi) (by rw[h5];rfl);have h7:=RP.dv h7;rw[h7]at h6;simp only[IK,gb]at h6;rw[h6];simp[List.getD,h4]
     · cases he
   · cases he
 · cases he
def o_ (P:aQ) (st:ak) (t:aw) (x:aM):Option V:=
 match st.arg x with
 |some (.v (.c (.p (.sc (.string b)))))=>match P.underlying t with
  |some .string=>some (.sc (.int .i64 b.size))
  |_=>none
 |some (.v (.c c))=>match st.view c,P.underlying t with
  |some rows,some (.slice _)=>some (.sc (.int .i64 rows.length))
  |_,_=>none
 |_=>none
theorem Rows.len {M:bY} {w:av} {rows:List (List PV)} {v:aD} (h:Rows M w rows v):∃A cap,v= .slice A rows.length cap∧(rows≠ []→rows.length≤cap∧∃g o,A=some ⟨g,o,none⟩):=by
 rcases h with⟨rfl,A,cap,rfl⟩| ⟨g,o,cap,sz,f,rfl,h0,hl,_⟩
 · simp_all
 · exact⟨_,cap,rfl,fun _=> ⟨hl,g,o,rfl⟩⟩
theorem awT (h:Rel X E st a w) {t ty:aw} {x:aM} {v:V}
   (he:o_ X.P st t x=some v):∃u,(Builtin.len_ #[t] ty #[a.eval x]).run X.P w= .ok u w∧RV X.M E w v u:=by
 unfold o_ at he;split at he
 · rename_i b hx;have h3:=RP.dv (h.bU hx).1;split at he
   · rename_i hu;simp at he;subst he;refine⟨_,?_,.sc rfl⟩;rw[h3];simp[Builtin.len_,run_underlying hu,goInt]
   · cases he
 · rename_i c _ hx;split at he
   · rename_i rows e hp hu;simp at he;subst he;refine⟨_,?_,.sc rfl⟩;obtain⟨A,cap,hv,_⟩:=(h.views hx hp).len;rw[hv];simp[Builtin.len_,run_underlying hu,goInt]
   · cases he
 · cases he
def x8:UnOp→aD→Option aD
 | .not,.bool b=>some (.bool (!b))
 | .neg,.int k n=>some (.int k (k.wrap (0-n)))
 | .xor,.int k n=>some (bitsOf k (BitVec.ofInt k.bits (if k.signed then-1 else k.max) ^^^BitVec.ofInt k.bits n))
 |_,_=>none
theorem avV {P:aQ} {op:UnOp} {u v:aD} (h:x8 op u=some v) (w:av):(Op.unary op u).run P w= .ok v w∧flat v=true:=by
 unfold x8 at h;split at h
 · simp at h;subst h;exact⟨rfl,rfl⟩
 · simp at h;subst h;exact⟨by simp[Op.unary,Op.intArith],rfl⟩
 · simp at h;subst h;exact⟨by rfl,rfl⟩
 · cases h
def C.pv:C→Option PV
 | .p q=>some q
 | .nil=>some (.sl [])
 |_=>none
theorem RC.pv {M:bY} {E:Env} {w:av} {c:C} {v:aD} {p:PV} (h:RC M E w c v) (hp:c.pv=some p):RP (bad M E) w p v:=by
 cases c with
 |p q=>simp[C.pv]at hp;subst hp;exact h
 |nil=>simp[C.pv]at hp;subst hp;cases h;exact .nil
 |_=>cases hp
def oV (cs:List C):Option (List PV):=cs.mapM C.pv
def yv (P:aQ) (st:ak) (d:Nat) (t:aw) (l c:aM):Option (V×dB):=
 match eL P t,st.arg l,st.arg c with
 | some e,some (.v (.c (.p (.sc (.int _ n))))),some (.v (.c (.p (.sc (.int _ m)))))=>match jH P e,qg P e with
  |some (_,b),some zs=>match oV zs with
   |some z=>if n=m∧0≤n∧n≤9223372036854775807∧b*n.toNat≤281474976710656 then some (.c (.own d),⟨[(d,.row e (List.replicate n.toNat z))],[]⟩)else none
   |none=>none
  |_,_=>none
 |_,_,_=>none
theorem avF (h:Rel X E st a w) {d:Nat} (hd:E.N d=none) (eM:X.k0≤d) (dJ:d<st.next) {t:aw} {l c:aM} {v:V} {ef:dB}
   (he:yv X.P st d t l c=some (v,ef)):
   ∃u w' E',(Instr.makeSlice t (a.eval l) (a.eval c)).run X.P w= .ok u w'∧(∀n,n≠d→E.N n=none→E'.N n=none)∧Rel X E' (st.cq ef) a w'∧RV X.M E' w' v u:=by
 unfold yv at he;split at he
 · rename_i e k1 n k2 m ht hl hc;obtain⟨hu,kG⟩:=ph ht;have h3:=RP.dv (h.bU hl).1;have h4:=RP.dv (h.bU hc).1;split at he
   · rename_i k b zs ft hz;obtain⟨i,z,hi,hzz,hzs,df,bW,hib,gy⟩:=xl ft;obtain⟨i',z',hi',tQ,kJ⟩:=Bd (M:=X.M) (E:=E) (w:=w) hz;rw[hi]at hi';cases hi';rw[hzz]at tQ;cases tQ;split at he
     · rename_i zp CF;split at he
       · rename_i jA;obtain⟨rfl,h0,tR,hb⟩:=jA;have hm:n.toNat≤maxLen:=by simp only[maxLen];omega
         cases he;obtain⟨eE,hl2⟩:=qB CF;have hzl:zp.length=k:=by rw[eE,←kJ.1,hzs]
         have hmx:n≤9223372036854775807:=tR;have hbb:(i.bytes:Int)*n≤281474976710656:=by
          rw[hib];have:((b*n.toNat:Nat):Int)≤281474976710656:=om
          rwa [zA,Df h0]at this
         have hr:=run_make (P:=X.P) w t e i z hu hi hzz k1 k2 n n h0 (IL _) hbb hmx;rw[bW]at hr;have hR:eA k (List.replicate n.toNat zp):=fun r hr=>by simp_all
         have hf:=h.uK hd eM dJ (e:=e) df gy.symm (rows:=List.replicate n.toNat zp) hR (cap:=n.toNat) (by simp) hm (us:=madeCells z.cells (n.toNat*k)) (by rw[size_madeCells]) (fun i' r j' p h5 h6=>by
          have gC:r=zp:=(Dg.1 (cH h5)).2;subst gC;have kI:i'<n.toNat:=by have:=(cN.1 h5).1;simpa using this
          have hj':j'<k:=by rw[←hzl];exact(cN.1 h6).1
          obtain⟨cc,h7,h8⟩:=hl2 j' p h6;obtain⟨u',h9,h10,_⟩:=kJ.2 j' cc h7;have hlt:i'*k+j'<n.toNat*k:=by
           have:(i'+1)*k≤n.toNat*k:=fx _ kI;rw[kl]at this;omega
          refine⟨u',?_,RC.pv h10 h8⟩;simp only[madeCells,Array.getElem?_map,Array.getElem?_range,hlt,if_true,aJ,im];rw[hzs,show(i'*k+j')%k=j' by rw[SH,aiC,IM hj']];simp_all) (wd:=w) (.inl rfl)
         simp only[pZ]at hf;exact⟨_,_,_,by rw[h3,h4];exact hr,fun k hk fJ=>by rw[Env.lb hk];exact fJ,hf.1,hf.2⟩
       · cases he
     · cases he
   · cases he
 · cases he
def qf (P:aQ) (st:ak) (t:aw) (x y:aM):Option (V×dB):=
 match eL P t,st.arg x,st.arg y with
 | some e,some (.v (.c cx)),some (.v (.c cy))=>match st.view cx,st.view cy with
  | some _,some src=>match cx with
   | .own n=>match st.heap.lookup n with
    |some (.row e' rows)=>let m:=min src.length rows.length
     if e'=e∧bA (db P e) src=true then some (.sc (.int .i64 m),⟨[(n,.row e (src.take m++rows.drop m))],[]⟩)else none
    |_=>none
   | .sub n lo len=>match st.heap.lookup n with
    |some (.row e' rows)=>let m:=min src.length len
     if e'=e∧bA (db P e) src=true∧lo+len≤rows.length then some (.sc (.int .i64 m),⟨[(n,.row e (rows.take lo++src.take m++rows.drop (lo+m)))],[]⟩)else none
    |_=>none
   |_=>none
  |_,_=>none
 |_,_,_=>none
theorem aoC (h:Rel X E st a w) {t t2 ty:aw} {x y:aM} {v:V} {ef:dB} (he:qf X.P st t x y=some (v,ef)):
   ∃u w',(Builtin.copy_ #[t,t2] ty #[a.eval x,a.eval y]).run X.P w= .ok u w'∧Rel X E (st.cq ef) a w'∧RV X.M E w' v u:=by
 unfold qf at he;split at he
 · rename_i e cx cy ht hx hy;obtain⟨hu,kG⟩:=ph ht;split at he
   · rename_i rowsx src HZ hvy;have hys:=h.views hy hvy;have key : ∀ (n lo len:Nat) (e':aw) (rows:List (List PV)),n∉st.ao→st.heap.lookup n=some (.row e' rows)→e'=e→bA (db X.P e) src=true→lo+len≤rows.length→
         (∃z A c,E.N n=some z∧a.eval x= .slice A len c∧(0<len→∃g,z.g=some g∧A=some ⟨g,lo*z.sz,none⟩))→
         ∃u w',(Builtin.copy_ #[t,t2] ty #[a.eval x,a.eval y]).run X.P w= .ok u w'∧Rel X E (st.cq ⟨[(n,.row e (rows.take lo++src.take (min src.length len)++rows.drop (lo+min src.length len)))],[]⟩) a w'∧RV X.M E w' (.sc (.int .i64 (min src.length len:Nat))) u:=by
       rintro n lo len e' rows fq hl rfl hR hlen ⟨z,A,c,hN,iH,hA⟩;rw[nZ]at hR;obtain⟨z',cur,fz,k1,ca,k2,k3,k4,k5,k6,k7,k8,k9,ik,lE⟩:=h.row fq hl;rw[hN]at k1;cases k1;have bj:db X.P e'=z.sz:=k7.symm;rw[bj]at hR;have pF:(src.take (min src.length len)).length=min src.length len:=by simp
       have g_:eA z.sz (rows.take lo++src.take (min src.length len)++rows.drop (lo+min src.length len)):=((k9.take _).app (hR.take _)).app (fun r hr=>k9 r (oR hr));rw[iH];by_cases h0:min src.length len=0
       ·
         have hrow:rows.take lo++src.take 0++rows.drop (lo+0)=rows:=by simp
         have hres:(Builtin.copy_ #[t,t2] ty #[.slice A len c,a.eval y]).run X.P w= .ok (.int .i64 0) w:=by
           obtain⟨B,cap,hv,hB⟩:=hys.len;have oC:Nat.min src.length len=0:=h0;rw[hv];obtain⟨i,hi⟩:=zu.1 kG;cases A<;>cases B<;>simp[Builtin.copy_,run_underlying hu,Builtin.lenOf,Builtin.firstCells,sizeOf,typeInfo,hi,oC,loadCells,loadCellsFrom,storeCells,goInt]
         refine⟨_,w,hres,?_,?_⟩
         · have CD:=h.step ⟨[(n,.row e' rows)],[]⟩ (E':=E) (w':=w) (nx:=st.next) (cT _) ⟨fun _ _ _ h1 h2=> ⟨h1,h2⟩,fun _ _ h=> .inr h,fun _ h=>h⟩ (by simp[h.ao]) h.frame h.cR h.names h.inj (fun _ _=> .inr rfl) (by simp) (fun _ _ _ _ _ _ _=>rfl) (fun m b hb=>by
            simp only[eR,oQ]at hb;split at hb
            · rename_i heq;simp at heq;subst heq;cases hb;exact .inr (h.row fq hl)
            · cases hb)
           rw[h0,hrow];exact CD
         · rw[h0];exact .sc rfl
       · have aGz:0<len:=om;obtain⟨g,hg,hA⟩:=hA aGz;subst hA;have hblk:=k2 g hg;have aGA:src≠ []:=by rintro rfl;simp at h0
         rcases hys.src hR with⟨h1,_⟩| ⟨gs,os,cap,news,hye,hne,eW,hcell,lG,hval⟩
         · exact absurd h1 aGA
         · have tM:lo*z.sz+(min src.length len)*z.sz≤cur.size:=by
            rw[k8,←iO];exact fx _ om
           have hnews:(news.take (min src.length len*z.sz)).length=min src.length len*z.sz:=by
            rw[dX,eW];exact De (fx _ (aiD _ _))
           have ahf:=run_loadCells (P:=X.P) w ⟨gs,os,none⟩ (min src.length len*z.sz) (fun j=> (news[j]?).getD undef) (fun j hj=>by
            have hj':j<news.length:=by rw[eW];exact nP hj (fx _ (aiD _ _))
            rw[hcell j _ (bX hj')];simp[hj'])
           have aGC:(List.range (min src.length len*z.sz)).map (fun j=> (news[j]?).getD undef)=news.take (min src.length len*z.sz):=by
            apply uj;intro j;rw[bO,jD];split
            · rename_i hj;have hj':j<news.length:=by rw[eW];exact nP hj (fx _ (aiD _ _))
              simp[pY hj,hj']
            · rename_i hj;simp;omega
           have Rp:=Ay X.P g (lo*z.sz) e' fz (news.take (min src.length len*z.sz)) 0 cur w ca hblk (by rw[hnews];omega) (fun u hu=>lG u (hU hu));simp only[gb]at Rp;have hn:Nat.min src.length len=min src.length len:=rfl;have hw :=(h.write hN hg hblk ((cur.toList.take (lo*z.sz)++news.take (min src.length len*z.sz)++cur.toList.drop (lo*z.sz+(news.take (min src.length len*z.sz)).length)).toArray) [] (by simp) (.row e' (rows.take lo++src.take (min src.length len)++rows.drop (lo+min src.length len))) (fun hG gw _=>by
            refine⟨z,_,fz,by rw[drop_nil];exact hN,(by
              have e1:(cur.toList.take (lo*z.sz)++news.take (min src.length len*z.sz)++cur.toList.drop (lo*z.sz+(news.take (min src.length len*z.sz)).length)).toArray.size=cur.size:=by simp[hnews];omega
              rw[e1];exact ca),fun g' hg'=>by rw[hg]at hg';cases hg';exact gw,by simp;omega,k4,k5,k6,k7,by rw[←k8];simp;omega,g_,ik,fun i r j p hi hj=> ?_⟩
            have hjz:j<z.sz:=by rw[←g_ r (cH hi)];exact(cN.1 hj).1
            rw[hnews]at hG;rw[zv,sP (by rw[hnews];simp;omega),hnews];have hsp:=sP (l:=rows) (ys:=src.take (min src.length len)) (off:=lo) (k:=i) (by rw[pF];omega);rw[pF]at hsp;rw[hsp]at hi;split at hi
            · rename_i hc;have hlt:(i-lo+1)*z.sz≤min src.length len*z.sz:=fx _ om;have e1:i*z.sz=lo*z.sz+(i-lo)*z.sz:=by rw[←iO];congr 1;omega
              rw[kl]at hlt;rw[au om,jD,au om];obtain⟨u,q1,q2⟩:=hval _ r j p (xe hi).1 hj;exact⟨u,by rw[←q1];congr 1;omega,q2.goes hG⟩
            · rename_i hc;have hno:¬(lo*z.sz≤i*z.sz+j∧i*z.sz+j<lo*z.sz+min src.length len*z.sz):=by
               rintro⟨q1,q2⟩;apply hc;rw[←iO]at q2;refine⟨?_,?_⟩
               · rcases pX i lo with h7|h7
                 · have:(i+1)*z.sz≤lo*z.sz:=fx _ h7;rw[kl]at this;omega
                 · exact h7
               · rcases pX i (lo+min src.length len)with h7|h7
                 · exact h7
                 · have:(lo+min src.length len)*z.sz≤i*z.sz:=fx _ h7;omega
              rw[aE hno];obtain⟨u,q1,q2⟩:=lE i r j p hi hj;exact⟨u,by simpa using q1,q2.goes hG⟩)).2
           rw[drop_nil]at hw;refine⟨.int .i64 (min src.length len:Nat),_,?_,hw,.sc rfl⟩;rw[hye];rw[aGC]at ahf;generalize w.setRow g _=W at Rp⊢;simp[Builtin.copy_,run_underlying hu,Builtin.lenOf,Builtin.firstCells,run_sizeOf w kG,bj,hn,ahf,goInt];rw[Rp];rfl
     split at he
     · rename_i n;have fq:=(h.bU hx).2.2 n (by simp[C.names]);split at he
       · rename_i e' rows hl;split at he
         · rename_i hc;cases he;obtain⟨z,k1,k2⟩:=bT.get (h.bU hx).1 (h.gQ hx (n:=n) (by simp[C.names]));obtain⟨z',cur,fz,j1,ca,j2,j3,j4,j5,j6,j7,j8,j9,tS,CG⟩:=h.row fq hl;rw[k1]at j1;cases j1;have:=key n 0 rows.length e' rows fq hl hc.1 hc.2 om ⟨z,_,_,k1,by rw[←j3];exact k2,fun h0=>by
            cases hg:z.g with
            |none=>have:=tS hg;omega
            |some g=>exact⟨g,rfl,by simp⟩⟩
           simpa using this
         · cases he
       · cases he
     · rename_i n lo len;have fq:=(h.bU hx).2.2 n (by simp[C.names]);split at he
       · rename_i e' rows hl;split at he
         · rename_i hc;cases he;obtain⟨z,k1,k2,A,k3,k4⟩:=bT.get (h.bU hx).1 (h.gQ hx (n:=n) (by simp[C.names]));obtain⟨z',cur,fz,j1,ca,j2,j3,j4,j5,j6,j7,j8,j9,tS,CG⟩:=h.row fq hl;rw[k1]at j1;cases j1;exact key n lo len e' rows fq hl hc.1 hc.2.1 hc.2.2 ⟨z,_,_,k1,k3,fun h0=>by
            cases hg:z.g with
            |none=>have:=tS hg;omega
            |some g=>exact⟨g,rfl,by rw[k4 (.inl om),hg];rfl⟩⟩
         · cases he
       · cases he
     · cases he
   · cases he
 · cases he
end
structure Own (P:aQ) (f:FuncId):Prop where
 fn:∃fn,P.funcs[f]? =some fn∧(fn.name== "runtime.NumGoroutine")=false∧fn.body.isNone=false
def hp (H:List cO):Hp:=H.zipIdx.map fun x=> (x.2,x.1)
theorem VB:∀(H:List cO) (k n:Nat),List.lookup n ((H.zipIdx k).map fun x=> (x.2,x.1))=if k≤n then H[n-k]? else none
 |[],k,n=>by simp
 |b::H,k,n=>by
  simp only[aiz,bC,eR,VB H (k+1) n];by_cases h:n=k
  · subst h;simp
  · rw[beq_eq_false_iff_ne.2 h];by_cases h2:k≤n
    · rw[au h2,au om];obtain⟨m,rfl⟩:∃m,n=k+1+m:=⟨n- (k+1),om⟩
      simp[show k+1+m-k=m+1 by omega]
    · rw[aE h2,aE om]
theorem aaN (H:List cO) (n:Nat):(hp H).lookup n=H[n]?:=by simp[hp,VB]
structure Cu (N:Nat→Option Nm) (k:Nat) (w w':av) (E':Env):Prop where
 ao:E'.ao=[]
 names:∀n x g,E'.N n=some x→x.g=some g→g<w'.heap.size∧((∃m y,N m=some y∧y.g=some g)∨w.heap.size≤g)
 inj:∀n m x y g,E'.N n=some x→E'.N m=some y→x.g=some g→y.g=some g→n=m
 dw:∀m,m<k→E'.N m=none∨E'.N m=N m
structure eI (P:aQ) (f:FuncId) (args:List V1) (H:List cO) (r:V) (H':Hp):Prop where
 own:Own P f
 call:∀(w:av) (M:bY) (N:Nat→Option Nm) (vals:Array aD),(∀g,M g→g<w.heap.size)→(∀n x,N n=some x→n<H.length)→
  (∀n x g,N n=some x→x.g=some g→g<w.heap.size∧¬M g)→(∀n m x y g,N n=some x→N m=some y→x.g=some g→y.g=some g→n=m)→
  (∀n b,H[n]? =some b→RB P M ⟨N,[]⟩ w n b)→vals.size=args.length→
  (∀(i:Nat) (x:V1),args[i]? =some x→∃u,vals[i]? =some u∧dq M ⟨N,[]⟩ w x u)→
  Calls P f vals w fun e w'=>∃v E',e= .returned v∧Frame (fun g=>∃n x,N n=some x∧x.g=some g) w w'∧Cu N H.length w w' E'∧
   (∀n b,H'.lookup n=some b→RB P M E' w' n b)∧RV M E' w' r v
def C.cX (ρ:Nat→Nat):C→C
 | .own n=> .own (ρ n)| .sub n lo len=> .sub (ρ n) lo len| .ptr n off=> .ptr (ρ n) off| .cB n i j=> .cB (ρ n) i j| .mp n=> .mp (ρ n)| .fn f cQ=> .fn f (cQ.map ρ)|c=>c
def V1.on (f:C→C):V1→V1
 | .c x=> .c (f x)
 | .agg xs=> .agg (xs.map f)
def V.on (f:C→C):V→V
 | .v x=> .v (x.on f)
 | .aj xs=> .aj (xs.map (V1.on f))
def cO.on (f:C→C):cO→cO
 | .box cs=> .box (cs.map f)
 |b=>b
def cO.names:cO→List Nat
 | .box cs=>cs.flatMap C.names
 |_=> []
def Hp.cX (ρ:Nat→Nat) (H:Hp):Hp:=H.map fun x=> (ρ x.1,x.2.on (C.cX ρ))
def PV.bare:PV→Bool
 | .sc _=>true
 | .sl rows=>rows.isEmpty
def C.bare:C→Bool
 | .p q=>q.bare
 | .ref _=>false
 |_=>true
def V1.bare:V1→Bool
 | .c x=>x.bare
 | .agg xs=>xs.all C.bare
def V.bare:V→Bool
 | .v x=>x.bare
 | .aj xs=>xs.all V1.bare
def cO.bare:cO→Bool
 | .box cs=>cs.all C.bare
 | .row _ rows=>rows.all (·.all PV.bare)
 | .map es=>es.all (·.2.all PV.bare)
theorem RP.bare {M M':bY} {w:av} {q:PV} {v:aD} (hb:q.bare=true) (h:RP M w q v):RP M' w q v:=by
 cases h with
 |sc h=>exact .sc h
 |nil=>exact .nil
 |row h0=>simp[PV.bare]at hb;exact absurd hb h0
section
variable {M M':bY} {E E':Env} {w:av} {f:C→C}
theorem dq.on (hf:∀c v,RC M E w c v→RC M' E' w (f c) v) {x:V1} {v:aD} (h:dq M E w x v):dq M' E' w (x.on f) v:=by
 cases x with
 |c c=>exact hf c v h
 |agg cs=>
  obtain⟨us,h1,h2,h3⟩:=h;refine⟨us,h1,by simp[h2],fun i c hi=> ?_⟩;simp only[bO,aW]at hi;obtain⟨c',hc',rfl⟩:=hi;obtain⟨u,h4,h5,h6⟩:=h3 i c' hc';exact⟨u,h4,hf c' u h5,h6⟩
theorem RV.on (hf:∀c v,RC M E w c v→RC M' E' w (f c) v) {x:V} {v:aD} (h:RV M E w x v):RV M' E' w (x.on f) v:=by
 cases x with
 |v x=>exact dq.on hf h
 |aj xs=>
  obtain⟨us,h1,h2,h3⟩:=h;refine⟨us,h1,by simp[h2],fun i c hi=> ?_⟩;simp only[bO,aW]at hi;obtain⟨c',hc',rfl⟩:=hi;obtain⟨u,h4,h5⟩:=h3 i c' hc';exact⟨u,h4,dq.on hf h5⟩
theorem RC.cX {ρ:Nat→Nat} {c:C} {v:aD} (hs:iB (bad M E) (bad M' E') w w∨c.bare=true) (hN:∀n∈c.names,n∉E.ao∧∀x,E.N n=some x→E'.N (ρ n)=some x) (h:RC M E w c v):RC M' E' w (c.cX ρ) v:=by
 have nm:∀n (Q:Nm→Prop),n∈c.names→bT E n Q→bT E' (ρ n) Q:=by
  intro n Q hn hq;obtain⟨x,h1,h2⟩:=bT.get hq (hN n hn).1;exact .inr ⟨x,(hN n hn).2 x h1,h2⟩
 cases c with
 |p q=>exact hs.elim (fun hs=>RP.trans h hs) (fun hb=>RP.bare hb h)
 |nil=>exact h
 |own n=>exact nm n _ (by simp[C.names]) h
 |sub n lo len=>exact nm n _ (by simp[C.names]) h
 |ptr n off=>exact nm n _ (by simp[C.names]) h
 |cB n i j=>exact nm n _ (by simp[C.names]) h
 |ref cells=>
  rcases hs with hs|hs
  · obtain⟨g,o,h1,h2⟩:=h;refine⟨g,o,h1,fun j p hj=> ?_⟩;obtain⟨u,h3,h4,h5⟩:=h2 j p hj;exact⟨u,h3,(hs _ _ _ h3 h4).2,h5.trans hs⟩
  · cases hs
 |fn f cQ=>
  obtain⟨us,h1,h2,h3⟩:=h;refine⟨us,h1,by simp[h2],fun i n hi=> ?_⟩;simp only[bO,aW]at hi;obtain⟨m,hm,rfl⟩:=hi;obtain⟨u,h4,h5⟩:=h3 i m hm;exact⟨u,h4,nm m _ (by simp only[C.names];exact cH hm) h5⟩
 |mp n=>exact nm n _ (by simp[C.names]) h
 |dead=>trivial
theorem RB.cX {P:aQ} {ρ:Nat→Nat} {n:Nat} {b:cO} (hs:iB (bad M E) (bad M' E') w w∨b.bare=true) (hn:∀x,E.N n=some x→E'.N (ρ n)=some x) (hN:∀n∈b.names,n∉E.ao∧∀x,E.N n=some x→E'.N (ρ n)=some x) (h:RB P M E w n b):
  RB P M' E' w (ρ n) (b.on (C.cX ρ)):=by
 have rp:∀{q:PV} {v:aD},(b.bare=true→q.bare=true)→RP (bad M E) w q v→RP (bad M' E') w q v:=fun hb hq=>hs.elim (fun hs=>hq.trans hs) (fun h=>RP.bare (hb h) hq)
 cases b with
 |box cs=>
  obtain⟨x,g,cur,e,h1,h0,h2,h3,h4⟩:=h;refine⟨x,g,cur,e,hn x h1,h0,h2,by simp[h3],fun i c hi=> ?_⟩;simp only[bO,aW]at hi;obtain⟨c',hc',rfl⟩:=hi;obtain⟨u,h5,h6,h7⟩:=h4 i c' hc';have hm:=cH hc';refine⟨u,h5,RC.cX (hs.imp id fun hb=> ?_) (fun m tR=>hN m (uh.2 ⟨c',hm,tR⟩)) h6,h7⟩;simp only[cO.bare,bk]at hb;exact hb c' hm
 |row e rows=>
  obtain⟨x,cur,fz,h1,ca,h2,h3,h4,h5,h6,h11,h7,h8,h10,h9⟩:=h;refine⟨x,cur,fz,hn x h1,ca,h2,h3,h4,h5,h6,h11,h7,h8,h10,fun i r j p hi hj=> ?_⟩;obtain⟨u,k1,k2⟩:=h9 i r j p hi hj;refine⟨u,k1,rp (fun hb=> ?_) k2⟩;simp only[cO.bare,bk]at hb;exact hb r (cH hi) p (cH hj)
 |map es=>
  obtain⟨x,g,en,clock,h1,h0,h2,h3⟩:=h;exact⟨x,g,en,clock,hn x h1,h0,h2,h3⟩
end
theorem abJ {ρ:Nat→Nat}:∀{H:Hp} {n:Nat} {b':cO},(Hp.cX ρ H).lookup n=some b'→∃m b,H.lookup m=some b∧ρ m=n∧b'=b.on (C.cX ρ)
 |[],n,b',h=>by simp[Hp.cX]at h
 | (m0,b0)::H,n,b',h=>by
  simp only[Hp.cX,bC,eR]at h;split at h
  · rename_i heq;simp at heq;cases h;exact⟨m0,b0,by simp,heq.symm,rfl⟩
  · rename_i heq;obtain⟨m,b,h1,h2,h3⟩:=abJ (H:=H) h;refine⟨m,b,?_,h2,h3⟩;rw[eR];have:(m==m0)=false:=by
     rw[beq_eq_false_iff_ne];rintro rfl;simp[h2]at heq
    rw[this];exact h1
theorem Wi {ρ:Nat→Nat}:∀{H:Hp} {m:Nat} {b:cO},H.lookup m=some b→(Hp.cX ρ H).lookup (ρ m)≠none
 |[],m,b,h=>by simp at h
 | (m0,b0)::H,m,b,h=>by
  simp only[Hp.cX,bC,eR];split
  · simp
  · rename_i heq;rw[eR]at h;split at h
    · rename_i he;simp at he;subst he;simp at heq
    · exact Wi h
def sD (st:ak) (ι:List Nat) (L:List Nat):C→C→Prop
 | .dead,_=>True
 | .p q,c=>c= .p q∨∃rows,q= .sl rows∧st.view c=some rows∧∀n∈c.names,n∈L
 |c',c=>c=c'.cX (fun m=> (ι[m]?).getD 0)∧∀m∈c'.names,m<ι.length
def yy (st:ak) (ι:List Nat) (L:List Nat):V1→V1→Prop
 | .c c',.c c=>sD st ι L c' c
 | .agg cs',.agg cs=>cs.length=cs'.length∧∀(i:Nat) (c':C),cs'[i]? =some c'→∃c,cs[i]? =some c∧sD st ι L c' c
 |_,_=>False
def xI (st:ak) (ι:List Nat) (L:List Nat):cO→cO→Prop
 | .box cs',.box cs=>cs.length=cs'.length∧∀(i:Nat) (c':C),cs'[i]? =some c'→∃c,cs[i]? =some c∧sD st ι L c' c
 | .row e' bK,.row e rows=>e'=e∧bK=rows
 | .map es',.map es=>es'=es
 |_,_=>False
def o8 (ι:List Nat) (d:Nat) (m:Nat):Nat:=if m<ι.length then(ι[m]?).getD 0 else d+(m-ι.length)
structure B2 (P:aQ) (st:ak) (d:Nat) (f:FuncId) (xs:List V1) (v:V) (ef:dB) (rd:List Nat):Prop where
 ex:∃(cargs:List V1) (H:List cO) (r:V) (H':Hp) (ι L:List Nat),eI P f cargs H r H'∧ι.length=H.length∧ι.Nodup∧
  xs.length=cargs.length∧(∀(i:Nat) (x':V1),cargs[i]? =some x'→∃x,xs[i]? =some x∧yy st ι L x' x)∧
  (∀(i:Nat) (b':cO),H[i]? =some b'→∃n b,ι[i]? =some n∧st.heap.lookup n=some b∧xI st ι L b' b)∧
  (∀n∈ι,n∉st.ao∧n∉L)∧(∀n∈L,n∉st.ao)∧
  (∀n∈r.names,n<ι.length+8)∧(∀n b,H'.lookup n=some b→n<ι.length+8∧∀m∈b.names,m<ι.length+8)∧
  (∀n∈r.names,n<ι.length→H'.lookup n≠none)∧(∀n b,H'.lookup n=some b→∀m∈b.names,m<ι.length→H'.lookup m≠none)∧
  ((∀n∈L,n∈ef.ao)∨(r.bare=true∧∀n b,H'.lookup n=some b→b.bare=true))∧
  (∀(i n:Nat),ι[i]? =some n→(n∈ef.ao ↔ H'.lookup i=none))∧(∀n∈ef.ao,n∈ι∨n∈L)∧
  (∀n∈ef.ao,n<d)∧v=r.on (C.cX (o8 ι d))∧ef.jk=Hp.cX (o8 ι d) H'∧rd=ι++L
theorem Tr {st:ak} {c:C} {rows:List (List PV)} (h:st.view c=some rows):∃ns,st.sink c=some (.sl rows,ns)∧∀n∈ns,n∈c.names:=by
 cases c with
 |p q=>
  cases q with
  |sc=>cases h
  |sl=>cases h;exact⟨_,rfl,by simp⟩
 |nil=>cases h;exact⟨_,rfl,by simp⟩
 |own n=>
  simp only[ak.view]at h;split at h
  · simp_all[ak.sink,C.names]
  · cases h
 |sub n lo len=>
  simp only[ak.view]at h;split at h
  · simp_all[ak.sink,C.names]
  · cases h
 |_=>cases h
def iY (E:Env) (ι:List Nat):Nat→Option Nm:=fun m=>match ι[m]? with|some n=>E.N n|none=>none
def pf (M:bY) (E:Env) (ι L:List Nat):bY:=fun g=>M g∨∃n x,E.N n=some x∧x.g=some g∧n∉ι∧n∉L
section
variable {X:Fx} {E:Env} {st:ak} {a:Act} {w:av} {ι L:List Nat}
theorem mY {m:Nat} {x:Nm} (h:iY E ι m=some x):∃n,ι[m]? =some n∧E.N n=some x:=by
 unfold iY at h;split at h
 · exact⟨_,by assumption,h⟩
 · cases h
theorem adA {M:bY} {g:Nat} (h:bad (pf M E ι L) ⟨iY E ι,[]⟩ g):bad M E g:=by
 rcases h with(h| ⟨n,x,h1,h2,_⟩)| ⟨m,x,h1,h2⟩
 · exact .inl h
 · exact .inr ⟨n,x,h1,h2⟩
 · obtain⟨n,h3,h4⟩:=mY h1;exact .inr ⟨n,x,h4,h2⟩
theorem MY (h:Rel X E st a w) (hι:∀n∈ι,n∉st.ao∧n∉L) (hL:∀n∈L,n∉st.ao) {c' c:C} {v:aD} (hf:sD st ι L c' c) (hc:RC X.M E w c v):RC (pf X.M E ι L) ⟨iY E ι,[]⟩ w c' v:=by
 have hst:iB (bad X.M E) (bad (pf X.M E ι L) ⟨iY E ι,[]⟩) w w:=fun g o u h1 h2=> ⟨h1,fun h=>h2 (adA h)⟩
 have nm:∀m (Q:Nm→Prop),m<ι.length→bT E ((ι[m]?).getD 0) Q→bT ⟨iY E ι,[]⟩ m Q:=by
  intro m Q hm hq;have hi:ι[m]? =some ι[m]:=bX hm;rw[hi]at hq;obtain⟨x,h1,h2⟩:=bT.get hq (by rw[h.ao];simp_all);exact .inr ⟨x,by simp_all[iY],h2⟩
 cases c' with
 |dead=>trivial
 |p q=>
  rcases hf with rfl| ⟨rows,rfl,hv,hn⟩
  · exact RP.trans hc hst
  · obtain⟨ns,h1,h2⟩:=Tr hv;obtain⟨_,_,h3⟩:=h.sink hc (fun n cZ=>hL n (hn n cZ)) h1;refine RP.trans (h3 ns (fun _ h=>h)) (fun g o u k1 k2=> ⟨k1,fun k3=>k2 ?_⟩);rcases k3 with(k3| ⟨n,x,k4,k5,k6,k7⟩)| ⟨m,x,k4,k5⟩
    · exact .inl k3
    · refine .inr ⟨n,x,?_,k5⟩;simp only[Env.drop];rw[aE fun fp=>k7 (hn n (h2 n fp))];exact k4
    · obtain⟨n,k6,k7⟩:=mY k4;refine .inr ⟨n,x,?_,k5⟩;simp only[Env.drop];rw[aE fun fp=> (hι n (cH k6)).2 (hn n (h2 n fp))];exact k7
 |nil=>obtain⟨rfl,_⟩:=hf;exact hc
 |own n=>obtain⟨rfl,hn⟩:=hf;exact nm n _ (hn n (by simp[C.names])) hc
 |sub n lo len=>obtain⟨rfl,hn⟩:=hf;exact nm n _ (hn n (by simp[C.names])) hc
 |ptr n off=>obtain⟨rfl,hn⟩:=hf;exact nm n _ (hn n (by simp[C.names])) hc
 |cB n i j=>obtain⟨rfl,hn⟩:=hf;exact nm n _ (hn n (by simp[C.names])) hc
 |mp n=>obtain⟨rfl,hn⟩:=hf;exact nm n _ (hn n (by simp[C.names])) hc
 |ref cells=>
  obtain⟨rfl,_⟩:=hf;obtain⟨g,o,h1,h2⟩:=hc;refine⟨g,o,h1,fun j p hj=> ?_⟩;obtain⟨u,h3,h4,h5⟩:=h2 j p hj;exact⟨u,h3,(hst _ _ _ h3 h4).2,h5.trans hst⟩
 |fn f cQ=>
  obtain⟨rfl,hn⟩:=hf;obtain⟨us,h1,h2,h3⟩:=hc;refine⟨us,h1,by simpa using h2,fun i n hi=> ?_⟩;obtain⟨u,h4,h5⟩:=h3 i _ (by rw[bO,hi];rfl);exact⟨u,h4,nm n _ (hn n (by simp only[C.names];exact cH hi)) h5⟩
theorem aAd (h:Rel X E st a w) (hι:∀n∈ι,n∉st.ao∧n∉L) (hL:∀n∈L,n∉st.ao) {x' x:V1} {v:aD} (hf:yy st ι L x' x) (hc:dq X.M E w x v):dq (pf X.M E ι L) ⟨iY E ι,[]⟩ w x' v:=by
 cases x' with
 |c c'=>
  cases x with
  |c c=>exact MY h hι hL hf hc
  |agg=>exact hf.elim
 | agg cs'=>
  cases x with
  |c=>exact hf.elim
  |agg cs=>
   obtain⟨us,h1,h2,h3⟩:=hc;refine⟨us,h1,by rw[h2,hf.1],fun i c' hi=> ?_⟩;obtain⟨c,h4,h5⟩:=hf.2 i c' hi;obtain⟨u,h6,h7,h8⟩:=h3 i c h4;exact⟨u,h6,MY h hι hL h5 h7,h8⟩
theorem aFt (h:Rel X E st a w) (hι:∀n∈ι,n∉st.ao∧n∉L) (hL:∀n∈L,n∉st.ao) {i n:Nat} {b' b:cO} (hi:ι[i]? =some n) (hl:st.heap.lookup n=some b) (hf:xI st ι L b' b):
  RB X.P (pf X.M E ι L) ⟨iY E ι,[]⟩ w i b':=by
 have hst:iB (bad X.M E) (bad (pf X.M E ι L) ⟨iY E ι,[]⟩) w w:=fun g o u h1 h2=> ⟨h1,fun h=>h2 (adA h)⟩
 have hb:=h.row (hι n (cH hi)).1 hl;have hN:∀x,E.N n=some x→(⟨iY E ι,[]⟩:Env).N i=some x:=fun x hx=>by simp_all[iY]
 cases b' with
 | box cs'=>
  cases b with
  |box cs=>
   obtain⟨x,g,cur,e,h1,h0,h2,h3,h4⟩:=hb;refine⟨x,g,cur,e,hN x h1,h0,h2,by rw[h3,hf.1],fun j c' hj=> ?_⟩;obtain⟨c,k1,k2⟩:=hf.2 j c' hj;obtain⟨u,k3,k4,k5⟩:=h4 j c k1;exact⟨u,k3,MY h hι hL k2 k4,k5⟩
  |_=>exact hf.elim
 | row e' bK=>
  cases b with
  |row e rows=>
   obtain⟨rfl,rfl⟩:=hf;obtain⟨x,cur,fz,h1,ca,h2,h3,h4,h5,h6,h11,h7,h8,h10,h9⟩:=hb;exact⟨x,cur,fz,hN x h1,ca,h2,h3,h4,h5,h6,h11,h7,h8,h10,fun i r j p hi hj=>let⟨u,k1,k2⟩:=h9 i r j p hi hj; ⟨u,k1,k2.trans hst⟩⟩
  |_=>exact hf.elim
 | map es'=>
  cases b with
  |map es=>
   cases hf;obtain⟨x,g,en,clock,h1,h0,h2,h3⟩:=hb;exact⟨x,g,en,clock,hN x h1,h0,h2,h3⟩
  |_=>exact hf.elim
end
def qj (X:Fx) (E:Env) (st:ak) (d:Nat):Prop:=∀n,d≤n→n<d+8→E.N n=none∧n∉st.ao∧n<st.next∧X.k0≤n
section
variable {X:Fx} {E:Env} {st:ak} {a:Act} {w:av}
theorem ayi (h:Rel X E st a w) {d:Nat} (hF:qj X E st d) {f:FuncId} {vals:Array aD} {xs:List V1} (hx1:vals.size=xs.length) (hx2:∀(i:Nat) (x:V1),xs[i]? =some x→∃u,vals[i]? =some u∧dq X.M E w x u) {v:V} {ef:dB} {rd:List Nat} (hc:B2 X.P st d f xs v ef rd):
   Own X.P f∧Calls X.P f vals w fun e w'=>∃u E',e= .returned u∧(∀n,¬(d≤n∧n<d+8)→E.N n=none→E'.N n=none)∧Rel X E' (st.cq ef) a w'∧RV X.M E' w' v u:=by
 obtain⟨cargs,H,r,H',ι,L,hA,hlen,tT,gz,gx,H0,hι,hL,Rq,Rr,Rs,Rt,H2,hgι,nI,hgd,rfl,H3,_⟩:=hc;refine⟨hA.own,?_⟩;have ahg:∀i,i<ι.length→∃n x,ι[i]? =some n∧E.N n=some x:=by
   intro i hi;have hi':i<H.length:=om;obtain⟨n,b,h1,h2,h3⟩:=H0 i _ (bX hi');have hb:=h.row (hι n (cH h1)).1 h2
   cases b with
   |box cs=>obtain⟨x,_,_,_,h4,_⟩:=hb;exact⟨n,x,h1,h4⟩
   |row e rows=>obtain⟨x,_,_,h4,_⟩:=hb;exact⟨n,x,h1,h4⟩
   |map es=>obtain⟨x,_,_,_,h4,_⟩:=hb;exact⟨n,x,h1,h4⟩
 have hιE:∀n∈ι,∃x,E.N n=some x:=by
   intro n hn;obtain⟨i,hi,rfl⟩:=lQ hn;obtain⟨n',x,h1,h2⟩:=ahg i hi;rw[bX hi]at h1;cases h1;exact⟨x,h2⟩
 have hιinj:∀(i j n:Nat),ι[i]? =some n→ι[j]? =some n→i=j:=by
   intro i j n h1 h2;have hi:=(cN.1 h1)
   have hj:=(cN.1 h2)
   obtain⟨il,kI⟩:=hi;obtain⟨hj1,HY⟩:=hj;have hp:=SI.1 tT;rcases IN i j with hlt|heq|hlt
   · exact absurd (kI.trans HY.symm) (hp i j il hj1 hlt)
   · exact heq
   · exact absurd (HY.trans kI.symm) (hp j i hj1 il hlt)
 have pL:=hA.call w (pf X.M E ι L) (iY E ι) vals ?_ ?_ ?_ ?_ ?_ ?_ ?_
 · refine pL.mono ?_;rintro e w' ⟨u,E',rfl,pM,fL,hH',hrv⟩
   let E2:Env:=⟨fun n=>if n∈ef.ao then none else if d≤n∧n<d+8 then E'.N (ι.length+(n-d))else E.N n,ef.ao++E.ao⟩
   have y6:∀n y,E2.N n=some y→n∉ef.ao∧((d≤n∧n<d+8∧E'.N (ι.length+(n-d))=some y)∨(¬(d≤n∧n<d+8)∧E.N n=some y)):=by
     intro n y hy;simp only[E2]at hy;split at hy
     · cases hy
     · rename_i hg;split at hy
       · rename_i hd;exact⟨hg,.inl ⟨hd.1,hd.2,hy⟩⟩
       · rename_i hd;exact⟨hg,.inr ⟨hd,hy⟩⟩
   have ahk:∀n y,E.N n=some y→¬(d≤n∧n<d+8):=fun n y hy hd=>by rw[(hF n hd.1 hd.2).1]at hy;cases hy
   have H4:∀n,n∉ef.ao→¬(d≤n∧n<d+8)→E2.N n=E.N n:=fun n h1 h2=>by simp only[E2,aE h1,aE h2]
   have hlt:∀n y g,E.N n=some y→y.g=some g→g<w.heap.size:=fun n y g hy hg=> (h.names n y g hy hg).1
   have Ru:∀(i n:Nat) (x:Nm),ι[i]? =some n→n∉ef.ao→E.N n=some x→E'.N i=some x:=by
     intro i n x hi hn hx;have h1:H'.lookup i≠none:=fun h1=>hn ((hgι i n hi).2 h1)
     obtain⟨b,hb⟩:=Option.ne_none_iff_exists'.1 h1;have Rv:=hH' i b hb;have hne:E'.N i≠none:=by
       cases b with
       |box cs=>obtain⟨y,_,_,_,h4,_⟩:=Rv;rw[h4];simp
       |row e rows=>obtain⟨y,_,_,h4,_⟩:=Rv;rw[h4];simp
       |map es=>obtain⟨y,_,_,_,h4,_⟩:=Rv;rw[h4];simp
     have pK:i<H.length:=by rw[←hlen];exact(cN.1 hi).1
     rcases fL.dw i pK with h2|h2
     · exact absurd h2 hne
     · rw[h2];simp only[iY,hi];exact hx
   have Rw:∀m x,m<ι.length+8→(m<ι.length→H'.lookup m≠none)→E'.N m=some x→E2.N (o8 ι d m)=some x:=by
     intro m x hm hl hx;unfold o8;split
     · rename_i nH;obtain⟨n,y,h1,h2⟩:=ahg m nH;have fq:n∉ef.ao:=fun hg=>hl nH ((hgι m n h1).1 hg)
       rw[h1,eN,H4 n fq (ahk n y h2)];have:=Ru m n y h1 fq h2;rw[hx]at this;rw[h2,this]
     · rename_i nH;have h1:d≤d+(m-ι.length)∧d+(m-ι.length)<d+8:=om;simp only[E2];rw[aE (fun hg=>by have:=hgd _ hg;omega),au h1,show ι.length+(d+(m-ι.length) -d)=m by omega];exact hx
   have hst:(∀n∈L,n∈ef.ao)→iB (bad (pf X.M E ι L) E') (bad X.M E2) w' w':=by
     intro hLg g o u h1 h2;refine⟨h1,fun h3=>h2 ?_⟩;rcases h3 with h3| ⟨n,x,h4,h5⟩
     · exact .inl (.inl h3)
     · obtain⟨h6,h7⟩:=y6 n x h4;rcases h7 with⟨_,_,h7⟩| ⟨_,h7⟩
       · exact .inr ⟨_,x,h7,h5⟩
       · by_cases hn:n∈ι
         · obtain⟨i,hi,bW⟩:=lQ hn;exact .inr ⟨i,x,Ru i n x (by rw[←bW];exact bX hi) h6 h7,h5⟩
         · exact .inl (.inr ⟨n,x,h7,h5,hn,fun hl=>h6 (hLg n hl)⟩)
   have hG : gk X.M E E2 w w':={
     cell := fun g o u h1 h2=>by
       have hg:=World.block_lt_of_cell? w ⟨g,o,none⟩ h1;have hb:=pM.block g hg (fun ⟨m,x,h3,h4⟩=>by
         obtain⟨n,h5,h6⟩:=mY h3;exact h2 (.inr ⟨n,x,h6,h4⟩))
       refine⟨(World.cell?_of_block (w:=w) (a:=⟨g,o,none⟩) hb).trans h1,fun h3=>h2 ?_⟩;rcases h3 with h3| ⟨n,x,h4,h5⟩
       · exact .inl h3
       · obtain⟨_,h7⟩:=y6 n x h4;rcases h7 with⟨_,_,h7⟩| ⟨_,h7⟩
         · rcases(fL.names _ x g h7 h5).2 with⟨m,y,h8,h9⟩|h8
           · obtain⟨k,h10,h11⟩:=mY h8;exact .inr ⟨k,y,h11,h9⟩
           · have hg':g<w.heap.size:=hg;omega
         · exact .inr ⟨n,x,h7,h5⟩
     name:=fun n x hx=>by
       by_cases hg:n∈ef.ao
       · exact .inl (ui _ hg)
       · exact .inr (by rw[H4 n hg (ahk n x hx)];exact hx)
     ao:=fun n hn=>rR _ hn}
   have aGF:∀n∈ef.ao,n<st.next:=fun n hn=>by have:=hgd n hn;have:=(hF d (cT _) om).2.2.1;omega
   refine⟨u,E2,rfl,fun n hn hnn=> ?_,?_,?_⟩
   · simp only[E2,aE hn];split
     · rfl
     · exact hnn
   · refine h.step ef (nx:=st.next) (cT _) hG (by simp[E2,h.ao]) ?_ ?_ ?_ ?_ ?_ aGF ?_ ?_
     · refine h.frame.trans pM ?_;rintro g hg ⟨m,x,h1,h2⟩;obtain⟨n,h3,h4⟩:=mY h1;rcases(h.names n x g h4 h2).2.1 with h5|h5
       · exact h5
       · omega
     · intro n x hx;rcases(y6 n x hx).2 with⟨h1,h2,_⟩| ⟨_,h1⟩
       · exact(hF n h1 h2).2.2.1
       · exact h.cR n x h1
     · intro n x g hx hg;rcases(y6 n x hx).2 with⟨_,_,h1⟩| ⟨_,h1⟩
       · obtain⟨h2,h3⟩:=fL.names _ x g h1 hg;refine⟨h2,?_⟩;rcases h3 with⟨m,y,h4,h5⟩|h3
         · obtain⟨k,h6,h7⟩:=mY h4;exact(h.names k y g h7 h5).2
         · have:=h.frame.size;exact⟨.inr om,fun hM=>by have:=h.mlt g hM;omega⟩
       · obtain⟨h2,h3⟩:=h.names n x g h1 hg;exact⟨nP h2 pM.size,h3⟩
     · intro n m x y g hx hy hg1 hg2;have cross:∀n m x y,d≤n→n<d+8→E'.N (ι.length+(n-d))=some x→m∉ef.ao→E.N m=some y→x.g=some g→y.g=some g→n=m:=by
         intro n m x y h1 h2 h3 iJ h4 h5 h6;exfalso;rcases(fL.names _ x g h3 h5).2 with⟨k,z,h7,h8⟩|h7
         · obtain⟨j,h9,h10⟩:=mY h7;have:=h.inj j m z y g h10 h4 h8 h6;subst this;rw[h10]at h4;cases h4;have:=fL.inj _ k x y g h3 (Ru k j y h9 iJ h10) h5 h8;have:=(cN.1 h9).1;omega
         · have:=hlt m y g h4 h6;omega
       obtain⟨ha,h1⟩:=y6 n x hx;obtain⟨hb,h2⟩:=y6 m y hy;rcases h1 with⟨h3,h4,h5⟩| ⟨_,h5⟩<;>rcases h2 with⟨k3,k4,k5⟩| ⟨_,k5⟩
       · have:=fL.inj _ _ x y g h5 k5 hg1 hg2;omega
       · exact cross n m x y h3 h4 h5 hb k5 hg1 hg2
       · exact(cross m n y x k3 k4 k5 ha h5 hg2 hg1).symm
       · exact h.inj n m x y g h5 k5 hg1 hg2
     · intro m hm;simp only[E2];split
       · exact .inl rfl
       · rw[aE (fun hd=>by have:=(hF m hd.1 hd.2).2.2.2;omega)];exact .inr rfl
     · intro n x g hx hg fq hul;refine pM.block g (hlt n x g hx hg) ?_;rintro⟨m,y,h1,h2⟩;obtain⟨k,h3,h4⟩:=mY h1;have:=h.inj k n y x g h4 hx h2 hg;subst this;have aGH:k∉ef.ao:=fun hk=>fq (ui _ hk)
       have h5:H'.lookup m≠none:=fun h5=>aGH ((hgι m k h3).2 h5)
       obtain⟨b,hb⟩:=Option.ne_none_iff_exists'.1 h5;have h6:=Wi (ρ:=o8 ι d) hb;have nH:=(cN.1 h3).1;rw[show o8 ι d m=k by unfold o8;rw[au nH,h3];rfl,←H3]at h6;exact h6 hul
     · intro n b hl;rw[H3]at hl;obtain⟨m,b',h1,rfl,rfl⟩:=abJ hl;obtain⟨h2,h3⟩:=Rr m b' h1;refine .inr (RB.cX (H2.imp hst fun hb=>hb.2 m b' h1) (fun x hx=>Rw m x h2 (fun _=>by rw[h1];simp) hx) (fun k hk=> ⟨by rw[fL.ao];simp,fun x hx=>Rw k x (h3 k hk) (Rt m b' h1 k hk) hx⟩) (hH' m b' h1))
   ·
     have key:∀c v,c.bare=true∨(∀n∈L,n∈ef.ao)→(∀n∈c.names,n<ι.length+8∧(n<ι.length→H'.lookup n≠none))→RC (pf X.M E ι L) E' w' c v→RC X.M E2 w' (c.cX (o8 ι d)) v:=by
       intro c v hb hn hcc;exact RC.cX (hb.symm.imp hst id) (fun n cZ=> ⟨by rw[fL.ao];simp,fun x hx=>Rw n x (hn n cZ).1 (hn n cZ).2 hx⟩) hcc
     have ahl:∀(x:V1) v,x.bare=true∨(∀n∈L,n∈ef.ao)→(∀n∈x.names,n<ι.length+8∧(n<ι.length→H'.lookup n≠none))→dq (pf X.M E ι L) E' w' x v→dq X.M E2 w' (x.on (C.cX (o8 ι d))) v:=by
       intro x v hb hn hcc
       cases x with
       |c c=>exact key c v hb hn hcc
       | agg cs=>
         obtain⟨us,h1,h2,h3⟩:=hcc;refine⟨us,h1,by simp[h2],fun i c hi=> ?_⟩;simp only[bO,aW]at hi;obtain⟨c',hc',rfl⟩:=hi;obtain⟨u,h4,h5,h6⟩:=h3 i c' hc';have hm:=cH hc';refine⟨u,h4,key c' u (hb.imp (fun hb=> ?_) id) (fun n cZ=>hn n (uh.2 ⟨c',hm,cZ⟩)) h5,h6⟩;simp only[V1.bare,bk]at hb;exact hb c' hm
     have hb0:r.bare=true∨(∀n∈L,n∈ef.ao):=H2.symm.imp (·.1) id;have lH:∀n∈r.names,n<ι.length+8∧(n<ι.length→H'.lookup n≠none):=fun n hn=> ⟨Rq n hn,Rs n hn⟩
     cases r with
     |v x=>exact ahl x u hb0 lH hrv
     | aj xs=>
       obtain⟨us,h1,h2,h3⟩:=hrv;refine⟨us,h1,by simp[h2],fun i c hi=> ?_⟩;simp only[bO,aW]at hi;obtain⟨c',hc',rfl⟩:=hi;obtain⟨u',h4,h5⟩:=h3 i c' hc';have hm:=cH hc';refine⟨u',h4,ahl c' u' (hb0.imp (fun hb=> ?_) id) (fun n cZ=>lH n (uh.2 ⟨c',hm,cZ⟩)) h5⟩;simp only[V.bare,bk]at hb;exact hb c' hm
 · rintro g (hg| ⟨n,x,h1,h2,_⟩)
   · have:=h.mlt g hg;have:=h.frame.size;omega
   · exact(h.names n x g h1 h2).1
 · intro n x hx;obtain⟨k,h1,_⟩:=mY hx;have:=(cN.1 h1).1;omega
 · intro n x g hx hg;obtain⟨k,h1,h2⟩:=mY hx;obtain⟨h3,_,h4⟩:=h.names k x g h2 hg;refine⟨h3,?_⟩;rintro(h5| ⟨m,y,h5,h6,h7,_⟩)
   · exact h4 h5
   · have:=h.inj k m x y g h2 h5 hg h6;subst this;exact h7 (cH h1)
 · intro n m x y g hx hy hg1 hg2;obtain⟨k,h1,h2⟩:=mY hx;obtain⟨j,h3,h4⟩:=mY hy;have:=h.inj k j x y g h2 h4 hg1 hg2;subst this;exact hιinj n m k h1 h3
 · intro i b' hi;obtain⟨n,b,h1,h2,h3⟩:=H0 i b' hi;exact aFt h hι hL h1 h2 h3
 · rw[hx1,gz]
 · intro i x' hi;obtain⟨x,h1,h2⟩:=gx i x' hi;obtain⟨u,h3,h4⟩:=hx2 i x h1;exact⟨u,h3,aAd h hι hL h2 h4⟩
end
end
end
end Go.Proofs.YtndegphojkiblaaGreatDoor
