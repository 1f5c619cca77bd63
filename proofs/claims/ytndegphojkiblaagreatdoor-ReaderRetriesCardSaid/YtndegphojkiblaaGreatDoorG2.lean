/- A part of the proof. -/
import Derived.Test.YtndegphojkiblaaGreatDoorG1
set_option linter.all false
set_option maxHeartbeats 4000000
set_option maxRecDepth 100000
namespace Go.Proofs.YtndegphojkiblaaGreatDoor
noncomputable section
section
open Go.RowKit
open Classical
def Env.drop (E:Env) (ns:List Nat):Env:=⟨fun n=>if n∈ns then none else E.N n,ns++E.ar⟩
theorem mW {E:Env} {ns} {n} {x} (h:(E.drop ns).N n=some x):E.N n=some x∧n∉ns:=by
 simp_all[Env.drop]
theorem sH {M} {E} {ns} {g} (h:bad M (E.drop ns) g):bad M E g:=by
 rcases h with h| ⟨n,x,h1,h2⟩
 · exact .inl h
 · exact .inr ⟨n,x,(mW h1).1,h2⟩
theorem Mf (M) (E) (ns) (w):gx M E (E.drop ns) w w:={
 cell:=fun _ _ _ h1 h2=> ⟨h1,fun h=>h2 (sH h)⟩
 name:=fun n x hx=>by
  by_cases hn:n∈ns
  · exact .inl (by simp[Env.drop,hn])
  · exact .inr (by simp[Env.drop,hn,hx])
 ar:=fun n hn=>by simp[Env.drop,hn]}
section
variable {X:Fx} {E:Env} {st:av} {a:Act} {w:a7}
theorem Rel.drop (h:Rel X E st a w) (ns) (gQ:∀n∈ns,n<st.next):Rel X (E.drop ns) (st.df ⟨[],ns⟩) a w:=
 h.step ⟨[],ns⟩ (nx:=st.next) (cn _) (Mf _ _ _ _) (by simp[Env.drop,h.ar]) h.frame (fun n x hx=>h.cO n x (mW hx).1) (fun n x g hx=>h.names n x g (mW hx).1)
  (fun n m x y g hx hy=>h.inj n m x y g (mW hx).1 (mW hy).1) (fun m _=>by simp only[Env.drop];split;exact .inl rfl;exact .inr rfl) gQ (fun _ _ _ _ _ _ _=>rfl) (fun n b hl=>by simp at hl)
theorem Rel.write (h:Rel X E st a w) {n} {x} (hN:E.N n=some x) {g} (ig:x.g=some g) {cur} {e} {fz} (hg:w.heap[g]? =some (.cells cur e fz)) (us) (ns) (gQ:∀m∈ns,m<st.next) (b)
   (hb:gx X.M E (E.drop ns) w (w.setRow g us)→(w.setRow g us).heap[g]? =some (.cells us e fz)→n∉ns→RB X.P X.M (E.drop ns) (w.setRow g us) n b):
   gx X.M E (E.drop ns) w (w.setRow g us)∧Rel X (E.drop ns) (st.df ⟨[(n,b)],ns⟩) a (w.setRow g us):=by
 have nZ:∀k,k≠g→(w.setRow g us).heap[k]? =w.heap[k]?:=fun k hk=>setRow_other w g k _ hk
 have hsz:(w.setRow g us).heap.size=w.heap.size:=by simp_all
 obtain⟨hx1,hx2,hx3⟩:=h.names n x g hN ig;have hG:gx X.M E (E.drop ns) w (w.setRow g us):={
   cell:=fun k o u k1 k2=>by
     have:k≠g:=by rintro rfl;exact k2 (.inr ⟨n,x,hN,ig⟩)
     exact⟨(World.cell?_of_block (w:=w) (a:=⟨k,o,none⟩) (nZ k this)).trans k1,fun h=>k2 (sH h)⟩
   name:=(Mf X.M E ns w).name
   ar:=(Mf X.M E ns w).ar}
 refine⟨hG,h.step ⟨[(n,b)],ns⟩ (nx:=st.next) (cn _) hG (by simp[Env.drop,h.ar]) ?_ (fun n x hx=>h.cO n x (mW hx).1) (fun n x g hx=>by rw[hsz];exact h.names n x g (mW hx).1)
   (fun n m x y g hx hy=>h.inj n m x y g (mW hx).1 (mW hy).1) (fun m _=>by simp only[Env.drop];split;exact .inl rfl;exact .inr rfl) gQ ?_ ?_⟩
 · refine h.frame.trans (K':=fun k=>k=g) ⟨rfl,rfl,rfl,om,fun k _ hk=>nZ k hk⟩ ?_;rintro k hk rfl;rcases hx2 with h1|h1
   · exact h1
   · omega
 · intro m y k hy hk _ hl;refine nZ _ fun he=> ?_
   subst he;have:=h.inj m n y x k hy hN hk ig;simp_all
 · intro m b' hl;simp only[gW,oq]at hl;split at hl
   · rename_i heq;simp at heq hl;subst heq hl;by_cases hm:m∈ns
     · exact .inl (by simp[Env.drop,hm])
     · exact .inr (hb hG (setRow_heap w g cur us e _ hg) hm)
   · cases hl
theorem Rel.apZ (h:Rel X E st a w) {n} {x} (hN:E.N n=some x):n<st.next:=h.cO n x hN
def av.sink (st:av):C→Option (PV×List Nat)
 | .p q=>some (q,[])
 | .nil=>some (.sl [],[])
 | .own n=>match st.heap.lookup n with
  |some (.row _ rows)=>some (.sl rows,[n])
  |_=>none
 | .sub n lo len=>match st.heap.lookup n with
  |some (.row _ rows)=>some (.sl ((rows.drop lo).take len),[n])
  |_=>none
 |_=>none
theorem Rows.rp {M M'} {w} {rows} {v} (h:Rows M w rows v) (hM:∀g,M' g→M g) (hb:∀g o n c,v= .slice (some ⟨g,o,none⟩) n c→¬M' g):RP M' w (.sl rows) v:=by
 rcases h with⟨rfl,A,cap,rfl⟩| ⟨g,o,cap,sz,f,rfl,h0,hl,hm,hR,hc⟩
 · exact .nil
 · have hs:h_ M M' w w:=fun k o u h1 h2=> ⟨h1,fun h=>h2 (hM k h)⟩
   exact .row h0 hl hm hR (fun i r j p hi hj=> ⟨(hc i r j p hi hj).1,hb g o _ _ rfl⟩) (fun i r j p hi hj=> (hc i r j p hi hj).2.trans hs)
theorem Rel.sink (h:Rel X E st a w) {c} {v} {q} {ns} (hc:RC X.M E w c v) (hn:∀n∈c.names,n∉st.ar) (hs:st.sink c=some (q,ns)):
  (∀n∈ns,n<st.next)∧(∀n∈ns,n∉st.ar)∧∀eu,(∀n∈ns,n∈eu)→RP (bad X.M (E.drop eu)) w q v:=by
 have hst:∀eu,h_ (bad X.M E) (bad X.M (E.drop eu)) w w:=fun eu k o u h1 h2=> ⟨h1,fun h=>h2 (sH h)⟩
 have key :∀n lo len,n∉st.ar→RC X.M E w c v→(c= .own n∨c= .sub n lo len)→∀rows,st.view c=some rows→
    (∀k∈ [n],k<st.next)∧(∀k∈ [n],k∉st.ar)∧∀eu,(∀k∈ [n],k∈eu)→RP (bad X.M (E.drop eu)) w (.sl rows) v:=by
  intro n lo len ew hc hcc rows hv;have hr:=h.view hc hn hv;have hx :∃x,E.N n=some x∧∀g o m cp,v= .slice (some ⟨g,o,none⟩) m cp→x.g=some g∨m=0:=by
    rcases hcc with rfl|rfl
    · obtain⟨x,h1,rfl⟩:=bO.get hc (by rw[h.ar];exact ew);simp_all
    · obtain⟨x,h1,h2,A,rfl,h4⟩:=bO.get hc (by rw[h.ar];exact ew);refine⟨x,h1,fun g o m cp he=> ?_⟩;simp at he;by_cases hl0:len=0
      · omega
      · simp only[av.view]at hv;split at hv
        · rename_i e rs hlk;obtain⟨x',cur,fz,k3,bX,k4,k5,k6,_⟩:=h.row ew hlk;rw[h1]at k3;cases k3;rw[h4 om]at he
          cases hg:x.g with
          |none=>simp_all
          |some g'=>simp_all
        · cases hv
  obtain⟨x,hN,hx⟩:=hx;refine⟨by simpa using h.apZ hN,by simpa using ew,fun eu gQ=> ?_⟩;by_cases h0:rows=[]
  · subst h0;rcases hr with⟨_,A,cap,rfl⟩| ⟨_,_,_,_,_,_,h0,_⟩
    · exact .nil
    simp_all
  · refine hr.rp (fun g hg=>sH hg) ?_;rintro g o m cp rfl hb;have hg:x.g=some g:=by
      rcases hx g o m cp rfl with h1|h1
      · exact h1
      · rcases hr with⟨h2,_⟩| ⟨g',o',cap,sz,f,h2,_⟩
        · exact absurd h2 h0
        · simp at h2;exact absurd (ni om) h0
    rcases hb with hb| ⟨k,y,h1,h2⟩
    · exact(h.names n x g hN hg).2.2 hb
    · obtain⟨h3,h4⟩:=mW h1;have:=h.inj k n y x g h3 hN h2 hg;simp_all
 cases c with
 |p q'=>obtain⟨rfl,rfl⟩:=hs;exact⟨by simp,by simp,fun eu _=>RP.trans hc (hst eu)⟩
 |nil=>obtain⟨rfl,rfl⟩:=hs;cases hc;exact⟨by simp,by simp,fun eu _=> .nil⟩
 |own n=>
  simp only[av.sink]at hs;split at hs
  · rename_i e rows hl;obtain⟨rfl,rfl⟩:=hs;exact key n 0 0 (hn n (by simp[C.names])) hc (.inl rfl) rows (by simp[av.view,hl])
  · cases hs
 |sub n lo len=>
  simp only[av.sink]at hs;split at hs
  · rename_i e rows hl;obtain⟨rfl,rfl⟩:=hs;exact key n lo len (hn n (by simp[C.names])) hc (.inr rfl) _ (by simp[av.view,hl])
  · cases hs
 |_=>cases hs
def av.sinks (st:av):List C→Option (List PV×List Nat)
 |[]=>some ([],[])
 |c::cs=>match st.sink c,st.sinks cs with
  |some (q,ns),some (qs,ms)=>some (q::qs,ns++ms)
  |_,_=>none
theorem WG {st:av}:∀{cs:List C} {qs:List PV} {ns:List Nat},st.sinks cs=some (qs,ns)→qs.length=cs.length∧(∀(i:Nat) (q:PV),qs[i]? =some q→∃c ms,cs[i]? =some c∧st.sink c=some (q,ms)∧∀m∈ms,m∈ns)∧
    ∀n∈ns,∃c q ms,c∈cs∧st.sink c=some (q,ms)∧n∈ms
 |[],qs,ns,h=>by simp[av.sinks]at h;simp_all
 | c :: cs,qs,ns,h=>by
  simp only[av.sinks]at h;split at h
  · rename_i q ms qs' ms' h1 h2;obtain⟨rfl,rfl⟩:=h;obtain⟨h3,h4,h5⟩:=WG h2;refine⟨by simp[h3],fun i q' hi=> ?_,fun n hn=> ?_⟩
    · cases i with
      |zero=>simp at hi;subst hi;exact⟨c,ms,rfl,h1,fun m hm=>zf _ hm⟩
      | succ i=>
        obtain⟨c',N7,k1,k2,k3⟩:=h4 i q' (by simpa using hi);exact⟨c',N7,by simpa using k1,k2,fun m hm=>wk _ (k3 m hm)⟩
    · rcases im.1 hn with h6|h6
      · exact⟨c,q,ms,by simp,h1,h6⟩
      · obtain⟨c',q',N7,k1,k2,k3⟩:=h5 n h6;exact⟨c',q',N7,by simp[k1],k2,k3⟩
  · cases h
theorem Rel.sinks (h:Rel X E st a w) {cs} {us:Array bh} {qs} {ns} (hsz:us.size=cs.length) (hc:∀(i:Nat) (c),cs[i]? =some c→∃u,us[i]? =some u∧RC X.M E w c u) (hn:∀c∈cs,∀n∈c.names,n∉st.ar) (hs:st.sinks cs=some (qs,ns)):
  qs.length=us.size∧(∀n∈ns,n<st.next)∧(∀n∈ns,n∉st.ar)∧∀eu,(∀n∈ns,n∈eu)→∀(i:Nat) (q),qs[i]? =some q→∃u,us[i]? =some u∧RP (bad X.M (E.drop eu)) w q u:=by
 obtain⟨h1,h2,h3⟩:=WG hs;have hall:∀n∈ns,n<st.next∧n∉st.ar:=by
  intro n cQ;obtain⟨c,q,ms,k1,k2,k3⟩:=h3 n cQ;obtain⟨i,hi,rfl⟩:=iq k1;obtain⟨u,k4,k5⟩:=hc i _ (bW hi);obtain⟨k6,k7,_⟩:=h.sink k5 (hn _ k1) k2;simp_all
 refine⟨by rw[h1,hsz],fun n cQ=> (hall n cQ).1,fun n cQ=> (hall n cQ).2,fun eu gQ i q hi=> ?_⟩;obtain⟨c,ms,k1,k2,k3⟩:=h2 i q hi;obtain⟨u,k4,k5⟩:=hc i c k1;obtain⟨_,_,k6⟩:=h.sink k5 (hn c (dn k1)) k2;exact⟨u,k4,k6 eu (fun n cQ=>gQ n (k3 n cQ))⟩
theorem U' {ar} {y} (hl:(V.v y).live ar=true):∀c∈y.cells,∀n∈c.names,n∉ar:=by
 cases y with
 |c c=>intro c' hc';simp[V1.cells]at hc';subst hc';exact(NS hl).2
 |agg cs=>exact ayw hl
noncomputable def vj (P:bB) (st:av) (t:a6) (x y:bD):Option g_:=
 match st.arg x,st.arg y with
 |some (.v (.c (.ptr n off))),some (.v y)=>match st.heap.lookup n with
  |some (.box cs)=>if y.cells.length=da P t∧off+y.cells.length≤cs.length∧mH P t=true then some ⟨[(n,.box (cs.take off++y.cells++cs.drop (off+y.cells.length)))],[]⟩else none
  |_=>none
 | some (.v (.c (.cE n i j))),some (.v y)=>match st.heap.lookup n,st.sinks y.cells with
  |some (.row e rows),some (qs,ns)=>match rows[i]? with
   |some r=>if qs.length=da P t∧j+qs.length≤r.length∧mH P t=true∧n∉ns then some ⟨[(n,.row e (rows.set i (r.take j++qs++r.drop (j+qs.length))))],ns⟩else none
   |none=>none
  |_,_=>none
 |_,_=>none
theorem sD {α:Type} {l ys:List α} {off k} (h:off+ys.length≤l.length):(l.take off++ys++l.drop (off+ys.length))[k]? =if off≤k∧k<off+ys.length then ys[k-off]? else l[k]?:=by
 rw[cd,mg];have:(l.take off).length=off:=by simp;omega
 rw[this];split
 · rename_i h1;rw[aC om,ti,ay h1]
 · rw[mg];split
   · rw[ay om]
   · rw[aC om,wi];congr 1;omega
theorem mI.not {n} {fz} (h:mI n fz) {w:a7} {g} {cur} {e} (hg:w.heap[g]? =some (.cells cur e fz)) {i} (hi:i<n):w.frozen? ⟨g,i,none⟩=false:=by
 simp only[World.frozen?,hg,Bool.and_eq_false_iff,zg];rcases h with h|h
 · simp_all
 omega
theorem B2 (P) (g o) (t) (fz):∀(vs) (i) (cur) (w),mI cur.size fz→w.heap[g]? =some (.cells cur t fz)→o+i+vs.length≤cur.size→(∀v∈vs,v.oneCell'=true)→
  (storeCells ⟨g,o,none⟩ vs i).run P w= .ok () (w.setRow g (cur.toList.take (o+i)++vs++cur.toList.drop (o+i+vs.length)).toArray)
 |[],i,cur,w,hf,hg,_,_=>by
  simp only[storeCells,eW,nj,kS,abC,Array.toArray_toList];rw[setRow_self w g cur t fz hg];rfl
 | v::rest,i,cur,w,hf,hg,hl,h1=>by
  have hi:o+i<cur.size:=by simp at hl;omega
  have aBi:(⟨g,o,none⟩:Addr).add i=⟨g,o+i,none⟩:=by unfold Addr.add;simp_all
  have hcell:w.cell? ⟨g,o+i,none⟩=some cur[o+i]:=by simp[World.cell?,hg,hi]
  have aBj:w.frozen? ⟨g,o+i,none⟩=false:=hf.not hg hi;have hst:(store ((⟨g,o,none⟩:Addr).add i) v).run P w= .ok () (w.setRow g (cur.setIfInBounds (o+i) v)):=by
   rw[aBi,run_store P w _ v _ (h1 v (by simp)),hcell];simp[aBj,setCell_eq_setRow w g (o+i) cur t fz v hg]
  have ih:=B2 P g o t fz rest (i+1) (cur.setIfInBounds (o+i) v) (w.setRow g (cur.setIfInBounds (o+i) v)) (by simpa using hf) (setRow_heap w g cur _ t _ hg) (by simp at hl⊢;omega) (fun x hx=>h1 x (by simp[hx]));simp only[storeCells,Sem.run_bind,hst,Result.andThen_ok,ih,setRow_setRow];congr 3;have e:=list_seg_step cur.toList (o+i) v rest om;simpa[Array.toList_setIfInBounds,CQ]using e
theorem UZ (P) {t} {g o} {v} {cur} {e} {fz} {w} (bX:mI cur.size fz) (hg:w.heap[g]? =some (.cells cur e fz)) (hsz:v.cells.size=da P t) (hi:mH P t=true) (gS:o+v.cells.size≤cur.size)
  (lz:∀u∈v.cells.toList,u.oneCell'=true):
  (Instr.storeAt t (.pointer (some ⟨g,o,none⟩)) v).run P w= .ok () (w.setRow g (cur.toList.take o++v.cells.toList++cur.toList.drop (o+v.cells.toList.length)).toArray):=by
 have hst:=B2 P g o e fz v.cells.toList 0 cur w bX hg om lz;have:¬v.cells.size≠da P t:=by rw[hsz];simp
 simp only[Instr.storeAt,Instr.sureAddr,storeVar,Sem.run_bind,Sem.run_pure,Result.andThen_ok,run_sizeOf w hi,this,if_false];exact hst
theorem amb (h:Rel X E st a w) {t} {x y} {ef}
   (he:vj X.P st t x y=some ef):∃w' E',(Instr.storeAt t (a.eval x) (a.eval y)).run X.P w= .ok () w'∧(∀n,E.N n=none→E'.N n=none)∧Rel X E' (st.df ef) a w':=by
 unfold vj at he;split at he
 · rename_i n off y1 hx hy;have hn:=h.gL hx (n:=n) (by simp[C.names]);obtain⟨z,h1,g,hg,h2⟩:=bO.get (h.bR hx).1 hn;obtain⟨N8,Hf⟩:=h.arg hy;split at he
   · rename_i cs hl;split at he
     · rename_i hb;cases he;obtain⟨hsz,gS,vI⟩:=hb;obtain⟨x',g',cur,e,h3,Ck,h4,h5,h6⟩:=h.row (by rw[←h.ar];exact hn) hl;rw[h1]at h3;cases h3;rw[hg]at Ck;cases Ck;obtain⟨k1,k2⟩:=db.cells N8 (by rw[h.ar];exact Hf);have lz:∀u∈(a.eval y).cells.toList,u.oneCell'=true:=by
         intro u hu;obtain⟨i,hi,N9⟩:=iq hu;have hi':i<y1.cells.length:=by rw[←k1];simpa using hi
         obtain⟨u',j1,j2,j3⟩:=k2 i _ (bW hi');have:(a.eval y).cells[i]? =some u:=by rw[←N9];simp[ry (by simpa using hi:i< (a.eval y).cells.size)]
         rw[this]at j1;cases j1;exact j3
       have hrun:=UZ X.P (t:=t) (o:=off) (.inl rfl) h4 (by rw[k1,hsz]) vI (by rw[k1,h5];exact gS) lz;have hcell:∀(i:Nat) (c:C),(cs.take off++y1.cells++cs.drop (off+y1.cells.length))[i]? =some c→∃u,(cur.toList.take off++(a.eval y).cells.toList++cur.toList.drop (off+(a.eval y).cells.toList.length)).toArray[i]? =some u∧RC X.M E w c u∧u.oneCell'=true:=by
         intro i c hi;rw[sD gS]at hi;rw[CR,sD (by simp[k1,h5];exact gS)];simp only[Pm,k1];split
         · rename_i hc;rw[ay hc]at hi;obtain⟨u,j1,j2,j3⟩:=k2 _ c hi;exact⟨u,by simpa using j1,j2,j3⟩
         · rename_i hc;rw[aC hc]at hi;obtain⟨u,j1,j2,j3⟩:=h6 _ c hi;exact⟨u,by simpa using j1,j2,j3⟩
       have hw:=h.write h1 hg h4 (cur.toList.take off++(a.eval y).cells.toList++cur.toList.drop (off+(a.eval y).cells.toList.length)).toArray [] (by simp) (.box (cs.take off++y1.cells++cs.drop (off+y1.cells.length))) (fun hG ic _=>by
         refine⟨z,g,_,e,by exact h1,hg,ic,by simp[k1,h5],fun i c hi=> ?_⟩;obtain⟨u,j1,j2,j3⟩:=hcell i c hi;exact⟨u,j1,j2.goes hG,j3⟩)
       exact⟨_,_,by rw[h2];exact hrun,fun m hm=>by exact hm,hw.2⟩
     · cases he
   · cases he
 · rename_i n i j y1 hx hy;have hn:=h.gL hx (n:=n) (by simp[C.names]);obtain⟨z,h1,hi,g,hg,h2⟩:=bO.get (h.bR hx).1 hn;obtain⟨N8,Hf⟩:=h.arg hy;split at he
   · rename_i e rows qs ns hl hsk;split at he
     · rename_i r hr;split at he
       · rename_i hb;cases he;obtain⟨hsz,gS,vI,Z_⟩:=hb;obtain⟨x',cur,fz,h3,bX,h4',h5,Cl,aBl,dh,N_,hcs,hR,hnone,h6⟩:=h.row (by rw[←h.ar];exact hn) hl;rw[h1]at h3;cases h3;have h4:=h4' g hg;obtain⟨k1,k2⟩:=db.cells N8 (by rw[h.ar];exact Hf);obtain⟨s1,s2,s3,s4⟩:=h.sinks k1 (fun i c hi=>let⟨u,q1,q2,_⟩:=k2 i c hi; ⟨u,q1,q2⟩) (U' Hf) hsk;have lz:∀u∈(a.eval y).cells.toList,u.oneCell'=true:=by
           intro u hu;obtain⟨i,hi,N9⟩:=iq hu;have hi':i<y1.cells.length:=by rw[←k1];simpa using hi
           obtain⟨u',j1,j2,j3⟩:=k2 i _ (bW hi');have:(a.eval y).cells[i]? =some u:=by rw[←N9];simp[ry (by simpa using hi:i< (a.eval y).cells.size)]
           rw[this]at j1;cases j1;exact j3
         have aEG:r.length=z.sz:=hR r (dn hr);have hblk:i*z.sz+z.sz≤cur.size:=by
           rw[hcs,←ot];exact fy _ om
         have hrun:=UZ X.P (t:=t) (o:=i*z.sz+j) bX h4 (by rw[←s1,hsz]) vI om lz;have hlen:(r.take j++qs++r.drop (j+qs.length)).length=z.sz:=by simp;omega
         have hcell:∀(i':Nat) (r':List PV) (j':Nat) (p:PV),(rows.set i (r.take j++qs++r.drop (j+qs.length)))[i']? =some r'→r'[j']? =some p→∃u,(cur.toList.take (i*z.sz+j)++(a.eval y).cells.toList++cur.toList.drop (i*z.sz+j+(a.eval y).cells.toList.length)).toArray[i'*z.sz+j']? =some u∧RP (bad X.M (E.drop ns)) w p u:=by
           intro i' r' j' p hi' hj';have hst:h_ (bad X.M E) (bad X.M (E.drop ns)) w w:=fun k o u h1 h2=> ⟨h1,fun h=>h2 (sH h)⟩
           rw[CR,sD (by simp;omega)];simp only[Pm,←s1];rw[Ph]at hi';split at hi'
           · rename_i sU;subst sU;split at hi'
             · cases hi';rw[sD gS]at hj';split at hj'
               · rw[ay om,show i*z.sz+j'- (i*z.sz+j)=j'-j by omega];obtain⟨u,q1,q2⟩:=s4 ns (fun _ h=>h) _ p hj';exact⟨u,by simpa using q1,q2⟩
               · rw[aC om];obtain⟨u,q1,q2⟩:=h6 i r j' p hr hj';exact⟨u,by simpa using q1,q2.trans hst⟩
             · cases hi'
           · have N':j'<z.sz:=by rw[←hR r' (dn hi')];exact(dr.1 hj').1
             have hno:¬(i*z.sz+j≤i'*z.sz+j'∧i'*z.sz+j'<i*z.sz+j+qs.length):=by
               rcases rz i i' with h7|h7
               · have:(i+1)*z.sz≤i'*z.sz:=fy _ h7;rw[ot]at this;omega
               · have h8:i'<i:=om;have:(i'+1)*z.sz≤i*z.sz:=fy _ h8;rw[ot]at this;omega
             rw[aC hno];obtain⟨u,q1,q2⟩:=h6 i' r' j' p hi' hj';exact⟨u,by simpa using q1,q2.trans hst⟩
         have hw:=h.write h1 hg h4 (cur.toList.take (i*z.sz+j)++(a.eval y).cells.toList++cur.toList.drop (i*z.sz+j+(a.eval y).cells.toList.length)).toArray ns s2 (.row e (rows.set i (r.take j++qs++r.drop (j+qs.length)))) (fun hG ic Z'=>by
           refine⟨z,_,fz,by simp only[Env.drop,aC Z'];exact h1,(by
             have e1:(cur.toList.take (i*z.sz+j)++(a.eval y).cells.toList++cur.toList.drop (i*z.sz+j+(a.eval y).cells.toList.length)).toArray.size=cur.size:=by simp;omega
             rw[e1];exact bX),fun g' hg'=>by rw[hg]at hg';cases hg';exact ic,by simp[h5],Cl,aBl,dh,N_,by simp;omega,?_,hnone,fun i' r' j' p hi' hj'=> ?_⟩
           · intro q hq;rcases List.mem_or_eq_of_mem_set hq with h7|h7
             · exact hR q h7
             · rw[h7];exact hlen
           · obtain⟨u,q1,q2⟩:=hcell i' r' j' p hi' hj';refine⟨u,q1,q2.trans (fun k o u' c1 c2=> ?_)⟩;have hne:k≠g:=by rintro rfl;exact c2 (.inr ⟨n,z,by simp only[Env.drop,aC Z'];exact h1,hg⟩)
             exact⟨(World.cell?_of_block (w:=w) (a:=⟨k,o,none⟩) (setRow_other w g k _ hne)).trans c1,c2⟩)
         exact⟨_,_,by rw[h2];exact hrun,fun m hm=>by simp[Env.drop,hm],hw.2⟩
       · cases he
     · cases he
   · cases he
 · cases he
end
theorem eI.flat {n} {rows} (h:eI n rows):rows.flatten.length=rows.length*n:=by
 induction rows with
 |nil=>simp
 |cons r l ih=>
  have h1:=h r (by simp);have h2:=ih (fun r hr=>h r (by simp[hr]));grind
theorem eI.app {n} {a b} (ha:eI n a) (hb:eI n b):eI n (a++b):=fun r hr=>by
 rcases im.1 hr with h|h
 · exact ha r h
 · exact hb r h
theorem eI.take {n} {a} (ha:eI n a) (k):eI n (a.take k):=fun r hr=>ha r (mf hr)
theorem Rows.src {M} {w} {rows} {v} {n} (h:Rows M w rows v) (hR:eI n rows):
   (rows=[]∧∃A cap,v= .slice A 0 cap)∨∃(g o cap:Nat) (news:List bh),v= .slice (some ⟨g,o,none⟩) rows.length cap∧0<rows.length∧news.length=rows.length*n∧
     (∀(k) (u),news[k]? =some u→w.cell? ((⟨g,o,none⟩:Addr).add k)=some u)∧(∀u∈news,u.oneCell'=true)∧
     ∀(i) (r) (j) (p),rows[i]? =some r→r[j]? =some p→∃u,news[i*n+j]? =some u∧RP M w p u:=by
 rcases h with h| ⟨g,o,cap,sz,f,rfl,h0,hl,hm,hs,hc⟩
 · exact .inl h
 · right;have hsz:sz=n:=by
     cases rows with
     |nil=>simp_all
     |cons r l=>rw[←hs r (by simp)];exact hR r (by simp)
   subst hsz;have hex:∀k,k<rows.length*sz→∃u,w.cell? ⟨g,o+k,none⟩=some u∧u.oneCell'=true:=by
     intro k hk;have dh:0<sz:=by grind
     have hi:k/sz<rows.length:=by rw[Nat.div_lt_iff_lt_mul dh];exact hk
     have hj:k%sz< (rows[k/sz]).length:=by rw[hs _ (b8 hi)];exact Nat.mod_lt _ dh
     obtain⟨h1,h2⟩:=hc (k/sz) _ (k%sz) _ (bW hi) (bW hj);refine⟨_,?_,h2.ux⟩;rw[←h1,CQ,Pn,Nat.div_add_mod]
   refine⟨g,o,cap,(List.range (rows.length*sz)).map fun k=> (w.cell? ⟨g,o+k,none⟩).getD undef,rfl,List.length_pos_iff.2 h0,by simp,?_,?_,?_⟩
   · intro k u hu;simp only[bV,aT]at hu;obtain⟨k',bZ,rfl⟩:=hu;obtain⟨fZ,hk2⟩:=dr.1 bZ;simp at fZ hk2;subst hk2;obtain⟨u,h1,_⟩:=hex _ fZ;rw[nV,h1];rfl
   · grind
   · intro i r j p hi hj;obtain⟨h1,h2⟩:=hc i r j p hi hj;have hlt:i*sz+j<rows.length*sz:=by
      have h3:=(dr.1 hi).1;have h4:=(dr.1 hj).1;rw[hs r (dn hi)]at h4;have:(i+1)*sz≤rows.length*sz:=fy _ h3;grind
     grind
section
variable {X:Fx} {E:Env} {st:av} {a:Act} {w:a7}
theorem Qq {P} (w) (t ty e) (i) (ht:P.underlying t=some (.slice e)) (hi:P.info? e=some i)
  (g d_ sCap) (cur) {fz} (bX:mI cur.size fz) (hg:w.heap[g]? =some (.cells cur e fz))
  (a) (m c) (news) (hl:news.length=m*i.size) (hnews:∀j u,news[j]? =some u→w.cell? (a.add j)=some u) (h1:∀u∈news,u.oneCell'=true)
  (hroom:d_+m≤sCap) (gS:d_*i.size+news.length≤cur.size):
  (Builtin.append_ #[t,t] ty #[.slice (some ⟨g,0,none⟩) d_ sCap,.slice (some a) m c]).run P w=
   .ok (.slice (some ⟨g,0,none⟩) (d_+m) sCap) (w.setRow g (cur.toList.take (d_*i.size)++news++cur.toList.drop (d_*i.size+news.length)).toArray):=by
 have hf:=run_firstCells_some (P:=P) w i.size m a m c news hl hnews;have hst:=B2 P g (d_*i.size) e fz news 0 cur w bX hg (by simpa using gS) h1;simp[Builtin.append_,run_underlying ht,sizeOf,typeInfo,hi,Builtin.lenOf,hroom,hf,Addr.add_lit,hst]
theorem Rel.uY (h:Rel X E st a w) {d} (hd:E.N d=none) (fv:X.k0≤d) (ec:d<st.next) {e} {n} (dh:0<n) (hne:n=X.P.cellsOf e)
  {rows} (hR:eI n rows) {cap} (jB:rows.length≤cap) (hm:cap≤maxLen) {us} (fi:us.size=cap*n)
  (hc:∀(i) (r) (j) (p),rows[i]? =some r→r[j]? =some p→∃u,us[i*n+j]? =some u∧RP (bad X.M E) w p u) {wd} (hwd:wd=w∨wd=w.drew):
  let E':=E.add d ⟨some w.heap.size,rows.length,cap,n⟩
  Rel X E' (st.df ⟨[(d,.row e rows)],[]⟩) a (wd.alloc (.cells us e))∧RV X.M E' (wd.alloc (.cells us e)) (.c (.own d)) (.slice (some ⟨w.heap.size,0,none⟩) rows.length cap):=by
 intro E';have hb:Below w.heap.size w (wd.alloc (.cells us e)):=by
  rcases hwd with rfl|rfl
  · exact(Below.refl _ _).alloc (cn _) _
  · exact((Below.refl _ w).drew).alloc (cn _) _
 have hsz:wd.heap.size=w.heap.size:=by rcases hwd with rfl|rfl<;>rfl
 have hg:(wd.alloc (.cells us e)).heap[w.heap.size]? =some (.cells us e (0,0)):=by rw[←hsz];exact heap_alloc_new wd _
 have:=h.fresh (w':=wd.alloc (.cells us e)) d hd fv ec hb (x:=⟨some w.heap.size,rows.length,cap,n⟩) (.inr ⟨rfl,by simp[hsz]⟩) (.row e rows) (fun hG=>
  ⟨⟨some w.heap.size,rows.length,cap,n⟩,us,(0,0),by simp[Env.add],.inl rfl,fun g hg'=>by simp_all,rfl,jB,hm,dh,hne,fi,hR,fun h=> (by cases h),fun i r j p hi hj=>let⟨u,h1,h2⟩:=hc i r j p hi hj; ⟨u,h1,h2.goes hG⟩⟩)
 exact⟨this.2,.inr ⟨⟨some w.heap.size,rows.length,cap,n⟩,by simp[E',Env.add],rfl⟩⟩
theorem Rel.ayq (h:Rel X E st a w) {d} (hd:E.N d=none) (fv:X.k0≤d) (ec:d<st.next) (e) {n} (dh:0<n) (hne:n=X.P.cellsOf e):
  let E':=E.add d ⟨none,0,0,n⟩
  Rel X E' (st.df ⟨[(d,.row e [])],[]⟩) a w∧RV X.M E' w (.c (.own d)) (.slice none 0 0):=by
 intro E';have:=h.fresh (w':=w) d hd fv ec (Below.refl _ _) (x:=⟨none,0,0,n⟩) (.inl rfl) (.row e []) (fun _=>
  ⟨⟨none,0,0,n⟩,#[],(0,0),by simp[Env.add],.inl rfl,fun g hg'=> (by cases hg'),rfl,cn _,by simp[maxLen],dh,hne,by simp,fun r hr=>by simp at hr,fun _=>rfl,fun i r j p hi=>by simp at hi⟩)
 exact⟨this.2,.inr ⟨⟨none,0,0,n⟩,by simp[E',Env.add],rfl⟩⟩
theorem Rel.take (h:Rel X E st a w) {m d} (hm:m<st.next) {x} (hN:E.N m=some x) {g} (ig:x.g=some g) {cur us} {e} {fz} (hg:w.heap[g]? =some (.cells cur e fz)) (bX:mI us.size fz)
   (hd:E.N d=none) (fv:X.k0≤d) (ec:d<st.next) (vJ:d∉st.ar) {rows} (hR:eI x.sz rows) (dh:0<x.sz) (hne:x.sz=X.P.cellsOf e) (jB:rows.length≤x.cap) (lA:x.cap≤maxLen) (fi:us.size=x.cap*x.sz)
   (hc:∀(i) (r) (j) (p),rows[i]? =some r→r[j]? =some p→∃u,us[i*x.sz+j]? =some u∧RP (bad X.M E) w p u):
   let E':=(E.drop [m]).add d ⟨some g,rows.length,x.cap,x.sz⟩
   Rel X E' (st.df ⟨[(d,.row e rows)],[m]⟩) a (w.setRow g us)∧RV X.M E' (w.setRow g us) (.c (.own d)) (.slice (some ⟨g,0,none⟩) rows.length x.cap):=by
 intro E';have nZ:∀k,k≠g→(w.setRow g us).heap[k]? =w.heap[k]?:=fun k hk=>setRow_other w g k _ hk
 have hsz:(w.setRow g us).heap.size=w.heap.size:=by simp_all
 obtain⟨hx1,hx2,hx3⟩:=h.names m x g hN ig;have Cm:∀n y,E'.N n=some y→(n=d∧y=⟨some g,rows.length,x.cap,x.sz⟩)∨(n≠d∧n≠m∧E.N n=some y):=by
   intro n y hy;simp only[E',Env.add]at hy;split at hy
   · simp_all
   · obtain⟨h1,h2⟩:=mW hy;simp_all
 have iI:∀k,bad X.M E' k→bad X.M E k:=by
   rintro k (h1| ⟨n,y,h1,h2⟩)
   · exact .inl h1
   · rcases Cm n y h1 with⟨_,rfl⟩| ⟨_,_,h3⟩
     · exact .inr ⟨m,x,hN,ig.trans h2⟩
     · exact .inr ⟨n,y,h3,h2⟩
 have hG:gx X.M E E' w (w.setRow g us):={
   cell:=fun k o u k1 k2=>by
     have:k≠g:=by rintro rfl;exact k2 (.inr ⟨m,x,hN,ig⟩)
     exact⟨(World.cell?_of_block (w:=w) (a:=⟨k,o,none⟩) (nZ k this)).trans k1,fun h=>k2 (iI k h)⟩
   name:=fun n y hy=>by
     by_cases hn:n=m
     · subst hn;exact .inl (by simp[E',Env.add,Env.drop])
     · have:n≠d:=by grind
       simp[E',Env.add,Env.drop,this,hn,hy]
   ar:=fun n hn=>by simp[E',Env.add,Env.drop,hn]}
 refine⟨h.step ⟨[(d,.row e rows)],[m]⟩ (nx:=st.next) (cn _) hG (by simp[E',Env.add,Env.drop,h.ar]) ?_ ?_ ?_ ?_ ?_ (by simpa using hm) ?_ ?_,.inr ⟨⟨some g,rows.length,x.cap,x.sz⟩,by simp[E',Env.add],rfl⟩⟩
 · refine h.frame.trans (K':=fun k=>k=g) ⟨rfl,rfl,rfl,om,fun k _ hk=>nZ k hk⟩ ?_;grind
 · intro n y hy;rcases Cm n y hy with⟨rfl,_⟩| ⟨_,_,h3⟩
   · exact ec
   · exact h.cO n y h3
 · intro n y k hy hk;rw[hsz];rcases Cm n y hy with⟨rfl,rfl⟩| ⟨_,_,h3⟩
   · simp_all
   · exact h.names n y k h3 hk
 · intro n k y z b hy hz hb1 hb2;rcases Cm n y hy with⟨rfl,rfl⟩| ⟨h1,h2,h3⟩<;>rcases Cm k z hz with⟨rfl,rfl⟩| ⟨k1,k2,k3⟩
   · rfl
   · cases hb1;exact absurd (h.inj k m z x g k3 hN hb2 ig) k2
   · cases hb2;exact absurd (h.inj n m y x g h3 hN hb1 ig) h2
   · exact h.inj n k y z b h3 k3 hb1 hb2
 · intro n hn;simp only[E',Env.add,Env.drop];grind
 · intro n y k hy hk ew _;refine nZ k fun he=> ?_
   subst he;have:=h.inj n m y x k hy hN hk ig;subst this;exact ew (by simp[E',Env.add,Env.drop])
 · intro n b hl;simp only[gW,oq]at hl;split at hl
   · rename_i heq;simp at heq;subst heq;cases hl;refine .inr ⟨⟨some g,rows.length,x.cap,x.sz⟩,us,fz,by simp[E',Env.add],bX,fun k hk=>by cases hk;exact setRow_heap w g cur us e _ hg,rfl,jB,lA,dh,hne,fi,hR,fun h=> (by cases h),fun i r j p hi hj=> ?_⟩;obtain⟨u,h1,h2⟩:=hc i r j p hi hj;exact⟨u,h1,h2.goes hG⟩
   · cases hl
def jP (P:bB) (e:a6):Option (Nat×Nat):=match P.info? e with
 |some i=>match i.zero with
  |some z=>if z.cells.size=i.size∧0<i.size then some (i.size,i.bytes)else none
  |none=>none
 |none=>none
theorem wQ {P} {e} {n b} (h:jP P e=some (n,b)):∃i z,P.info? e=some i∧i.zero=some z∧z.cells.size=n∧0<n∧i.size=n∧i.bytes=b∧P.cellsOf e=n:=by
 unfold jP at h;split at h
 · rename_i i hi;split at h
   · rename_i z hz;split at h
     · rename_i hs;obtain⟨rfl,rfl⟩:=h;exact⟨i,z,hi,hz,hs.1,hs.2,rfl,rfl,by simp[Program.cellsOf,hi]⟩
     · cases h
   · cases h
 · cases h
def av.gw (st:av) (e:a6):C→Option (List (List PV)×List Nat)
 | .nil=>some ([],[])
 | .own m=>match st.heap.lookup m with
  |some (.row e' rows)=>if e'=e then some (rows,[m])else none
  |_=>none
 | .sub m 0 len=>match st.heap.lookup m with
  |some (.row e' rows)=>if e'=e then some (rows.take len,[m])else none
  |_=>none
 |_=>none
def bu (n:Nat) (rows:List (List PV)):Bool:=rows.all (·.length==n)
theorem pa {n} {rows}:bu n rows=true ↔ eI n rows:=by simp[bu,eI]
noncomputable def rZ (P:bB) (st:av) (d:Nat) (t:a6) (s x:bD):Option (V×g_):=
 match eO P t with
 | some e=>match jP P e,st.arg s,st.arg x with
  |some (n,b),some (.v (.c s)),some (.v (.c x))=>match st.gw e s,st.view x with
   |some (rows,ms),some bF=>if rows.length+bF.length≤9223372036854775807∧(rows.length+bF.length)*b≤140737488355328∧bu n rows=true∧bu n bF=true then some (.c (.own d),⟨[(d,.row e (rows++bF))],ms⟩)else none
   |_,_=>none
  |_,_,_=>none
 |none=>none
theorem DC {α:Type} {l:List α} {n k} {u} (h:(l.take n)[k]? =some u):l[k]? =some u∧k<n:=by
 grind
theorem Env.kX {E:Env} {d n} {x} (h:n≠d):(E.add d x).N n=E.N n:=by simp[Env.add,h]
theorem Env.kB {E:Env} {ns} {n} (h:E.N n=none):(E.drop ns).N n=none:=by simp[Env.drop,h]
theorem ajx (h:Rel X E st a w) {d} (hd:E.N d=none) (fv:X.k0≤d) (ec:d<st.next) (vJ:d∉st.ar) {t ty} {s x} {v} {ef}
   (he:rZ X.P st d t s x=some (v,ef)):
   ∃u w' E',(Builtin.append_ #[t,t] ty #[a.eval s,a.eval x]).run X.P w= .ok u w'∧(∀n,n≠d→E.N n=none→E'.N n=none)∧Rel X E' (st.df ef) a w'∧RV X.M E' w' v u:=by
 unfold rZ at he;split at he
 · rename_i e ht;obtain⟨hu,kP⟩:=pq ht;split at he
   · rename_i n b cs cx fw hs hx;obtain⟨i,z,hi,hz,hzs,dh,c_,hib,f_⟩:=wQ fw;split at he
     · rename_i rows ms bF dY hpv;split at he
       · rename_i hb;obtain⟨Hg,hby,iJ,ke⟩:=hb;rw[pa]at iJ ke;have hlen:rows.length+bF.length≤maxLen:=by simp only[maxLen];omega
         cases he;obtain⟨hxc,_,hxn⟩:=h.bR hx;have hxr:=h.view hxc hxn hpv;obtain⟨hsc,_,ma⟩:=h.bR hs;have hmx:(rows.length+bF.length:Nat)≤9223372036854775807:=Hg;have hst:∀ns,h_ (bad X.M E) (bad X.M (E.drop ns)) w w:=fun ns k o u h1 h2=> ⟨h1,fun h=>h2 (sH h)⟩
         have hnil:a.eval s= .slice none 0 0→rows=[]→(∀m∈ms,m<st.next)→
            ∃u w' E',(Builtin.append_ #[t,t] ty #[a.eval s,a.eval x]).run X.P w= .ok u w'∧(∀n,n≠d→E.N n=none→E'.N n=none)∧Rel X E' (st.df ⟨[(d,.row e (rows++bF))],ms⟩) a w'∧RV X.M E' w' (.c (.own d)) u:=by
          intro hA h0 qN;subst h0;rw[hA];have hD:=h.drop ms qN;have pC:(E.drop ms).N d=none:=Env.kB hd;have aab:∀b,(st.df ⟨[],ms⟩).df ⟨[(d,b)],[]⟩=st.df ⟨[(d,b)],ms⟩:=fun b=>by simp[av.df]
          rcases hxr.src ke with⟨rfl,B,cap,gb⟩| ⟨g,o,cap,news,gb,hne,gC,hcell,lz,hval⟩
          · have hf:=hD.ayq pC fv ec e dh f_.symm;refine⟨_,w,_,?_,fun k hk jC=>by grind[Env.kX,Env.kB],hf.1,hf.2⟩;rw[gb];cases B<;>simp[Builtin.append_,run_underlying hu,sizeOf,typeInfo,hi,Builtin.lenOf,Builtin.firstCells,loadCells,loadCellsFrom]
          · rw [gb];have qO:=grownCap_ge w bF.length 0 e;have qP:=grownCap_le_maxLen w bF.length 0 e (by simpa using hlen);have hrun:=run_append_nil (P:=X.P) w t ty e i z hu hi hz ⟨g,o,none⟩ bF.length cap news (by simp_all) hcell hne om (by grind);have hf:=hD.uY pC fv ec (e:=e) dh f_.symm ke qO qP (us:=news.toArray++Builtin.zeroCells z.cells (grownCap w bF.length 0 e-bF.length))
              (by simp only[CS,rC,size_zeroCells,hzs,gC,←kl];congr 1;omega)
              (fun i r j p k1 k2=>by
                obtain⟨u,k3,k4⟩:=hval i r j p k1 k2;have hk:=(dr.1 k3).1;exact⟨u,by grind,k4.trans (hst ms)⟩) (wd:=w.drew) (.inr rfl)
            grind[Env.kX,Env.kB]
         have hrow:∀(m:Nat) (y:Nm) (g:Nat) (cur:Array bh) (fz:Nat×Nat),mI cur.size fz→m∉st.ar→E.N m=some y→y.g=some g→w.heap[g]? =some (.cells cur e fz)→y.sz=n→y.cap≤maxLen→cur.size=y.cap*n→rows.length≤y.cap→
            (∀(i:Nat) (r:List PV) (j:Nat) (p:PV),rows[i]? =some r→r[j]? =some p→∃u,cur[i*n+j]? =some u∧RP (bad X.M E) w p u)→a.eval s= .slice (some ⟨g,0,none⟩) rows.length y.cap→ms=[m]→
            ∃u w' E',(Builtin.append_ #[t,t] ty #[a.eval s,a.eval x]).run X.P w= .ok u w'∧(∀n,n≠d→E.N n=none→E'.N n=none)∧Rel X E' (st.df ⟨[(d,.row e (rows++bF))],ms⟩) a w'∧RV X.M E' w' (.c (.own d)) u:=by
          intro m y g0 cur fz bX jD hN yS hg0 qQ Hh yU jE vK eM qN;subst qN;have yV:=h.cO m y hN;rw[eM];have hmul:rows.length*n≤cur.size:=by rw[yU];exact fy _ jE
          have kf:(cur.toList.take (rows.length*n)).length=rows.length*n:=by simp;omega
          rcases hxr.src ke with⟨rfl,B,cap,gb⟩| ⟨g,o,cap,news,gb,hne,gC,hcell,lz,hval⟩
          · have pD:w.setRow g0 cur=w:=setRow_self w g0 cur e fz hg0;have hk:=h.take (d:=d) yV hN yS hg0 (us:=cur) bX hd fv ec vJ (rows:=rows) (by simp_all) om (by rw[qQ,f_]) jE Hh (by simp_all) (by simp_all);simp only[pD]at hk;refine⟨.slice (some ⟨g0,0,none⟩) rows.length y.cap,w,_,?_,fun k hk jC=>by grind[Env.kX,Env.kB],by simp_all,hk.2⟩;rw[gb]
            cases B with
            |none=>simp[Builtin.append_,run_underlying hu,sizeOf,typeInfo,hi,Builtin.lenOf,Builtin.firstCells,jE,storeCells]
            |some B=>simp[Builtin.append_,run_underlying hu,sizeOf,typeInfo,hi,Builtin.lenOf,Builtin.firstCells,loadCells,loadCellsFrom,jE,storeCells]
          · rw [gb];have qR:∀(us:Array bh),(∀k,k<rows.length*n+news.length→us[k]? =(cur.toList.take (rows.length*n)++news)[k]?)→∀(i:Nat) (r:List PV) (j:Nat) (p:PV),(rows++bF)[i]? =some r→r[j]? =some p→∃u,us[i*n+j]? =some u∧RP (bad X.M E) w p u:=by
              intro us fi i r j p k1 k2;have hrn:r.length=n:=(iJ.app ke) r (dn k1);have hj:=(dr.1 k2).1;rw[mg]at k1;split at k1
              · rename_i hlt;obtain⟨u,k3,k4⟩:=vK i r j p k1 k2;have:(i+1)*n≤rows.length*n:=fy _ hlt;grind
              · obtain⟨u,k3,k4⟩:=hval _ r j p k1 k2;have hk:=(dr.1 k3).1;have e1:i*n=rows.length*n+(i-rows.length)*n:=by rw[←kl];congr 1;omega
                refine⟨u,?_,k4⟩;rw[fi _ om,mg,aC om,kf,←k3];congr 1;omega
            by_cases hroom:rows.length+bF.length≤y.cap
            · have gS:rows.length*n+news.length≤cur.size:=by rw[gC,yU,←kl];exact fy _ hroom
              have hr:=Qq (P:=X.P) w t ty e i hu hi g0 rows.length y.cap cur bX hg0 ⟨g,o,none⟩ bF.length cap news (by simp_all) hcell lz hroom (by simp_all);rw[c_]at hr;have hk:=h.take (d:=d) yV hN yS hg0 (us:=(cur.toList.take (rows.length*n)++news++cur.toList.drop (rows.length*n+news.length)).toArray) (by grind) hd fv ec vJ (rows:=rows++bF) (by rw[qQ];exact iJ.app ke) om (by rw[qQ,f_]) (by simpa using hroom) Hh
                (by grind) (by
                 rw[qQ];refine qR _ fun k hk=> ?_
                 grind)
              grind[Env.kX,Env.kB]
            · have holds:∀j v,(cur.toList.take (rows.length*n))[j]? =some v→w.cell? ((⟨g0,0,none⟩:Addr).add j)=some v:=fun j u hj=>by
                rw[nV,cell_of_row w g0 _ cur e fz hg0];grind
              have hr:=run_append_grow (P:=X.P) w t ty e i z hu hi hz ⟨g0,0,none⟩ rows.length y.cap (cur.toList.take (rows.length*n)) (by simp_all) holds ⟨g,o,none⟩ bF.length cap news (by simp_all) hcell om om
                (by rw[hib];exact growslice_fits om hby)
              have qO:=grownCap_ge w (rows.length+bF.length) y.cap e;have qP:=grownCap_le_maxLen w (rows.length+bF.length) y.cap e hlen;have jF:∀k,k<rows.length*n+news.length→((cur.toList.take (rows.length*n)).toArray++news.toArray++Builtin.zeroCells z.cells (grownCap w (rows.length+bF.length) y.cap e- (rows.length+bF.length)))[k]? =(cur.toList.take (rows.length*n)++news)[k]?:=by
                grind
              have hD:=h.drop [m] (by simpa using yV);have pC:(E.drop [m]).N d=none:=Env.kB hd;have hf:=hD.uY pC fv ec (e:=e) dh f_.symm (rows:=rows++bF) (iJ.app ke) (cap:=grownCap w (rows.length+bF.length) y.cap e) (by simpa using qO) qP
                (us:=(cur.toList.take (rows.length*n)).toArray++news.toArray++Builtin.zeroCells z.cells (grownCap w (rows.length+bF.length) y.cap e- (rows.length+bF.length)))
                (by simp only[CS,rC,size_zeroCells,hzs,gC,kf,←kl];congr 1;omega)
                (fun i r j p k1 k2=>by
                 obtain⟨u,k3,k4⟩:=qR _ jF i r j p k1 k2;exact⟨u,k3,k4.trans (hst [m])⟩) (wd:=w.drew) (.inr rfl)
              simp only[bE]at hf;exact⟨_,_,_,hr,fun k hk jC=>by grind[Env.kX,Env.kB],hf.1,hf.2⟩
         cases cs with
         |nil=>
          obtain⟨rfl,rfl⟩:=dY;exact hnil hsc rfl (by simp)
         |own m=>
          simp only[av.gw]at dY;have jD:=ma m (by simp[C.names]);split at dY
          · rename_i e' yW hl;split at dY
            · rename_i gE;subst gE;cases dY;obtain⟨y,cur,fz,h1,bX,h2,h3,h4,h5,h6,h11,h7,h8,h10,h9⟩:=h.row jD hl;obtain⟨y',k1,k2⟩:=bO.get hsc (by rw[h.ar];exact jD);rw[h1]at k1;cases k1;have qS:y.sz=n:=by rw[h11,f_]
              cases hg:y.g with
              | none=>
                have hc0:=h10 hg;have hl0:y.len=0:=om;rw[hg,hl0,hc0]at k2;exact hnil (by simpa using k2) (ni om) (by simpa using h.cO m y h1)
              | some g=>
                grind
            · cases dY
          · cases dY
         |sub m lo len=>
          cases lo with
          |succ lo=>simp[av.gw]at dY
          |zero=>
          simp only[av.gw]at dY;have jD:=ma m (by simp[C.names]);split at dY
          · rename_i e' yW hl;split at dY
            · rename_i gE;subst gE;cases dY;obtain⟨y,cur,fz,h1,bX,h2,h3,h4,h5,h6,h11,h7,h8,h10,h9⟩:=h.row jD hl;obtain⟨y',k1,k2,A,k3,k4⟩:=bO.get hsc (by rw[h.ar];exact jD);rw[h1]at k1;cases k1;have qS:y.sz=n:=by rw[h11,f_]
              have hA:=k4 (.inr rfl);have yX:(yW.take len).length=len:=by simp;omega
              cases hg:y.g with
              | none=>
                have hc0:=h10 hg;have hl0:len=0:=om;rw[hA,hg,hl0,hc0]at k3;exact hnil (by simpa using k3) (by rw[hl0];simp) (by simpa using h.cO m y h1)
              | some g=>
                grind
            · cases dY
          · cases dY
         |_=>simp[av.gw]at dY
       · cases he
     · cases he
   · cases he
 · cases he
end
end
end
end Go.Proofs.YtndegphojkiblaaGreatDoor
