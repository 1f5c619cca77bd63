/- Towards the last file's theorem: part 6. -/
import Derived.Test.YtndegphojkiblaaGreatDoorG5
import Derived.LoopN
import Derived.Scope
set_option linter.all false
set_option maxHeartbeats 4000000
set_option maxRecDepth 100000
namespace Go.Proofs.YtndegphojkiblaaGreatDoor
noncomputable section
section
open Go.RowKit
open Classical
def C.clear (g:List Nat) (c:C):C:=if c.names.any (g.contains ·)then .dead else c
def ak.settle (st:ak):ak:=match st.ao with
 |[]=>st
 |g=> ⟨st.tmps.map (V.on (C.clear g)),(st.heap.filter fun x=> !g.contains x.1).map fun x=> (x.1,x.2.on (C.clear g)),[],st.next⟩
def Env.settle (E:Env):Env:=⟨fun n=>if n∈E.ao then none else E.N n,[]⟩
theorem UB {M:bY} {E:Env} {g:Nat} (h:bad M E.settle g):bad M E g:=by
 rcases h with h| ⟨n,x,h1,h2⟩
 · exact .inl h
 · simp only[Env.settle]at h1;split at h1
   · cases h1
   · exact .inr ⟨n,x,h1,h2⟩
theorem RC.clear {M:bY} {E:Env} {w:av} {c:C} {v:aD} (h:RC M E w c v):RC M E.settle w (c.clear E.ao) v:=by
 unfold C.clear;split
 · trivial
 · rename_i hn;have cZ:∀n∈c.names,n∉E.ao:=fun n h1 h2=>hn (Dh.2 ⟨n,h1,by simpa using h2⟩)
   have hs:iB (bad M E) (bad M E.settle) w w:=fun g o u h1 h2=> ⟨h1,fun h=>h2 (UB h)⟩
   have:RC M E.settle w (c.cX id) v:=RC.cX (.inl hs) (fun n h1=> ⟨cZ n h1,fun x hx=>by simp only[Env.settle,id,aE (cZ n h1)];exact hx⟩) h;have e:c.cX id=c:=by cases c<;>simp[C.cX]
   simp_all
theorem aup {l:Hp} {p:Nat→Bool} {n:Nat}:List.lookup n (l.filter fun x=>p x.1)=if p n then List.lookup n l else none:=by
 induction l with
 |nil=>simp
 |cons x l ih=>
  obtain⟨k,b⟩:=x;simp only[List.filter_cons,eR];by_cases hk:p k=true
  · rw[au hk,eR];by_cases hn:n=k
    · subst hn;simp[hk]
    · rw[beq_eq_false_iff_ne.2 hn];exact ih
  · rw[aE hk];by_cases hn:n=k
    · subst hn;rw[ih,aE hk,aE hk]
    · rw[beq_eq_false_iff_ne.2 hn];exact ih
theorem apt {l:Hp} {f:cO→cO} {n:Nat}:List.lookup n (l.map fun x=> (x.1,f x.2))=(List.lookup n l).map f:=by
 induction l with
 |nil=>simp
 |cons x l ih=>
  obtain⟨k,b⟩:=x;simp only[bC,eR];split
  · rfl
  · exact ih
theorem Rel.settle {X:Fx} {E:Env} {st:ak} {a:Act} {w:av} (h:Rel X E st a w):∃E',Rel X E' st.settle a w∧st.settle.ao=[]:=by
 cases hg:st.ao with
 |nil=>exact⟨E,by simp only[ak.settle,hg];exact h,by simp[ak.settle,hg]⟩
 | cons t U=>
  have hs:st.settle=⟨st.tmps.map (V.on (C.clear E.ao)),(st.heap.filter fun x=> !E.ao.contains x.1).map fun x=> (x.1,x.2.on (C.clear E.ao)),[],st.next⟩:=by simp only[ak.settle,hg,h.ao]
  have hN:∀n x,E.settle.N n=some x→n∉E.ao∧E.N n=some x:=fun n x hx=>by
   simp only[Env.settle]at hx;simp_all
  have hst:iB (bad X.M E) (bad X.M E.settle) w w:=fun g o u h1 h2=> ⟨h1,fun h=>h2 (UB h)⟩
  refine⟨E.settle,?_,by rw[hs]⟩;rw[hs];exact{
   defers:=h.defers
   ao:=rfl
   frame:=h.frame
   mlt:=h.mlt
   cR:=fun n x hx=>h.cR n x (hN n x hx).2
   names:=fun n x g hx hg=>h.names n x g (hN n x hx).2 hg
   inj:=fun n m x y g hx hy=>h.inj n m x y g (hN n x hx).2 (hN m y hy).2
   dw:=fun m hm=>by
    simp only[Env.settle];split
    · exact .inl rfl
    · exact h.dw m hm
   fh:=h.fh
   fe:=fun n hn=>by cases hn
   size:=by simp[h.size]
   tmps:=fun i v hi=>by
    simp only[bO,aW]at hi;obtain⟨v',hv,rfl⟩:=hi;obtain⟨u,h1,h2⟩:=h.tmps i v' hv;exact⟨u,h1,RV.on (fun c v hc=>RC.clear hc) h2⟩
   heap:=fun n b hl=>by
    simp only[apt]at hl;rw[aup (p:=fun k=> !E.ao.contains k)]at hl;split at hl
    · rename_i hn;simp only[aW]at hl;obtain⟨b',hb',rfl⟩:=hl;have cZ:n∉E.ao:=by simpa using hn
      have hr:=h.row (by rw[←h.ao];exact cZ) hb';have mI:∀x,E.N n=some x→E.settle.N n=some x:=fun x hx=>by simp only[Env.settle,aE cZ];exact hx
      right
      cases b' with
      |box cs=>
       obtain⟨x,g,cur,e,h1,h0,h2,h3,h4⟩:=hr;refine⟨x,g,cur,e,mI x h1,h0,h2,by simp[h3],fun i c hi=> ?_⟩;simp only[bO,aW]at hi;obtain⟨c',hc',rfl⟩:=hi;obtain⟨u,h5,h6,h7⟩:=h4 i c' hc';exact⟨u,h5,RC.clear h6,h7⟩
      |row e rows=>
       obtain⟨x,cur,fz,h1,ca,h2,h3,h4,h5,h6,h11,h7,h8,h10,h9⟩:=hr;exact⟨x,cur,fz,mI x h1,ca,h2,h3,h4,h5,h6,h11,h7,h8,h10,fun i r j p hi hj=>let⟨u,k1,k2⟩:=h9 i r j p hi hj; ⟨u,k1,k2.trans hst⟩⟩
      |map es=>
       obtain⟨x,g,en,clock,h1,h0,h2,h3⟩:=hr;exact⟨x,g,en,clock,mI x h1,h0,h2,h3⟩
    · cases hl}
def ak.bump (st:ak) (k:Nat):ak:={st with next:=st.next+8*k}
theorem Rel.bump {X:Fx} {E:Env} {st:ak} {a:Act} {w:av} (h:Rel X E st a w) (k:Nat):Rel X E (st.bump k) a w:=
 {h with cR:=fun n x hx=>nP (h.cR n x hx) (aiE _ _),fh:=uf h.fh (aiE _ _),fe:=fun n hn=>nP (h.fe n hn) (aiE _ _),size:=h.size,tmps:=h.tmps,heap:=h.heap,defers:=h.defers,ao:=h.ao}
theorem Rel.free {X:Fx} {E:Env} {st:ak} {a:Act} {w:av} (h:Rel X E st a w) (hg:st.ao=[]) {k j:Nat} (hj:j<k):qj X E (st.bump k) (st.next+8*j):=fun n h1 h2=>by
 refine⟨?_,?_,?_,?_⟩
 · cases hn:E.N n with
   |none=>rfl
   |some x=>have:=h.cR n x hn;omega
 · show n∉st.ao;rw[hg];simp
 · show n<st.next+8*k;omega
 · have:=h.fh;omega
noncomputable def j_ (P:aQ) (Sp:Spec) (b:Nat) (ops:Array Oper):List Oper→Nat→ak→Option (List (Option bc)×gW×ak)
 |[],_,st=>some ([],[],st)
 | o::l,k,st=>match kQ P Sp b ops st k o with
  |some r=>match j_ P Sp b ops l (k+1) (gv st o r)with
   |some (rs,ts,st')=>some (r::rs,(vf st o r,h_ r)::ts,st')
   |none=>none
  |none=>none
def nj (b:Nat):Nat→gW→Bool
 |_,[]=>true
 |k,(_,m)::ts=>m.all (fun n=>decide (n<b+8*k+8))&&nj b (k+1) ts
theorem adf {X:Fx} {Sp:Spec} {b:Nat} {ops:Array Oper} {Q:Exit→Act→av→Prop}:∀(l:List Oper) (k:Nat) {E:Env} {st st':ak} {rs:List (Option bc)} {ts:gW} {a:Act} {w:av},
  (∀j,l[j]? =ops[k+j]?)→Rel X E st a w→(∀j,k≤j→j<ops.size→qj X E st (b+8*j))→j_ X.P Sp b ops l k st=some (rs,ts,st')→nj b k ts=true→
  (∀a' w' E',Rel X E' st' a' w'→Q .normal a' w')→wpOps X.P ops Q (List.range' k l.length) a w
 |[],k,E,st,st',rs,ts,a,w,_,h,_,he,_,hq=>by
  cases he;exact hq a w E h
 | o :: l,k,E,st,st',rs,ts,a,w,hl,h,hF,he,wg,hq=>by
  have h0:ops[k]? =some o:=by simpa using(hl 0).symm
  have hk:k<ops.size:=(dY.1 h0).1;simp only[j_]at he;split at he
  · rename_i r hr;split at he
    · rename_i rs1 ts1 lI CK;cases he;simp only[nj,bt,bk,cg]at wg;simp only[km,List.range'_succ,wpOps,h0];have:=I7 h (hF k (cT _) hk) (ops:=ops) hr (next:=wpOps X.P ops Q (List.range' (k+1) l.length)) (Q:=Q) (fun v w' E' k1 k2=>by
        refine adf l (k+1) (fun j=>by have:=hl (j+1);simpa[rQ,IP 1 j]using this) k2 ?_ CK wg.2 hq;intro j hj RH n h1 h2;obtain⟨f1,f2,f3,f4⟩:=hF j om RH n h1 h2;refine⟨k1 n om f1,?_,by rw[DQ];exact f3,f4⟩;rw[xW];rintro(h3|h3)
        · have:=wg.1 n (rR _ h3);omega
        · exact f2 h3)
      split
      · rename_i hw;rw[au hw]at this;exact .inl this
      · rename_i hw;rw[aE hw]at this;exact this
    · cases he
  · cases he
def bM (p:Nat→Bool):Nat→Nat
 |0=>0
 |n+1=>bM p n+if p n then 1 else 0
theorem adP {p q:Nat→Bool}:∀{n:Nat},(∀k,k<n→p k=q k)→bM p n=bM q n
 |0,_=>rfl
 |n+1,h=>by simp only[bM,adP (n:=n) (fun k hk=>h k om),h n om]
theorem V_ {p q:Nat→Bool} {i:Nat} (hi:p i=true) (hi':q i=false) (h:∀k,k≠i→q k=p k):∀{n:Nat},i<n→bM q n+1=bM p n
 |0,hn=>om
 |n+1,hn=>by
  by_cases bW:i=n
  · subst bW;simp only[bM,hi,hi',if_true,lP,if_false,adP (n:=i) (p:=q) (q:=p) (fun k hk=>h k om)]
  · have ih:=V_ hi hi' h (n:=n) om;simp only[bM,h n om];omega
theorem acD {p:Nat→Bool}:∀{n:Nat},bM p n=0→∀k,k<n→p k=false
 |0,_,k,hk=>om
 |n+1,h,k,hk=>by
  simp only[bM]at h;by_cases fJ:k=n
  · simp_all
  · exact acD (n:=n) om k om
def ew (listed:Array Bool) (k:Nat):Bool:=listed.getD k false
section
variable {X:Fx} {Sp:Spec} {b:Nat} {ops:Array Oper} {st0:ak} {rs:Nat→Option bc} {ts:gW}
theorem aeb (hL:Lex X.P Sp b ops st0 rs ts) (hf:qN b ops ts=true) {i j:Nat} (hi:i<ops.size) (hj:j<ops.size) (CJ:i≠j) (hd:direct ops i j=false):∀n∈h_ (rs i),¬(b+8*j≤n∧n<b+8*j+8):=by
 unfold qN at hf;simp only[bk,ko,rV,beq_iff_eq]at hf;have h1:=hL.name i ops[i] (pW hi);rcases hf i hi j hj with(h2|h2)|h2
 · exact absurd h2 CJ
 · rw[hd]at h2;cases h2
 · rw[h1]at h2;simp only[bk,lO,Bool.and_eq_false_iff,rS]at h2;intro n hn h3;rcases h2 n hn with h4|h4
   · exact h4 h3.1
   · exact h4 h3.2
theorem apD (hL:Lex X.P Sp b ops st0 rs ts) (hp:nD ops ts=true) (y8:qN b ops ts=true) (hf:FO ops=true) {Q:Exit→Act→av→Prop}
  (hq:∀a' w' E',Rel X E' (AS ops rs st0 fun k=>decide (k<ops.size)) a' w'→Q .normal a' w'):
  ∀ (fuel:Nat) (listed:Array Bool) (E:Env) (a:Act) (w:av),listed.size=ops.size→bM (fun k=> !ew listed k) ops.size=fuel→Shut ops (ew listed)→Rel X E (AS ops rs st0 (ew listed)) a w→
    (∀k,k<ops.size→ew listed k=false→qj X E (AS ops rs st0 (ew listed)) (b+8*k))→wpAny X.P .any ops Q fuel listed a w:=by
 have hend:∀(listed:Array Bool) (E:Env) (a:Act) (w:av),(∀k,k<ops.size→ew listed k=true)→Rel X E (AS ops rs st0 (ew listed)) a w→Q .normal a w:=by
  intro listed E a w hall hR;refine hq a w E ?_;have:AS ops rs st0 (ew listed)=AS ops rs st0 fun k=>decide (k<ops.size):=tc fun k hk=> .inl (by simp_all)
  simp_all
 have hnone:∀(listed:Array Bool),listed.size=ops.size→Region.ready .any ops listed=[]→∀k,k<ops.size→ew listed k=true:=by
  intro listed bj hr k
  induction k using Nat.strongRecOn with
  | _ k ih=>
    intro hk
    cases hd:ew listed k with
    |true=>rfl
    | false=>
      exfalso;have:k∈Region.ready .any ops listed:=mem_ready.2 ⟨by
        simp_all[ew,eN],ops[k],pW hk,fun e he hb=>by
        unfold FO at hf;simp only[bk,ko]at hf;have:=hf k hk;rw[pW hk]at this;simp only[Array.all_eq_true_iff_forall_mem]at this;have:=this e he;rw[hb]at this;simp at this;exact ih e.on this om⟩
      simp_all
 intro fuel
 induction fuel with
 |zero=>
  intro listed E a w bj hc H6 hR hF;have hall:∀k,k<ops.size→ew listed k=true:=fun k hk=>by simpa using acD hc k hk
  refine⟨?_,hend listed E a w hall hR⟩;refine List.eq_nil_iff_forall_not_mem.2 fun i hi=> ?_
  obtain⟨h1,o,ho,_⟩:=mem_ready.1 hi;have bW:i<ops.size:=(dY.1 ho).1;have:=hall i bW;unfold ew at this;simp only[ug,pW (show i<listed.size by omega),eN]at this h1;rw[this]at h1;cases h1
 | succ fuel ih=>
  intro listed E a w bj hc H6 hR hF;refine⟨fun hr=>hend listed E a w (hnone listed bj hr) hR,fun i hi=> ?_⟩;obtain⟨h1,o,ho,tV⟩:=mem_ready.1 hi;have bW:i<ops.size:=(dY.1 ho).1;have rn:ew listed i=false:=by
    simp_all[ew,eN]
  have hri:∀j,direct ops i j=true→ew listed j=true:=by
    intro j hj;unfold direct at hj;rw[ho]at hj;simp only[Array.any_eq_true',bt,beq_iff_eq]at hj;obtain⟨e,he,hb,rfl⟩:=hj;exact tV e he hb
  have H7:ew (listed.setIfInBounds i true) i=true:=by
    simp_all[ew]
  have zc:∀k,k≠i→ew (listed.setIfInBounds i true) k=ew listed k:=fun k hk=>by
    simp_all[ew,Ne.symm]
  have hst:=asG hL hp H6 ho rn hri;unfold wpOp;rw[ho];simp only;have := I7 hR (hF i bW rn) (ops:=ops) (o:=o) hst (next:=wpAny X.P .any ops Q fuel (listed.setIfInBounds i true)) (Q:=Q) (fun v w' E' k1 k2=>by
    have k4:=amb hL hp H6 ho rn H7 zc k2;refine ih (listed.setIfInBounds i true) _ _ w' (by simpa using bj) ?_ ?_ k4 ?_
    · have:=V_ (p:=fun k=> !ew listed k) (q:=fun k=> !ew (listed.setIfInBounds i true) k) (i:=i) (by simp[rn]) (by simp[H7]) (fun k hk=>by simp[zc k hk]) bW;omega
    · intro j k hj hd;by_cases we:k=i
      · simp_all
      · rw[zc k we];by_cases wh:j=i
        · simp_all
        · rw[zc j wh]at hj;exact H6 j k hj hd
    · intro k hk H8 n h5 h6;have we:k≠i:=by rintro rfl;rw[H7]at H8;cases H8
      rw[zc k we]at H8;obtain⟨f1,f2,f3,f4⟩:=hF k hk H8 n h5 h6;refine⟨k1 n om f1,?_,by simp_all[Nz],f4⟩;have aHb:(n∈(AS ops rs st0 (ew (listed.setIfInBounds i true))).ao) ↔ n∈(gv (AS ops rs st0 (ew listed)) o (rs i)).ao:=by
        have hg:n∉h_ (rs i):=by
          intro hm
          cases v_:direct ops i k with
          |true=>simp_all
          |false=>exact aeb hL y8 bW hk (Ne.symm we) v_ n hm ⟨h5,h6⟩
        rw[xG,AZ rn H7 zc bW (.inr (Eg hg)),xW,xG];rfl
      intro h7;have h8:=aHb.1 h7;rw[xW]at h8;rcases h8 with h8|h8
      · cases v_:direct ops i k with
        |true=>simp_all
        |false=>exact aeb hL y8 bW hk (Ne.symm we) v_ n (rR _ h8) ⟨h5,h6⟩
      · exact f2 h8)
  split
  · rename_i hw;rw[au hw]at this;exact .inl this
  · rename_i hw;rw[aE hw]at this;exact this
theorem Yh {rsF:Nat→Option bc}:∀(l:List Oper) (k:Nat) {st st':ak} {ts:gW} {rs:List (Option bc)},
  (∀j,l[j]? =ops[k+j]?)→j_ X.P Sp b ops l k st=some (rs,ts,st')→(∀j,j<rs.length→rsF (k+j)=(rs[j]?).getD none)→
  st=ey (fun k st=>gv st (ops[k]?.getD default) (rsF k)) (fun _=>true) st0 k→
  rs.length=l.length∧ts.length=l.length∧
  st'=ey (fun k st=>gv st (ops[k]?.getD default) (rsF k)) (fun _=>true) st0 (k+l.length)∧
  ∀ (j:Nat) (o:Oper),l[j]? =some o→kQ X.P Sp b ops (ey (fun k st=>gv st (ops[k]?.getD default) (rsF k)) (fun _=>true) st0 (k+j)) (k+j) o=some (rsF (k+j))∧
    ts[j]? =some (vf (ey (fun k st=>gv st (ops[k]?.getD default) (rsF k)) (fun _=>true) st0 (k+j)) o (rsF (k+j)),h_ (rsF (k+j)))
 |[],k,st,st',ts,rs,_,he,_,hst=>by
  cases he;simp_all
 |o::l,k,st,st',ts,rs,hl,he,jB,hst=>by
  have h0:ops[k]? =some o:=by simpa using(hl 0).symm
  simp only[j_]at he;split at he
  · rename_i r hr;split at he
    · rename_i rs1 ts1 lI CK;cases he;have hrk:rsF k=r:=by have:=jB 0 (by simp);simpa using this
      have aHd:gv st o r=ey (fun k st=>gv st (ops[k]?.getD default) (rsF k)) (fun _=>true) st0 (k+1):=by
       simp_all[ey,if_true,eN]
      obtain⟨g1,g2,g4,g5⟩:=Yh l (k+1) (fun j=>by have:=hl (j+1);simpa[rQ,IP 1 j]using this) CK
       (fun j hj=>by have:=jB (j+1) (by simpa using hj);rw[show k+1+j=k+(j+1)by omega];simpa using this) aHd
      refine⟨by simp[g1],by simp[g2],by rw[g4];simp[rQ,IP 1],fun j x hj=> ?_⟩
      cases j with
      |zero=>
       simp at hj;subst hj;rw[gb,←hst,hrk];exact⟨hr,rfl⟩
      |succ j=>
       have:=g5 j x (by simpa using hj);rw[show k+1+j=k+(j+1)by omega]at this;simpa using this
    · cases he
  · cases he
end
theorem D9 {X:Type} {g:Nat→X→X} {x:X} {k n:Nat} (h:k≤n):ey g (fun j=>decide (j<k)) x n=ey g (fun _=>true) x k:=by
  induction n with
  | zero => have:k=0:=om
            subst this;rfl
  | succ n ih=>
    by_cases hk:k=n+1
    · subst hk;exact tc fun j hj=> .inl (by simp[hj])
    · simp only[ey];rw[aE (by simp;omega)];exact ih om
def Told (X:Fx) (st:ak) (a:Act) (w:av):Prop:=∃E,Rel X E st a w∧st.ao=[]
def Aw (X:Fx) (c:Code) (Q:Exit→ak→Prop) (st:ak):Prop:=
 ∀a w,Told X st a w→c.wp X.P (fun e a' w'=>∃st',Q e st'∧Told X st' a' w') a w
section
variable {X:Fx} {Sp:Spec} {Q:Exit→ak→Prop} {st:ak}
theorem vb {id:Nat} {ops:List Oper} {rs:List (Option bc)} {ts:gW} {st':ak} (he:j_ X.P Sp st.next ops.toArray ops 0 (st.bump ops.length)=some (rs,ts,st')) (hs:nj st.next 0 ts=true) (h:Q .normal st'.settle):
  Aw X (.region id ops.toArray false) Q st:=fun a w ht=>by
 obtain⟨E,hR,hg⟩:=ht;refine wp_region ?_;have:=adf (X:=X) (ops:=ops.toArray) (Q:=fun e a' w'=>∃st',Q e st'∧Told X st' a' w') ops 0 (fun j=>by simp) (hR.bump ops.length) (fun j _ hj=>hR.free hg (by simpa using hj)) he hs (fun a' w' E' k1=>by
  obtain⟨E2,k3,k4⟩:=k1.settle;exact⟨_,h,E2,k3,k4⟩)
 rw[←List.range_eq_range']at this;simpa using this
theorem atg (hm:X.P.follows .mixedOrders=true) {id:Nat} {ops:List Oper} (hf:FO ops.toArray=true) {rs:List (Option bc)} {ts:gW} {st':ak}
   (he:j_ X.P Sp st.next ops.toArray ops 0 (st.bump ops.length)=some (rs,ts,st')) (hp:nD ops.toArray ts=true) (y8:qN st.next ops.toArray ts=true) (h:Q .normal st'.settle):
   Aw X (.region id ops.toArray true) Q st:=fun a w ht=>by
 obtain⟨E,hR,hg⟩:=ht;obtain⟨g1,g2,g4,g5⟩:=Yh (X:=X) (st0:=st.bump ops.length) (rsF:=fun k=> (rs[k]?).getD none) ops 0 (fun j=>by simp) he (fun j _=>by simp) rfl;have aHe:Lex X.P Sp st.next ops.toArray (st.bump ops.length) (fun k=> (rs[k]?).getD none) ts:={
   step:=fun k o ho=>by
    have hk:k<ops.length:=by have:=(dY.1 ho).1;simpa using this
    rw[D9 (by simpa using Nat.le_of_lt hk)];have:=(g5 k o (by simpa using ho)).1;simpa using this
   name:=fun k o ho=>by
    have hk:k<ops.length:=by have:=(dY.1 ho).1;simpa using this
    rw[D9 (by simpa using Nat.le_of_lt hk)];have:=(g5 k o (by simpa using ho)).2;simpa using this}
 refine wp_region_any hm ?_;have pP:Rel X E (st.bump ops.length) a {w with drawn:=w.drawn+1}:=(hR.bump ops.length).drew;have e1:AS ops.toArray (fun k=> (rs[k]?).getD none) (st.bump ops.length) (ew (Array.replicate ops.toArray.size false))=st.bump ops.length:=by
   have:AS ops.toArray (fun k=> (rs[k]?).getD none) (st.bump ops.length) (ew (Array.replicate ops.toArray.size false))=AS ops.toArray (fun k=> (rs[k]?).getD none) (st.bump ops.length) (fun j=>decide (j<0)):=
    tc fun k hk=> .inl (by simp_all[ew])
   rw[this];show ey _ _ _ _=_;rw[D9 (p6 _)];rfl
 refine apD (X:=X) (Q:=fun e a' w'=>∃st',Q e st'∧Told X st' a' w') aHe hp y8 hf ?_ _ _ E a _ (by simp) ?_ ?_ ?_ ?_
 · intro a' w' E' k2;have e1:AS ops.toArray (fun k=> (rs[k]?).getD none) (st.bump ops.length) (fun k=>decide (k<ops.toArray.size))=st':=by
    simp_all[ey,D9]
   rw[e1]at k2;obtain⟨E2,k3,k4⟩:=k2.settle;exact⟨_,h,E2,k3,k4⟩
 · have:∀n,n≤ops.length→bM (fun k=> !ew (Array.replicate ops.toArray.size false) k) n=n:=by
    intro n hn
    induction n with
    |zero=>rfl
    |succ n ih=>
     simp only[bM,ih om];simp[ew,ug,SL,show n<ops.length by omega]
   simp_all
 · intro j i hj _;simp[ew,ug,SL]at hj;split at hj<;>simp at hj
 · rw[e1];exact pP
 · intro k hk _;rw[e1];exact hR.free hg (by simpa using hk)
theorem lV {c:Code} {Q':Exit→ak→Prop} (h:Aw X c Q st) (hq:∀e st,Q e st→Q' e st):Aw X c Q' st:=
 fun a w ht=>wp_mono (h a w ht) fun e _ _ ⟨st',h1,h2⟩=> ⟨st',hq e st' h1,h2⟩
def Le (X:Fx) (st st':ak):Prop:=∀a w,Told X st a w→Told X st' a w
theorem abt {c:Code} {st':ak} (hl:Le X st st') (h:Aw X c Q st'):Aw X c Q st:=fun a w ht=>h a w (hl a w ht)
theorem EK (h:Q .normal st):Aw X .skip Q st:=fun _ _ ht=>wp_skip ⟨st,h,ht⟩
theorem awD {id:Nat} (h:Q (.exit id) st):Aw X (.exit id) Q st:=fun _ _ ht=>wp_exit ⟨st,h,ht⟩
theorem vd (h:Q .ret st):Aw X .ret Q st:=fun _ _ ht=>wp_ret ⟨st,h,ht⟩
def Br (next:ak→Prop) (Q:Exit→ak→Prop):Exit→ak→Prop
 | .normal,st=>next st
 |e,st=>Q e st
theorem fA {x y:Code} (h:Aw X x (Br (Aw X y Q) Q) st):Aw X (.seq x y) Q st:=fun a w ht=>by
 refine wp_seq (wp_mono (h a w ht) ?_);rintro e a' w' ⟨st',h1,h2⟩
 cases e with
 |normal=>exact h1 a' w' h2
 |_=>exact⟨st',h1,h2⟩
theorem vV {c:aM} {x y:Code} {t:Bool} (hc:st.arg c=some (.sc (.bool t))) (h1:t=true→Aw X x Q st) (h2:t=false→Aw X y Q st):Aw X (.cond c x y) Q st:=fun a w ht=>by
 have gM:=ht;obtain⟨E,hR,_⟩:=gM;have k1:=RP.dv (hR.bU hc).1;refine wp_cond k1 ?_;cases t
 · exact h2 rfl a w ht
 · exact h1 rfl a w ht
def B9 (id:Nat) (Q:Exit→ak→Prop):Exit→ak→Prop
 | .exit wi,st=>if wi=id then Q .normal st else Q (.exit wi) st
 |e,st=>Q e st
theorem Ux {id:Nat} {c:Code} (h:Aw X c (B9 id Q) st):Aw X (.block id c) Q st:=fun a w ht=>by
 refine wp_block (wp_mono (h a w ht) ?_);rintro e a' w' ⟨st',h1,h2⟩
 cases e with
 |exit wi=>
  simp only[B9]at h1;by_cases hid:wi=id
  · rw[au hid]at h1;simp only[Exit.inBlock,hid,if_true];exact⟨st',h1,h2⟩
  · rw[aE hid]at h1;simp only[Exit.inBlock];rw[aE (by first|exact hid|exact fun h=>hid h.symm)];exact⟨st',h1,h2⟩
 |_=>exact⟨st',h1,h2⟩
def arW (Q:Exit→ak→Prop):Exit→ak→Prop
 | .goto _,_=>False
 |e,st=>Q e st
theorem auJ {c:Code} (h:Aw X c (arW Q) st):Aw X (.scope c) Q st:=fun a w ht=>by
 refine wp_scope_straight (wp_mono (h a w ht) ?_);rintro e a' w' ⟨st',h1,h2⟩
 cases e with
 |goto l=>exact h1.elim
 |_=>exact⟨st',h1,h2⟩
theorem akX {l:Nat} (h:Q .normal st):Aw X (.label l) Q st:=fun _ _ ht=>wp_label ⟨st,h,ht⟩
def sx (X:Fx) (c:Code):Nat→(Exit→ak→Prop)→ak→Prop
 |0,_,_=>False
 |n+1,Q,st=>Aw X c (Br (sx X c n Q) Q) st
theorem agT {c:Code} {st':ak}:∀{n:Nat},Le X st st'→sx X c n Q st'→sx X c n Q st
 |0,_,h=>h.elim
 |_+1,hl,h=>abt hl h
theorem XI {c:Code}:∀{n:Nat} {st:ak},sx X c n Q st→∀a w,Told X st a w→Code.rounds X.P c (fun e a' w'=>∃st',Q e st'∧Told X st' a' w') n a w
 |0,_,h=>h.elim
 |n+1,st,h=>fun a w ht=>by
  rw[rounds_succ];refine wp_mono (h a w ht) ?_;rintro e a' w' ⟨st',h1,h2⟩
  cases e with
  |normal=>exact XI (n:=n) h1 a' w' h2
  |_=>exact⟨st',h1,h2⟩
theorem agL {c:Code} {n:Nat} (h:sx X c n Q st):Aw X (.loop c) Q st:=fun a w ht=>wp_loop_rounds n (XI h a w ht)
theorem avi {c:Code} {α:Type} (I:α→ak→Prop) (μ:α→Nat) {x0:α} (h0:∃lI,Le X st lI∧I x0 lI)
  (round:∀x st,I x st→Aw X c (Br (fun st'=>∃x' lI,Le X st' lI∧I x' lI∧μ x'<μ x) Q) st):Aw X (.loop c) Q st:=fun a w ht=>by
 obtain⟨lI,hl,hI⟩:=h0;intro b k cs;have key:∀n x st,μ x=n→I x st→∀a w,Told X st a w→
   ∃e a' w',(∃st',Q e st'∧Told X st' a' w')∧Arrives X.P (lone (b.at a (.code c:: .inLoop c::k)) cs w) b k cs e a' w':=by
  intro n
  induction n using Nat.strongRecOn with
  | _ n ih=>
   intro x st hx hI a w ht;obtain⟨e,a₁,w₁,⟨st',hq,gM⟩,lJ⟩:=round x st hI a w ht b (.inLoop c::k) cs
   cases e with
   |normal=>
    obtain⟨x',wj,hl2,hI2,hμ⟩:=hq;obtain⟨e₂,a₂,w₂,hq₂,harr₂⟩:=ih (μ x') (hx▸hμ) x' wj rfl hI2 a₁ w₁ (hl2 _ _ gM);exact⟨e₂,a₂,w₂,hq₂,.of_steps (Steps.trans lJ (.one step_inLoop)) harr₂⟩
   |exit id=>exact⟨_,a₁,w₁,⟨st',hq,gM⟩,.pass (x:= .inLoop c) rfl (fun _ _=> .inl (by simp)) lJ⟩
   |goto l=>exact⟨_,a₁,w₁,⟨st',hq,gM⟩,.pass (x:= .inLoop c) rfl (fun _ _=> .inl (by simp)) lJ⟩
   |ret=>exact⟨_,a₁,w₁,⟨st',hq,gM⟩,.pass (x:= .inLoop c) rfl (fun _ _=> .inl (by simp)) lJ⟩
   |panic ch=>exact⟨_,a₁,w₁,⟨st',hq,gM⟩,.pass (x:= .inLoop c) rfl (fun _ _=> .inl (by simp)) lJ⟩
   |outgrown=>exact⟨_,a₁,w₁,⟨st',hq,gM⟩,.pass (x:= .inLoop c) rfl (fun _ _=> .inl (by simp)) lJ⟩
 obtain⟨e,a',w',hq,lJ⟩:=key _ x0 lI rfl hI a w (hl _ _ ht);exact⟨e,a',w',hq,.of_steps (.one step_loop) lJ⟩
end
abbrev Ren:=List (Nat×Nat)
def Ren.to (ι:Ren) (n:Nat):Nat:=(List.lookup n ι).getD 0
def Ren.old (ι:Ren):List Nat:=ι.map (·.1)
def Ren.new (ι:Ren):List Nat:=ι.map (·.2)
def BP (st:ak) (ι:Ren) (Z:List Nat):C→C→Prop
 |_,.dead=>True
 |c,.p q=>c= .p q∨∃rows,q= .sl rows∧st.view c=some rows∧∀n∈c.names,n∉ι.old
 | .nil,.own n'=>n'∈Z
 | .nil,.sub n' lo len=>n'∈Z∧lo=0∧len=0
 |c,c'=>c'=c.cX ι.to∧∀n∈c.names,n∈ι.old
def Ck (st:ak) (ι:Ren) (Z:List Nat):List C→List C→Prop
 |[],[]=>True
 |c::cs,c'::cs'=>BP st ι Z c c'∧Ck st ι Z cs cs'
 |_,_=>False
def vX (st:ak) (ι:Ren) (Z:List Nat):V1→V1→Prop
 |_,.c .dead=>True
 | .c c,.c c'=>BP st ι Z c c'
 | .agg cs,.agg cs'=>Ck st ι Z cs cs'
 |_,_=>False
def E_ (st:ak) (ι:Ren) (Z:List Nat):List V1→List V1→Prop
 |[],[]=>True
 |c::cs,c'::cs'=>vX st ι Z c c'∧E_ st ι Z cs cs'
 |_,_=>False
def wQ (st:ak) (ι:Ren) (Z:List Nat):V→V→Prop
 |_,.v (.c .dead)=>True
 | .v x,.v x'=>vX st ι Z x x'
 | .aj xs,.aj xs'=>E_ st ι Z xs xs'
 |_,_=>False
def dj (st:ak) (ι:Ren) (Z:List Nat):List V→List V→Prop
 |[],[]=>True
 |v::l,v'::l'=>wQ st ι Z v v'∧dj st ι Z l l'
 |_,_=>False
def leB (st:ak) (ι:Ren) (Z:List Nat):cO→cO→Prop
 | .box cs,.box cs'=>Ck st ι Z cs cs'
 | .row e rows,.row e' bK=>e=e'∧rows=bK
 | .map es,.map es'=>es=es'
 |_,_=>False
structure oj (P:aQ) (k0:Nat) (st st':ak) (ι:Ren) (Z:List Nat):Prop where
 ao:st'.ao=[]
 old:ι.old.Nodup
 new:ι.new.Nodup
 zs:∀n∈Z,n∉ι.new∧k0≤n∧n<st'.next∧∃e,st'.heap.lookup n=some (.row e [])∧0<P.cellsOf e
 lt:∀x∈ι,x.2<st'.next∧(x.2<k0→x.1=x.2)
 k0:k0≤st'.next
 tmps:dj st ι Z st.tmps st'.tmps
 heap:∀n' b',st'.heap.lookup n'=some b'→n'∈Z∨∃n b,(n,n')∈ι∧st.heap.lookup n=some b∧leB st ι Z b b'
theorem ajU {ι:Ren} {n:Nat} (h:n∈ι.old):∃n',List.lookup n ι=some n'∧(n,n')∈ι:=by
 induction ι with
 |nil=>simp[Ren.old]at h
 |cons x ι ih=>
  obtain⟨k,k'⟩:=x;rw[eR];by_cases hk:n=k
  · subst hk;exact⟨k',by simp,by simp⟩
  · rw[beq_eq_false_iff_ne.2 hk];obtain⟨n',h1,h2⟩:=ih (by simpa[Ren.old,hk]using h);exact⟨n',h1,by simp[h2]⟩
theorem arh {ι:Ren} (hn:ι.old.Nodup) {n a b:Nat} (h1:(n,a)∈ι) (h2:(n,b)∈ι):a=b:=by
 induction ι with
 |nil=>cases h1
 |cons x ι ih=>
  simp only[Ren.old,bC,List.nodup_cons]at hn;rcases cU.1 h1 with k1|k1<;>rcases cU.1 h2 with k2|k2
  · rw[←k1]at k2;cases k2;rfl
  · rw[←k1]at hn;exact absurd (dy.2 ⟨(n,b),k2,rfl⟩:n∈ι.map (·.1)) hn.1
  · rw[←k2]at hn;exact absurd (dy.2 ⟨(n,a),k1,rfl⟩:n∈ι.map (·.1)) hn.1
  · exact ih hn.2 k1 k2
theorem aqL {ι:Ren} (hn:ι.new.Nodup) {n a b:Nat} (h1:(a,n)∈ι) (h2:(b,n)∈ι):a=b:=by
 induction ι with
 |nil=>cases h1
 |cons x ι ih=>
  simp only[Ren.new,bC,List.nodup_cons]at hn;rcases cU.1 h1 with k1|k1<;>rcases cU.1 h2 with k2|k2
  · rw[←k1]at k2;cases k2;rfl
  · rw[←k1]at hn;exact absurd (dy.2 ⟨(b,n),k2,rfl⟩:n∈ι.map (·.2)) hn.1
  · rw[←k2]at hn;exact absurd (dy.2 ⟨(a,n),k1,rfl⟩:n∈ι.map (·.2)) hn.1
  · exact ih hn.2 k1 k2
def Env.le (P:aQ) (E:Env) (st':ak) (ι:Ren) (Z:List Nat):Env:=
 ⟨fun n'=>if n'∈Z then some ⟨none,0,0,match st'.heap.lookup n' with|some (.row e _)=>P.cellsOf e|_=>0⟩else match ι.find? (fun x=>x.2==n')with|some x=>E.N x.1|none=>none,[]⟩
section
variable {X:Fx} {E:Env} {st st':ak} {a:Act} {w:av} {ι:Ren} {Z:List Nat}
theorem vI {n':Nat} {x:Nm} (h:(E.le X.P st' ι Z).N n'=some x):(n'∈Z∧x.g=none)∨(n'∉Z∧∃n,(n,n')∈ι∧E.N n=some x):=by
 simp only[Env.le]at h;split at h
 · cases h;exact .inl ⟨by assumption,rfl⟩
 · right;refine⟨by assumption,?_⟩;split at h
   · rename_i y hy;have h1:=List.find?_some hy;have h2:=List.mem_of_find?_eq_some hy;simp at h1;obtain⟨n,m⟩:=y;simp at h1;subst h1;exact⟨n,h2,h⟩
   · cases h
theorem Wu (hL:oj X.P X.k0 st st' ι Z) {n n':Nat} (hn:(n,n')∈ι) {x:Nm} (h:E.N n=some x):(E.le X.P st' ι Z).N n'=some x:=by
 simp only[Env.le];rw[aE (fun hz=> (hL.zs n' hz).1 (dy.2 ⟨_,hn,rfl⟩))]
 cases hf:ι.find? (fun x=>x.2==n')with
 |none=>
  rw[List.find?_eq_none]at hf;exact(hf _ hn (by simp)).elim
 |some y=>
  have h1:=List.find?_some hf;have h2:=List.mem_of_find?_eq_some hf;obtain⟨m,m'⟩:=y;simp at h1;subst h1;have:=aqL hL.new hn h2;subst this;exact h
theorem Y5 {g:Nat} (h:bad X.M (E.le X.P st' ι Z) g):bad X.M E g:=by
 rcases h with h| ⟨n',x,h1,h2⟩
 · exact .inl h
 · rcases vI h1 with⟨_,h3⟩| ⟨_,n,_,h3⟩
   · simp_all
   · exact .inr ⟨n,x,h3,h2⟩
theorem RC.le (h:Rel X E st a w) (hg:st.ao=[]) (hL:oj X.P X.k0 st st' ι Z) {c c':C} {v:aD} (hl:BP st ι Z c c') (hc:RC X.M E w c v):RC X.M (E.le X.P st' ι Z) w c' v:=by
 have hst:iB (bad X.M E) (bad X.M (E.le X.P st' ι Z)) w w:=fun g o u h1 h2=> ⟨h1,fun h=>h2 (Y5 h)⟩
 have fq:∀n,n∉E.ao:=fun n=>by rw[h.ao,hg];simp
 have key:c'=c.cX ι.to∧(∀n∈c.names,n∈ι.old)→RC X.M (E.le X.P st' ι Z) w c' v:=by
  rintro⟨rfl,hn⟩;refine RC.cX (.inl hst) (fun n h1=> ⟨fq n,fun x hx=> ?_⟩) hc;obtain⟨n',h2,h3⟩:=ajU (hn n h1);have:ι.to n=n':=by simp[Ren.to,h2]
  rw[this];exact Wu hL h3 hx
 cases c' with
 |dead=>trivial
 |p q=>
  have hl':c= .p q∨∃rows,q= .sl rows∧st.view c=some rows∧∀n∈c.names,n∉ι.old:=by cases c<;>exact hl
  rcases hl' with rfl| ⟨rows,rfl,hv,hn⟩
  · exact RP.trans hc hst
  · obtain⟨ns,h1,h2⟩:=Tr hv;obtain⟨_,_,h3⟩:=h.sink hc (fun n _=>by rw[hg];simp) h1;refine RP.trans (h3 ns (fun _ h=>h)) (fun g o u k1 k2=> ⟨k1,fun k3=>k2 ?_⟩);rcases k3 with k3| ⟨n',x,k4,k5⟩
    · exact .inl k3
    · rcases vI k4 with⟨_,k6⟩| ⟨_,n,k6,k7⟩
      · simp_all
      · refine .inr ⟨n,x,?_,k5⟩;simp only[Env.drop];rw[aE fun fp=>hn n (h2 n fp) (dy.2 ⟨_,k6,rfl⟩)];exact k7
 |own n'=>
  cases c with
  | nil=>
    have hz:n'∈Z:=hl;obtain⟨_,_,_,e,h4,h5⟩:=hL.zs n' hz;refine .inr ⟨⟨none,0,0,X.P.cellsOf e⟩,by simp[Env.le,hz,h4],?_⟩;exact hc
  |_=>exact key hl
 |sub n' lo len=>
  cases c with
  | nil=>
    obtain⟨hz,rfl,rfl⟩:n'∈Z∧lo=0∧len=0:=hl;obtain⟨_,_,_,e,h4,h5⟩:=hL.zs n' hz;exact .inr ⟨⟨none,0,0,X.P.cellsOf e⟩,by simp[Env.le,hz,h4],cT _,none,hc,fun _=>rfl⟩
  |_=>exact key hl
 |_=>cases c<;>exact key hl
theorem LS:∀{cs cs':List C},Ck st ι Z cs cs'→cs.length=cs'.length∧∀(i:Nat) (c':C),cs'[i]? =some c'→∃c,cs[i]? =some c∧BP st ι Z c c'
 |[],[],_=> ⟨rfl,fun i c' h=>by simp at h⟩
 |c::cs,c'::cs',h=>by
  obtain⟨h1,h2⟩:=LS h.2;refine⟨by simp[h1],fun i x hi=> ?_⟩
  cases i with
  |zero=>simp at hi;subst hi;exact⟨c,rfl,h.1⟩
  |succ i=>simp_all
 |[],_::_,h=>h.elim
 |_::_,[],h=>h.elim
theorem aeK:∀{cs cs':List V1},E_ st ι Z cs cs'→cs.length=cs'.length∧∀(i:Nat) (c':V1),cs'[i]? =some c'→∃c,cs[i]? =some c∧vX st ι Z c c'
 |[],[],_=> ⟨rfl,fun i c' h=>by simp at h⟩
 |c::cs,c'::cs',h=>by
  obtain⟨h1,h2⟩:=aeK h.2;refine⟨by simp[h1],fun i x hi=> ?_⟩
  cases i with
  |zero=>simp at hi;subst hi;exact⟨c,rfl,h.1⟩
  |succ i=>simp_all
 |[],_::_,h=>h.elim
 |_::_,[],h=>h.elim
theorem Jb:∀{cs cs':List V},dj st ι Z cs cs'→cs.length=cs'.length∧∀(i:Nat) (c':V),cs'[i]? =some c'→∃c,cs[i]? =some c∧wQ st ι Z c c'
 |[],[],_=> ⟨rfl,fun i c' h=>by simp at h⟩
 |c::cs,c'::cs',h=>by
  obtain⟨h1,h2⟩:=Jb h.2;refine⟨by simp[h1],fun i x hi=> ?_⟩
  cases i with
  |zero=>simp at hi;subst hi;exact⟨c,rfl,h.1⟩
  |succ i=>simp_all
 |[],_::_,h=>h.elim
 |_::_,[],h=>h.elim
theorem dq.le (h:Rel X E st a w) (hg:st.ao=[]) (hL:oj X.P X.k0 st st' ι Z) {x x':V1} {v:aD} (hl:vX st ι Z x x') (hc:dq X.M E w x v):dq X.M (E.le X.P st' ι Z) w x' v:=by
 unfold vX at hl;split at hl
 · trivial
 · exact RC.le h hg hL hl hc
 · obtain⟨us,h1,h2,h3⟩:=hc;obtain⟨h4,h5⟩:=LS hl;refine⟨us,h1,by rw[h2,h4],fun i c hi=> ?_⟩;obtain⟨c0,h6,h7⟩:=h5 i c hi;obtain⟨u,h8,h9,h10⟩:=h3 i c0 h6;exact⟨u,h8,RC.le h hg hL h7 h9,h10⟩
 · exact hl.elim
theorem RV.le (h:Rel X E st a w) (hg:st.ao=[]) (hL:oj X.P X.k0 st st' ι Z) {x x':V} {v:aD} (hl:wQ st ι Z x x') (hc:RV X.M E w x v):RV X.M (E.le X.P st' ι Z) w x' v:=by
 unfold wQ at hl;split at hl
 · trivial
 · exact dq.le h hg hL hl hc
 · obtain⟨us,h1,h2,h3⟩:=hc;obtain⟨h4,h5⟩:=aeK hl;refine⟨us,h1,by rw[h2,h4],fun i c hi=> ?_⟩;obtain⟨c0,h6,h7⟩:=h5 i c hi;obtain⟨u,h8,h9⟩:=h3 i c0 h6;exact⟨u,h8,dq.le h hg hL h7 h9⟩
 · exact hl.elim
theorem Rel.le (h:Rel X E st a w) (hg:st.ao=[]) (hL:oj X.P X.k0 st st' ι Z):Rel X (E.le X.P st' ι Z) st' a w:=by
 have hst:iB (bad X.M E) (bad X.M (E.le X.P st' ι Z)) w w:=fun g o u h1 h2=> ⟨h1,fun h=>h2 (Y5 h)⟩
 exact {
  defers:=h.defers
  ao:=by rw[hL.ao];rfl
  frame:=h.frame
  mlt:=h.mlt
  cR:=fun n' x hx=>by
   rcases vI hx with⟨h1,_⟩| ⟨_,n,h1,_⟩
   · exact(hL.zs n' h1).2.2.1
   · exact(hL.lt _ h1).1
  names:=fun n' x g hx hgx=>by
   rcases vI hx with⟨_,h1⟩| ⟨_,n,_,h1⟩
   · simp_all
   · exact h.names n x g h1 hgx
  inj:=fun n' m' x y g hx hy hgx oB=>by
   rcases vI hx with⟨_,h1⟩| ⟨_,n,h0,h1⟩
   · simp_all
   · rcases vI hy with⟨_,h2⟩| ⟨_,m,h3,h2⟩
     · simp_all
     · have:=h.inj n m x y g h1 h2 hgx oB;subst this;exact arh hL.old h0 h3
  dw :=fun m hm=>by
   cases hx:(E.le X.P st' ι Z).N m with
   |none=>exact .inl rfl
   | some x=>
     right;rcases vI hx with⟨h1,_⟩| ⟨_,n,h0,h1⟩
     · have:=(hL.zs m h1).2.1;omega
     · have:=(hL.lt _ h0).2 hm;simp at this;subst this;rcases h.dw n hm with h2|h2
       · simp_all
       · rw[←h2,h1]
  fh:=hL.k0
  fe:=fun n hn=>by rw[hL.ao]at hn;cases hn
  size:=by rw[h.size,(Jb hL.tmps).1]
  tmps:=fun i v' hi=>by
   obtain⟨v,h6,h7⟩:=(Jb hL.tmps).2 i v' hi;obtain⟨u,h8,h9⟩:=h.tmps i v h6;exact⟨u,h8,h9.le h hg hL h7⟩
  heap :=fun n' b' hl=>by
   right;rcases hL.heap n' b' hl with hz| ⟨n,b,h1,h2,h3⟩
   · obtain⟨_,_,_,e,h4,h5⟩:=hL.zs n' hz;rw[h4]at hl;cases hl;exact⟨⟨none,0,0,X.P.cellsOf e⟩,#[],(0,0),by simp[Env.le,hz,h4],.inl rfl,fun g hg=> (by cases hg),rfl,cT _,by simp[maxLen],h5,rfl,by simp,fun r hr=>by simp at hr,fun _=>rfl,fun i r j p hi=>by simp at hi⟩
   · have hr:=h.row (by rw[hg];simp) h2;have hN:∀x,E.N n=some x→(E.le X.P st' ι Z).N n'=some x:=fun x hx=>Wu hL h1 hx
     cases b with
     | box cs=>
       cases b' with
       | box cs'=>
         obtain⟨x,g,cur,e,k1,k0,k2,k3,k4⟩:=hr;obtain⟨h4,h5⟩:=LS h3;refine⟨x,g,cur,e,hN x k1,k0,k2,by rw[k3,h4],fun i c' hi=> ?_⟩;obtain⟨c,h6,h7⟩:=h5 i c' hi;obtain⟨u,h8,h9,h10⟩:=k4 i c h6;exact⟨u,h8,RC.le h hg hL h7 h9,h10⟩
       |_=>exact h3.elim
     | row e rows=>
       cases b' with
       | row e' bK=>
         obtain⟨rfl,rfl⟩:=h3;obtain⟨x,cur,fz,h1,ca,h2,h3,h4,h5,h6,h11,h7,h8,h10,h9⟩:=hr;exact⟨x,cur,fz,hN x h1,ca,h2,h3,h4,h5,h6,h11,h7,h8,h10,fun i r j p hi hj=>let⟨u,k1,k2⟩:=h9 i r j p hi hj; ⟨u,k1,k2.trans hst⟩⟩
       |_=>exact h3.elim
     | map es=>
       cases b' with
       | map es'=>
         cases h3;obtain⟨x,g,en,clock,h1,h0,h2,h3⟩:=hr;exact⟨x,g,en,clock,hN x h1,h0,h2,h3⟩
       |_=>exact h3.elim}
theorem oj.le (hg:st.ao=[]) (hL:oj X.P X.k0 st st' ι Z):Le X st st':=fun _ _ ⟨E,h,_⟩=> ⟨E.le X.P st' ι Z,h.le hg hL,hL.ao⟩
end
def vR (n L:Nat) (c c':C):Prop:=c'= .dead∨(c'=c∧n∉c.names)∨(c= .sub n 0 L∧c'= .own n)
def AW (n L:Nat):V1→V1→Prop
 |_,.c .dead=>True
 | .c c,.c c'=>vR n L c c'
 | .agg cs,.agg cs'=>cs.length=cs'.length∧∀(i:Nat) (c':C),cs'[i]? =some c'→∃c,cs[i]? =some c∧vR n L c c'
 |_,_=>False
def ZN (n L:Nat):V→V→Prop
 |_,.v (.c .dead)=>True
 | .v x,.v x'=>AW n L x x'
 | .aj xs,.aj xs'=>xs.length=xs'.length∧∀(i:Nat) (c':V1),xs'[i]? =some c'→∃c,xs[i]? =some c∧AW n L c c'
 |_,_=>False
def aeU (n L:Nat):cO→cO→Prop
 | .box cs,.box cs'=>cs.length=cs'.length∧∀(i:Nat) (c':C),cs'[i]? =some c'→∃c,cs[i]? =some c∧vR n L c c'
 | .row e rows,.row e' bK=>e'=e∧bK=rows
 | .map es,.map es'=>es'=es
 |_,_=>False
structure Ny (k0:Nat) (st st':ak) (n L:Nat) (e:aw) (rows:List (List PV)):Prop where
 k0:k0≤n
 ao:st'.ao=[]
 next:st'.next=st.next
 row:st.heap.lookup n=some (.row e rows)
 told:∃i:Nat,st.tmps[i]? =some (.v (.c (.sub n 0 L)))
 len:st.tmps.length=st'.tmps.length
 tmps:∀(i:Nat) (v':V),st'.tmps[i]? =some v'→∃v,st.tmps[i]? =some v∧ZN n L v v'
 heap:∀m b',st'.heap.lookup m=some b'→(m=n∧b'= .row e (rows.take L))∨(m≠n∧∃b,st.heap.lookup m=some b∧aeU n L b b')
theorem Ny.le {X:Fx} {st st':ak} {n L:Nat} {e:aw} {rows:List (List PV)} (hg:st.ao=[]) (hC:Ny X.k0 st st' n L e rows):Le X st st':=by
 rintro a w ⟨E,h,_⟩;have fq:∀m,m∉E.ao:=fun m=>by rw[h.ao,hg];simp
 obtain⟨x,cur,fz,k1,ca,k2,k3,k4,k5,k6,k7,k8,k9,ik,lE⟩:=h.row (by rw[hg];simp) hC.row;obtain⟨i0,hi0⟩:=hC.told;obtain⟨u0,_,hu0⟩:=h.tmps i0 _ hi0;obtain⟨x',k1',hL,_⟩:=bT.get (show RC X.M E w (.sub n 0 L) u0 from hu0) (fq n);rw[k1]at k1';cases k1';rw[Dd]at hL
 let E':Env:=⟨fun m=>if m=n then some {x with len:=L}else E.N m,[]⟩
 have hN:∀m y,m≠n→E.N m=some y→E'.N m=some y:=fun m y hm hy=>by simp only[E',aE hm];exact hy
 have nL:∀m y,E'.N m=some y→∃z,E.N m=some z∧z.g=y.g:=fun m y hy=>by
  simp only[E']at hy;split at hy
  · rename_i hm;subst hm;cases hy;exact⟨x,k1,rfl⟩
  · exact⟨y,hy,rfl⟩
 have eh:∀g,bad X.M E' g→bad X.M E g:=by
  rintro g (h1| ⟨m,y,h1,h2⟩)
  · exact .inl h1
  · obtain⟨z,h3,h4⟩:=nL m y h1;exact .inr ⟨m,z,h3,h4.trans h2⟩
 have hst:iB (bad X.M E) (bad X.M E') w w:=fun g o u h1 h2=> ⟨h1,fun h=>h2 (eh g h)⟩
 have kF:∀m (Q:Nm→Prop),m≠n→bT E m Q→bT E' m Q:=fun m Q hm hq=>by
  obtain⟨y,h1,h2⟩:=bT.get hq (fq m);exact .inr ⟨y,hN m y hm h1,h2⟩
 have hc:∀c c' v,vR n L c c'→RC X.M E w c v→RC X.M E' w c' v:=by
  rintro c c' v (rfl| ⟨rfl,hn⟩| ⟨rfl,rfl⟩) hv
  · trivial
  · cases c' with
    |p q=>exact RP.trans hv hst
    |nil=>exact hv
    |own m=>exact kF m _ (by simpa[C.names]using fun h:m=n=>hn (by simp[C.names,h])) hv
    |sub m lo len=>exact kF m _ (by simpa[C.names]using fun h:m=n=>hn (by simp[C.names,h])) hv
    |ptr m off=>exact kF m _ (by simpa[C.names]using fun h:m=n=>hn (by simp[C.names,h])) hv
    |cB m i j=>exact kF m _ (by simpa[C.names]using fun h:m=n=>hn (by simp[C.names,h])) hv
    | ref cells=>
      obtain⟨g,o,h1,h2⟩:=hv;refine⟨g,o,h1,fun j p hj=> ?_⟩;obtain⟨u,h3,h4,h5⟩:=h2 j p hj;exact⟨u,h3,fun h=>h4 (eh g h),RP.trans h5 hst⟩
    | fn f cQ=>
      obtain⟨us,h1,h2,h3⟩:=hv;refine⟨us,h1,h2,fun i m hi=> ?_⟩;obtain⟨u,h4,h5⟩:=h3 i m hi;exact⟨u,h4,kF m _ (fun hm=>hn (by subst hm;exact cH hi)) h5⟩
    |mp m=>exact kF m _ (by simpa[C.names]using fun h:m=n=>hn (by simp[C.names,h])) hv
    |dead=>trivial
  · obtain⟨y,h1,_,A,h3,h4⟩:=bT.get (show RC X.M E w (.sub n 0 L) v from hv) (fq n);rw[k1]at h1;cases h1;have hA:=h4 (.inr rfl);simp only[Nat.zero_mul,Nat.sub_zero]at hA h3;exact .inr ⟨{x with len:=L},by simp[E'],by rw[h3,hA]⟩
 have kL:∀y y' v,AW n L y y'→dq X.M E w y v→dq X.M E' w y' v:=by
  intro y y' v hy hv
  cases y' with
  | c c'=>
    cases y with
    | c c=>
      have:c'= .dead∨vR n L c c':=by cases c'<;>first|exact .inl rfl|exact .inr hy
      rcases this with rfl|hy
      · trivial
      · exact hc c c' v hy hv
    |agg=>cases c'<;>first|trivial|exact hy.elim
  | agg cs'=>
    cases y with
    |c=>exact hy.elim
    | agg cs=>
      obtain⟨us,rfl,h2,h3⟩:=hv;refine⟨us,rfl,h2.trans hy.1,fun i c' hi=> ?_⟩;obtain⟨c,h4,h5⟩:=hy.2 i c' hi;obtain⟨u,h6,h7,h8⟩:=h3 i c h4;exact⟨u,h6,hc c c' u h5 h7,h8⟩
 refine⟨E',?_,hC.ao⟩;exact{
  defers:=h.defers
  ao:=by rw[hC.ao]
  frame:=h.frame
  mlt:=h.mlt
  cR:=fun m y hy=>by
    obtain⟨z,h1,_⟩:=nL m y hy;rw[hC.next];exact h.cR m z h1
  names:=fun m y g hy yY=>by
    obtain⟨z,h1,h2⟩:=nL m y hy;exact h.names m z g h1 (h2.trans yY)
  inj:=fun m m' y y' g hy hy' hg hg'=>by
    obtain⟨z,h1,h2⟩:=nL m y hy;obtain⟨z',h3,h4⟩:=nL m' y' hy';exact h.inj m m' z z' g h1 h3 (h2.trans hg) (h4.trans hg')
  dw:=fun m hm=>by
    have:m≠n:=by have:=hC.k0;omega
    simp only[E',aE this];exact h.dw m hm
  fh:=by rw[hC.next];exact h.fh
  fe:=fun m hm=>by rw[hC.ao]at hm;cases hm
  size:=by rw[h.size,hC.len]
  tmps := fun i v' hi=>by
    obtain⟨v,h1,h2⟩:=hC.tmps i v' hi;obtain⟨u,h3,h4⟩:=h.tmps i v h1;refine⟨u,h3,?_⟩
    cases v' with
    | v y'=>
      cases v with
      | v y=>
        have:y'= .c .dead∨AW n L y y':=by
          cases y' with
          |c c'=>cases c'<;>first|exact .inl rfl|exact .inr h2
          |agg=>exact .inr h2
        rcases this with rfl|h2
        · trivial
        · exact kL y y' u h2 h4
      | aj=>
        cases y' with
        |c c'=>cases c'<;>first|trivial|exact h2.elim
        |agg=>exact h2.elim
    | aj xs'=>
      cases v with
      |v=>exact h2.elim
      | aj xs=>
        obtain⟨us,rfl,h5,h6⟩:=h4;refine⟨us,rfl,h5.trans h2.1,fun j c' hj=> ?_⟩;obtain⟨c,h7,h8⟩:=h2.2 j c' hj;obtain⟨u,h9,h10⟩:=h6 j c h7;exact⟨u,h9,kL c c' u h8 h10⟩
  heap := fun m b' hb=>by
    right;rcases hC.heap m b' hb with⟨rfl,rfl⟩| ⟨hm,b,h1,h2⟩
    · exact⟨{x with len:=L},cur,fz,by simp[E'],ca,k2,by simp;omega,by simp only;omega,k5,k6,k7,k8,fun r hr=>k9 r (hU hr),ik,fun i r j p hi hj=>by
        obtain⟨u,q1,q2⟩:=lE i r j p (xe hi).1 hj;exact⟨u,q1,q2.trans hst⟩⟩
    · have hr:=h.row (by rw[hg];simp) h1
      cases b with
      | box cs=>
        cases b' with
        | box cs'=>
          obtain⟨y,g,cur',e',j1,j2,j3,j4,j5⟩:=hr;refine⟨y,g,cur',e',hN m y hm j1,j2,j3,j4.trans h2.1,fun i c' hi=> ?_⟩;obtain⟨c,q1,q2⟩:=h2.2 i c' hi;obtain⟨u,q3,q4,q5⟩:=j5 i c q1;exact⟨u,q3,hc c c' u q2 q4,q5⟩
        |_=>exact h2.elim
      | row e0 y4=>
        cases b' with
        | row e' bK=>
          obtain⟨rfl,rfl⟩:=h2;obtain⟨y,cur',y7,j1,jf,j2,j3,j4,j5,j6,j7,j8,j9,tS,CG⟩:=hr;exact⟨y,cur',y7,hN m y hm j1,jf,j2,j3,j4,j5,j6,j7,j8,j9,tS,fun i r j p hi hj=>let⟨u,q1,q2⟩:=CG i r j p hi hj; ⟨u,q1,q2.trans hst⟩⟩
        |_=>exact h2.elim
      | map es=>
        cases b' with
        | map es'=>
          obtain⟨y,g,en,clock,j1,j2,j3,j4⟩:=hr;exact⟨y,g,en,clock,hN m y hm j1,j2,j3,j4⟩
        |_=>exact h2.elim}
def V.one:V→Option V1
 | .v x=>some x
 | .aj _=>none
def oo (P:aQ) (st:ak):ResultVar→Option V1
 | .tmp t=> (st.tmps[t]?).bind V.one
 | .cell t ty=>match st.tmps[t]? with
  |some (.v (.c (.ptr n off)))=>match st.heap.lookup n with
   |some (.box cs)=> (kq P ty (cs.drop off)).bind V.one
   |_=>none
  |_=>none
def aDb:List V1→V
 |[x]=> .v x
 |xs=> .aj xs
def sV (P:aQ) (rs:List ResultVar) (st:ak):Option V:=(rs.mapM (oo P st)).map aDb
theorem aah {v:V} {x:V1} (h:v.one=some x):v= .v x:=by cases v<;>simp[V.one]at h;subst h;rfl
def Au (tmps:Array aD):ResultVar→Sem aD
 | .tmp t=>Pure.pure (tmps.getD t undef)
 | .cell t ty=>do loadVar ty (←asAddr (tmps.getD t undef))
theorem aEV (fn:Func) (tmps:Array aD):results fn tmps=(do let vs←fn.results.mapM (Au tmps);Pure.pure (if h:vs.size=1 then vs[0]else .tuple vs)):=by
 rfl
section
variable {X:Fx} {E:Env} {st:ak} {a:Act} {w:av}
theorem avP (h:Rel X E st a w) (hg:st.ao=[]) {rv:ResultVar} {x:V1} (hr:oo X.P st rv=some x):
  ∃u,(Au a.tmps rv).run X.P w= .ok u w∧dq X.M E w x u:=by
 cases rv with
 |tmp t=>
  simp only[oo,gE]at hr;obtain⟨v,h1,h2⟩:=hr;have:=aah h2;subst this;obtain⟨u,h3,h4⟩:=h.tmps t _ h1;exact⟨u,by simp_all[Au],h4⟩
 |cell t ty=>
  simp only[oo]at hr;split at hr
  · rename_i n off ht;obtain⟨u,h3,wk⟩:=h.tmps t _ ht;obtain⟨x',h4,g,h5,h6⟩:=bT.get wk (by rw[h.ao,hg];simp);subst h6;split at hr
    · rename_i cs hl;simp only[gE]at hr;obtain⟨v,h6,h7⟩:=hr;have:=aah h7;subst this;obtain⟨x2,g',cur,e,k3,k0,k4,k5,k6⟩:=h.row (by rw[hg];simp) hl;rw[h4]at k3;cases k3;rw[h5]at k0;cases k0;obtain⟨u,h8,h9⟩:=G8 (P:=X.P) (M:=X.M) (E:=E) (w:=w) (g:=g) (o:=off) h6 (fun j c hj=>by
       rw[kP]at hj;obtain⟨u,j1,j2,j3⟩:=k6 _ c hj;exact⟨u,by rw[cell_of_row w g _ cur e (0,0) k4];exact j1,j2,j3⟩)
      refine⟨u,?_,h9⟩;simp[Au,ug,h3,asAddr,h8]
    · cases hr
  · cases hr
theorem Tj (h:Rel X E st a w) (hg:st.ao=[]):∀(l:List ResultVar) {xs:List V1},l.mapM (oo X.P st)=some xs→
  ∃us:List aD,(l.mapM (Au a.tmps)).run X.P w= .ok us w∧
   us.length=xs.length∧∀(i:Nat) (x:V1),xs[i]? =some x→∃u,us[i]? =some u∧dq X.M E w x u
 |[],xs,hx=>by simp_all
 | rv ::l,xs,hx=>by
  simp only[je]at hx
  cases h1:oo X.P st rv with
  |none=>simp[h1]at hx
  | some x=>
   cases h2:l.mapM (oo X.P st)with
   |none=>simp[h1,h2]at hx
   |some ys=>
    simp[h1,h2]at hx;subst hx;obtain⟨u,h3,h4⟩:=avP h hg h1;obtain⟨us,h5,h6,h7⟩:=Tj h hg l h2;refine⟨u::us,?_,by simp[h6],fun i y hi=> ?_⟩
    · simp_all
    · cases i with
      |zero=>simp at hi;subst hi;exact⟨u,rfl,h4⟩
      |succ i=>simpa using h7 i y (by simpa using hi)
theorem WX (h:Rel X E st a w) (hg:st.ao=[]) {fn:Func} {r:V} (hr:sV X.P fn.results.toList st=some r):∃u,(results fn a.tmps).run X.P w= .ok u w∧RV X.M E w r u:=by
 unfold sV at hr;simp only[aW]at hr;obtain⟨xs,h1,rfl⟩:=hr;obtain⟨us,h2,h3,h4⟩:=Tj h hg _ h1;refine⟨if hh:us.toArray.size=1 then us.toArray[0]else .tuple us.toArray,?_,?_⟩
 · simp_all[aEV,Array.mapM_eq_mapM_toList]
 · cases xs with
   |nil=>
    have:us=[]:=iq (by simpa using h3);subst this;exact⟨#[],by simp,rfl,by simp⟩
   | cons x ys=>
    cases ys with
    | nil=>
     obtain⟨u,h5,h6⟩:=h4 0 x rfl
     cases us with
     |nil=>simp at h3
     |cons u' pJ=>
      have:pJ=[]:=iq (by simpa using h3);subst this;simp at h5;subst h5;show dq X.M E w x _;simpa using h6
    |cons y zs=>
     have:us.length≠1:=by rw[h3];simp
     refine⟨us.toArray,by simp[this],by simp[h3],fun i z hi=> ?_⟩;simp_all
end
def Ql (P:aQ) (rs:List ResultVar) (r:V) (H':Hp) (e:Exit) (st:ak):Prop:=
 (match e with| .normal=>True| .ret=>True|_=>False)∧sV P rs st=some r∧∀n b,H'.lookup n=some b→st.heap.lookup n=some b
def mN (n:Nat) (args:List V1) (H:List cO):ak:=⟨args.map V.v++List.replicate (n-args.length) (.aj []),hp H,[],H.length⟩
theorem eI.intro {P:aQ} {f:FuncId} {fn:Func} {c:Code} (hf:P.funcs[f]? =some fn) (hname:(fn.name== "runtime.NumGoroutine")=false) (hb:fn.body=some c) {n:Nat} (hn:fn.ntmps=n) {rs:List ResultVar} (jB:fn.results=rs.toArray) {args:List V1} {H:List cO} {r:V} {H':Hp}
  (h:∀X:Fx,X.P=P→X.k0=H.length→Aw X c (Ql P rs r H') (mN n args H)):eI P f args H r H' := {
 own:=⟨fn,hf,hname,by rw[hb];rfl⟩
 call :=fun w M N vals hM rD mI nL hH bj hv=>by
  subst hn;have RI:rs=fn.results.toList:=by rw[jB]
  subst RI
  let X:Fx:=⟨P,M,fun g=>∃n x,N n=some x∧x.g=some g,w,N,H.length,[]⟩
  refine calls_of_wp hf hb (wp_mono (h X rfl rfl _ w ?_) ?_)
  · refine⟨⟨N,[]⟩,?_,rfl⟩;exact {
     defers:=rfl
     ao:=rfl
     frame:=Frame.refl _ _
     mlt:=hM
     cR:=rD
     names:=fun n x g h1 h2=> ⟨(mI n x g h1 h2).1,.inl ⟨n,x,h1,h2⟩,(mI n x g h1 h2).2⟩
     inj:=nL
     dw:=fun _ _=> .inr rfl
     fh:=cT _
     fe:=fun n hn=>by cases hn
     size:=by simp[mN,bj]
     tmps :=fun i v hi=>by
      simp only[mN]at hi;rw[ki]at hi;simp only[ax]at hi;split at hi
      · rename_i hlt;simp only[bO,aW]at hi;obtain⟨x,hx,rfl⟩:=hi;obtain⟨u,h1,h2⟩:=hv i x hx;exact⟨u,by rw[oU,au (by rw[bj];exact hlt)];exact h1,h2⟩
      · rename_i hlt;rw[aiF]at hi;split at hi
        · rename_i oG;simp at hi;subst hi;exact⟨undef,by simp only[oU,bj,hlt,if_false,SL,oG,if_true],OB _ _ _⟩
        · cases hi
     heap:=fun n b hl=>by
      simp only[mN,aaN]at hl;exact .inr (hH n b hl)}
  · rintro e a' w' ⟨st',⟨he,hr,RJ⟩,E,hR,hg⟩;obtain⟨u,h1,h2⟩:=WX (X:=X) hR hg hr;have hback:Cu N H.length w w' E:={
     ao:=hR.ao.trans hg
     names:=fun n x g k1 k2=>by
      obtain⟨k3,k4,_⟩:=hR.names n x g k1 k2;exact⟨k3,k4⟩
     inj:=hR.inj
     dw:=hR.dw}
    have H9:∀n b,H'.lookup n=some b→RB P M E w' n b:=fun n b hl=>hR.row (by rw[hg];simp) (RJ n b hl)
    cases e with
    |normal=>exact⟨hR.defers,u,h1,u,E,rfl,hR.frame,hback,H9,h2⟩
    |ret=>exact⟨hR.defers,u,h1,u,E,rfl,hR.frame,hback,H9,h2⟩
    |exit=>exact he.elim
    |goto=>exact he.elim
    |panic=>exact he.elim
    |outgrown=>exact he.elim
 }
end
section
open Go.RowKit
inductive Kd where
 |int (k:bS)|bool|str|sl|ptr|mp|fn|Gz
deriving DecidableEq,Repr,Inhabited
inductive L where
 |i (n:Int)|b (t:Bool)|s (x:cn)|r (rows:List (List PV))|c (cells:List PV)
deriving Inhabited
def L.af:L→Int| .i n=>n|_=>0
def L.br:L→Bool| .b t=>t|_=>false
def L.cv:L→cn| .s x=>x|_=>ByteArray.empty
def L.ah:L→List (List PV)| .r x=>x|_=> []
def L.jl:L→List PV| .c x=>x|_=> []
inductive At where
 |v (n:Nat)|i (n:Int)|b (t:Bool)|s (x:cn)|r0
deriving Inhabited
def At.ev (ρ:List L):At→L
 | .v n=> (ρ[n]?).getD (.b false)
 | .i n=> .i n
 | .b t=> .b t
 | .s x=> .s x
 | .r0=> .r []
def Kd.pv (k:Kd) (l:L):PV:=match k with
 | .int k=> .sc (.int k l.af)
 | .bool=> .sc (.bool l.br)
 | .str=> .sc (.string l.cv)
 | .sl=> .sl l.ah
 | .ptr=> .sc (.pointer none)
 | .mp=> .sc (.map none)
 | .fn=> .sc .nilFunc
 | .Gz=> .sc .nilIface
def Kd.of (k:Kd) (q:PV):Option L:=match k,q with
 | .int k,.sc (.int k' n)=>if k=k' then some (.i n)else none
 | .bool,.sc (.bool t)=>some (.b t)
 | .str,.sc (.string x)=>some (.s x)
 | .sl,.sl rows=>some (.r rows)
 |_,_=>none
theorem Kd.EH {k:Kd} {q:PV} {l:L} (h:k.of q=some l):k.pv l=q:=by
 unfold Kd.of at h;split at h
 · split at h
   · rename_i hk;subst hk;cases h;rfl
   · cases h
 all_goals first| (cases h;rfl)|cases h
inductive SC where
 |p (k:Kd) (x:At)
 |nil
 |own (n:Nat)
 |sub (n:Nat) (lo len:At)
 |ptr (n off:Nat)
 |gg (n off bM m:Nat) (i:At)
 |cB (n:Nat) (i:At) (j:Nat)
 |ref (x:At) (j:Nat)
 |fn (f:FuncId) (cQ:List Nat)
 |mp (n:Nat)
 |dead
deriving Inhabited
def SC.aa (ρ:List L):SC→C
 | .p k x=> .p (k.pv (x.ev ρ))
 | .nil=> .nil
 | .own n=> .own n
 | .sub n lo len=> .sub n (lo.ev ρ).af.toNat (len.ev ρ).af.toNat
 | .ptr n off=> .ptr n off
 | .gg n off _ m i=> .ptr n (off+(i.ev ρ).af.toNat*m)
 | .cB n i j=> .cB n (i.ev ρ).af.toNat j
 | .ref x j=> .ref ((x.ev ρ).jl.drop j)
 | .fn f cQ=> .fn f cQ
 | .mp n=> .mp n
 | .dead=> .dead
inductive aB where
 |c (c:SC)
 |agg (cs:List SC)
deriving Inhabited
inductive SV where
 |v (x:aB)
 |aj (xs:List aB)
deriving Inhabited
inductive SB where
 |box (cs:List SC)
 |row (e:aw) (x:At)
 |map
deriving Inhabited
def aB.aa (ρ:List L):aB→V1
 | .c y=> .c (y.aa ρ)
 | .agg cs=> .agg (cs.map (SC.aa ρ))
def SV.aa (ρ:List L):SV→V
 | .v x=> .v (x.aa ρ)
 | .aj xs=> .aj (xs.map (aB.aa ρ))
def SB.aa (ρ:List L):SB→cO
 | .box cs=> .box (cs.map (SC.aa ρ))
 | .row e x=> .row e (x.ev ρ).ah
 | .map=> .map []
abbrev cb:=List (Nat×SB)
def cb.aa (ρ:List L) (h:cb):Hp:=h.map fun x=> (x.1,x.2.aa ρ)
structure fO where
 jk:cb
 ao:List Nat
def fO.aa (ρ:List L) (e:fO):dB:=⟨e.jk.aa ρ,e.ao⟩
structure ag where
 tmps:List SV
 heap:cb
 ao:List Nat
 next:Nat
 nv:Nat
deriving Inhabited
def ag.aa (ρ:List L) (S:ag):ak:=⟨S.tmps.map (SV.aa ρ),S.heap.aa ρ,S.ao,S.next⟩
theorem cb.Hv (ρ:List L) (h:cb) (n:Nat):List.lookup n (h.aa ρ)=(List.lookup n h).map (SB.aa ρ):=by
 induction h with
 |nil=>rfl
 |cons x h ih=>
  obtain⟨k,b⟩:=x;simp only[cb.aa,bC,eR]at ih⊢;split
  · rfl
  · exact ih
def SC.names:SC→List Nat
 | .own n=> [n]| .sub n _ _=> [n]| .ptr n _=> [n]| .gg n _ _ _ _=> [n]| .cB n _ _=> [n]| .mp n=> [n]| .fn _ cQ=>cQ|_=> []
def aB.names:aB→List Nat
 | .c x=>x.names
 | .agg xs=>xs.flatMap SC.names
def SV.names:SV→List Nat
 | .v x=>x.names
 | .aj xs=>xs.flatMap aB.names
def SB.names:SB→List Nat
 | .box cs=>cs.flatMap SC.names
 |_=> []
theorem SC.mQ (ρ:List L) (c:SC):(c.aa ρ).names=c.names:=by cases c<;>rfl
theorem SC.aeo (ρ:List L) (cs:List SC):(cs.map (SC.aa ρ)).flatMap C.names=cs.flatMap SC.names:=by
 induction cs with
 |nil=>rfl
 |cons c cs ih=>simp only[bC,List.flatMap_cons,SC.mQ,ih]
theorem aB.mQ (ρ:List L) (x:aB):(x.aa ρ).names=x.names:=by
 cases x with
 |c c=>exact SC.mQ ρ c
 |agg cs=>exact SC.aeo ρ cs
theorem SV.mQ (ρ:List L) (x:SV):(x.aa ρ).names=x.names:=by
 cases x with
 |v x=>exact aB.mQ ρ x
 |aj xs=>
  show(xs.map (aB.aa ρ)).flatMap V1.names=xs.flatMap aB.names
  induction xs with
  |nil=>rfl
  |cons c cs ih=>simp only[bC,List.flatMap_cons,aB.mQ,ih]
def SC.nX:SC→Bool
 | .dead=>true
 |_=>false
def SV.nX:SV→Bool
 | .v (.c c)=>c.nX
 |_=>false
def SV.live (ao:List Nat) (v:SV):Bool:= !v.nX&&v.names.all fun n=> !ao.contains n
theorem SV.adz (ρ:List L) (g:List Nat) (x:SV):(x.aa ρ).live g=x.live g:=by
 unfold V.live SV.live;rw[SV.mQ];congr 1
 cases x with
 |v x=>
  cases x with
  |c c=>cases c<;>rfl
  |agg=>rfl
 |aj=>rfl
def KQ:aD→SC
 | .slice none 0 0=> .nil
 | .int k n=> .p (.int k) (.i n)
 | .bool t=> .p .bool (.b t)
 | .string x=> .p .str (.s x)
 | .pointer none=> .p .ptr .r0
 | .map none=> .p .mp .r0
 | .nilFunc=> .p .fn .r0
 | .nilIface=> .p .Gz .r0
 |_=> .dead
def uD:aD→Bool
 | .slice none 0 0=>true
 | .int _ _=>true| .bool _=>true| .string _=>true| .pointer none=>true| .map none=>true| .nilFunc=>true| .nilIface=>true
 |_=>false
theorem aeG (ρ:List L) {v:aD} (h:uD v=true):(KQ v).aa ρ=jS v:=by
 unfold uD at h;split at h<;>first|rfl|cases h
def Fv:aD→Option aB
 | .agg us=>if us.toList.all uD then some (.agg (us.toList.map KQ))else none
 | .func (.func f) first captured=>if first.size=0∧captured.size=0 then some (.c (.fn f []))else none
 |v=>if uD v then some (.c (KQ v))else none
theorem aEC {v:aD} (h:uD v=true):v.oneCell'=true:=by
 unfold uD at h;split at h<;>first|rfl|cases h
theorem aus (ρ:List L) {v:aD} {x:aB} (h:Fv v=some x):x.aa ρ=ofValue v:=by
 unfold Fv at h;split at h
 · rename_i us;split at h
   · rename_i hall;cases h;simp only[bk]at hall;simp only[aB.aa,ofValue];rw[au (by simp only[bk];exact fun u hu=>aEC (hall u hu))];simp only[iP];congr 1;apply gO;intro u hu;exact aeG ρ (hall u hu)
   · cases h
 · split at h
   · rename_i hc;cases h;simp only[ofValue,au hc];rfl
   · cases h
 · rename_i v' h1 h2;split at h
   · rename_i hk;cases h;simp only[aB.aa,aeG ρ hk];unfold uD at hk;split at hk<;>first|rfl|cases hk
   · cases h
def ag.arg (S:ag):aM→Option SV
 | .tmp t=>match S.tmps[t]? with
  |some x=>if x.live S.ao then some x else none
  |none=>none
 | .const v=>match Fv v with
  |some x=>if(SV.v x).live S.ao then some (.v x)else none
  |none=>none
 | .func f=>some (.v (.c (.fn f [])))
 | .global _=>none
theorem ag.bL (ρ:List L) {S:ag} {x:aM} {v:SV} (h:S.arg x=some v):(S.aa ρ).arg x=some (v.aa ρ):=by
 cases x with
 |tmp t=>
  simp only[ag.arg]at h;split at h
  · rename_i y hy;split at h
    · rename_i hl;cases h;simp only[ak.arg,ag.aa,bO,hy,aJ,SV.adz,hl,if_true]
    · cases h
  · cases h
 |const u=>
  simp only[ag.arg]at h;split at h
  · rename_i y hy;split at h
    · rename_i hl;cases h;have h1:=aus ρ hy;have h2:=SV.adz ρ S.ao (.v y);simp only[SV.aa,h1,hl]at h2;simp only[ak.arg,SV.aa,h1];exact au h2
    · cases h
  · cases h
 |func f=>simp only[ag.arg]at h;cases h;rfl
 |global=>cases h
end
end
end Go.Proofs.YtndegphojkiblaaGreatDoor
