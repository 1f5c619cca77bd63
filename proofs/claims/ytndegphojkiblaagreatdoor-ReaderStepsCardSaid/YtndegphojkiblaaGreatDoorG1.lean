/- A part. -/
import Derived.WalkKit
import Derived.WalkSpells
import Derived.WalkLawsBesides
import Derived.Below
import Derived.IntWalk
import Derived.Laws.AppendOwn
import Derived.Laws.MakeOwn
import Derived.Laws.OwnMore
set_option linter.all false
set_option maxHeartbeats 4000000
set_option maxRecDepth 100000
namespace Go.Proofs.YtndegphojkiblaaGreatDoor
noncomputable section
abbrev bC:=@List.length_map
abbrev bF:=@if_pos
abbrev bO:=@if_neg
abbrev bS:=@Option.map_some
abbrev bY:=@Option.map_eq_some_iff
abbrev cd:=@Bool.and_eq_true
abbrev cg:=TypeId
abbrev cj:=@List.all_eq_true
abbrev cp:=World
abbrev cr:=Value
abbrev ct:=@List.map_cons
abbrev cD:=Program
abbrev cF:=Operand
abbrev cN:=@List.getElem?_map
abbrev cO:=@congrArg
abbrev cT:=@List.getElem_mem
abbrev cW:=@List.getElem?_eq_getElem
abbrev dj:=@decide_eq_true_eq
abbrev dn:=@List.mem_cons
abbrev dp:=@List.map_nil
abbrev dx:=@Nat.le_refl
abbrev dB:=@List.mem_of_getElem?
abbrev dH:=IntKind
abbrev dW:=@List.getElem?_eq_some_iff
abbrev dZ:=@of_decide_eq_true
abbrev ez:=@List.length_append
abbrev eA:=@List.length_take
abbrev eB:=@List.map_append
abbrev eJ:=@List.mem_cons_self
abbrev eM:=@Classical.not_not
abbrev eR:=@of_decide_eq_false
abbrev eU:=@List.append_assoc
abbrev eV:=@List.mem_map
abbrev fo:=@List.mem_append
abbrev fp:=@List.mem_cons_of_mem
abbrev fx:=@Array.getElem?_eq_some_iff
abbrev fy:=ByteArray
abbrev fM:=@Int.toNat_natCast
abbrev fO:=@List.mem_singleton
abbrev fX:=@Nat.mul_le_mul_right
abbrev gk:=@Nat.zero_le
abbrev gA:=@List.cons_append
abbrev gC:=@List.nil_append
abbrev gS:=@Option.getD_some
abbrev gV:=@Option.bind_eq_some_iff
abbrev gW:=@List.take_succ_eq_append_getElem
abbrev gX:=@List.take_of_length_le
abbrev hX:=@List.lookup_cons
abbrev hZ:=@Bool.eq_iff_iff
abbrev h_:=@List.map_map
abbrev ia:=@List.map_congr_left
abbrev iw:=@List.length_drop
abbrev iE:=@List.getElem_of_mem
abbrev iQ:=@Option.some.injEq
abbrev iR:=@List.mem_of_mem_take
abbrev iS:=@List.not_mem_nil
abbrev iT:=@List.take_length
abbrev ju:=@List.append_nil
abbrev jX:=@List.eq_nil_of_length_eq_zero
abbrev jY:=@Nat.add_mul
abbrev jZ:=@List.mem_range
abbrev kH:=@List.length_cons
abbrev lu:=@Classical.byContradiction
abbrev lZ:=@List.getElem?_append
abbrev l_:=@Nat.add_zero
abbrev ma:=@List.pairwise_cons
abbrev mO:=@Nat.lt_of_lt_of_le
abbrev mQ:=@Nat.zero_add
abbrev mT:=@List.length_replicate
abbrev mU:=@List.pairwise_iff_getElem
abbrev mW:=@List.map_take
abbrev nR:=@List.lookup_nil
abbrev nS:=@Nat.succ_mul
abbrev nT:=@Array.toList_inj
abbrev nU:=@List.mapM_cons
abbrev nV:=@List.getElem?_append_right
abbrev nX:=@List.map_drop
abbrev o_:=@Bool.not_eq_true'
abbrev pa:=@List.mem_of_mem_drop
abbrev pb:=@List.getElem?_drop
abbrev pd:=@Array.getElem?_eq_getElem
abbrev pf:=@Option.some.inj
abbrev pg:=@Nat.eq_of_beq_eq_true
abbrev ph:=@List.mem_filter
abbrev qo:=@Nat.le_trans
abbrev qp:=@Bool.false_eq_true
abbrev qq:=@List.mem_append_right
abbrev qs:=@Nat.lt_or_ge
abbrev qt:=@List.size_toArray
abbrev qu:=@Bool.or_eq_true
abbrev qv:=@List.drop_eq_nil_of_le
abbrev qw:=@Int.le_trans
abbrev so:=@List.mem_flatMap
abbrev sq:=@List.mem_append_left
abbrev sr:=@List.getElem?_take
abbrev su:=@List.length_nil
abbrev sv:=@List.ext_getElem?
abbrev sx:=@List.mem_filterMap
abbrev sy:=@List.getElem?_append_left
abbrev sA:=@List.drop_eq_getElem_cons
abbrev sB:=@List.getElem?_cons_zero
abbrev sC:=@List.length_singleton
abbrev sD:=@Nat.not_lt_zero
abbrev sE:=@List.getD_eq_getElem?_getD
abbrev u5:=@Array.getD_eq_getD_getElem?
abbrev u6:=@decide_eq_false_iff_not
abbrev u7:=@Nat.min_eq_left
abbrev u9:=@List.getElem?_range
abbrev u_:=@List.map_replicate
abbrev va:=@Nat.le_succ
abbrev xD:=@Option.isSome_iff_exists
abbrev xE:=@Nat.lt_succ_self
abbrev xG:=@Int.toNat_zero
abbrev xH:=@Nat.lt_succ_of_lt
abbrev Bl:=@Nat.add_assoc
abbrev Bm:=@Nat.sub_self
abbrev Bp:=@List.getElem?_toArray
abbrev Bq:=@Array.size_append
abbrev Br:=@Int.toNat_of_nonneg
abbrev Bs:=@Array.getElem?_append
abbrev Bt:=@List.any_eq_true
abbrev Bu:=@List.drop_zero
abbrev Bv:=@List.contains_eq_mem
abbrev Bw:=@Int.tdiv_eq_ediv_of_nonneg
abbrev Bx:=@Int.tmod_eq_emod_of_nonneg
abbrev Bz:=@BitVec.toNat_ofInt
abbrev BA:=@List.getElem?_set_ne
abbrev BB:=@List.range_succ
abbrev BC:=@Nat.xor_lt_two_pow
abbrev GR:=@Option.map_map
abbrev GS:=@Int.le_refl
abbrev GU:=@List.mem_replicate
abbrev GW:=@Nat.mod_eq_of_lt
abbrev GX:=@Nat.lt_trichotomy
abbrev GY:=@List.cons.injEq
abbrev GZ:=@Option.bind_some
abbrev G0:=@List.eq_of_mem_replicate
abbrev G1:=@Int.fdiv_eq_ediv_of_nonneg
abbrev G2:=@List.length_set
abbrev G3:=@List.Perm.refl
abbrev G4:=@List.getElem?_set_self
abbrev G5:=@Nat.pow_le_pow_right
abbrev G6:=@Nat.le_of_ble_eq_true
abbrev P1:=@List.getElem?_set
abbrev P2:=@Array.getElem?_toList
abbrev P3:=@Array.eq_empty_of_size_eq_zero
abbrev P4:=@List.exists_cons_of_ne_nil
abbrev P5:=@Array.length_toList
abbrev P6:=@Nat.mul_comm
abbrev P7:=@Nat.mul_one
abbrev P8:=@Array.getElem?_modify
abbrev P9:=@Nat.ne_of_gt
abbrev P_:=@Nat.mul_pos
abbrev P':=@List.all_cons
abbrev Qa:=@List.take_succ_cons
abbrev Qb:=@List.getElem?_cons_succ
abbrev Qc:=@Int.ediv_nonneg
abbrev Qd:=@Nat.mul_le_mul
abbrev Qe:=@Nat.shiftRight_eq_div_pow
abbrev Qf:=@List.foldl_append
abbrev Qg:=@Array.replicate_succ
abbrev Qh:=@Array.replicate_zero
abbrev Qi:=@List.push_toArray
abbrev Qj:=@List.append_toArray
abbrev Qk:=@Nat.add_sub_cancel
abbrev Ql:=@List.ext_getElem
abbrev Qm:=@Int.ofNat_inj
abbrev Qn:=@Bool.eq_false_iff
abbrev Qo:=@List.count_append
abbrev Qp:=@List.set_set
abbrev acS:=@Array.getElem?_setIfInBounds
abbrev acT:=@List.zipIdx_cons
abbrev acU:=@List.foldl_cons
abbrev acV:=@Array.toList_map
abbrev acW:=@Array.mem_of_getElem?
abbrev acX:=@Nat.mul_add_mod
abbrev acY:=@Nat.min_le_left
abbrev acZ:=@Nat.le_add_right
abbrev ada:=@List.getElem?_replicate
abbrev adb:=@Option.ite_none_right_eq_some
abbrev ade:=@List.take_replicate
abbrev adf:=@Int.ediv_le_ediv
abbrev adg:=@Int.ediv_le_self
abbrev adh:=@Int.tmod_lt_of_pos
abbrev adi:=@BitVec.toNat_and
abbrev adj:=@Option.map_none
abbrev adk:=@List.isEmpty_iff
abbrev adl:=@List.getElem?_eq_none
abbrev adm:=@Int.cast_ofNat_Int
abbrev adn:=@Nat.shiftLeft_eq
abbrev ado:=@List.set_cons_zero
abbrev adp:=@List.mem_reverse
abbrev adq:=@Bool.eq_false_or_eq_true
section
open Go.RowKit
theorem om{P:Prop}(h:P:=by omega):P:=h
theorem dc{P:Prop}(h:P:=by decide):P:=h
theorem kr{P:Prop}(h:P:=by kernel_rfl):P:=h
inductive PV where
 |sc (v:cr)
 |sl (rows:List (List PV))
deriving Inhabited
def flat:cr->Bool
 |.bool _| .int _ _| .float _ _| .complex _ _ _| .string _| .pointer none| .map none| .nilFunc| .nilIface=>true
 |_=>false
abbrev fJ:=Nat->Prop
def ff(n:Nat)(rows:List (List PV)):Prop:=∀r∈rows,r.length=n
inductive RP(M:fJ)(w:cp):PV->cr->Prop
 |sc {v:cr} (h:flat v=true):RP M w (.sc v) v
 |nil {A:Option Addr} {cap:Nat}:RP M w (.sl []) (.slice A 0 cap)
 |row {rows:List (List PV)} {g o cap sz:Nat} {f:Nat->Nat->cr} (h0:rows≠ []) (hl:rows.length<=cap) (hm:cap<=maxLen)
  (hs:∀r∈rows,r.length=sz)
  (hc:∀(i:Nat)(r:List PV)(j:Nat)(p:PV),rows[i]?=some r->r[j]?=some p->w.cell? ⟨g,o+i*sz+j,none⟩=some (f i j)/\¬M g)
  (hp:∀(i:Nat)(r:List PV)(j:Nat)(p:PV),rows[i]?=some r->r[j]?=some p->RP M w p (f i j)):
  RP M w (.sl rows) (.slice (some ⟨g,o,none⟩) rows.length cap)
theorem awM{v}(h:flat v=true):v.oneCell'=true:=by cases v<;>simp_all [flat,Value.oneCell']
theorem RP.rh{M w p v}(h:RP M w p v):v.oneCell'=true:=by
 cases h with
 |sc h=>exact awM h
 |nil=>rfl
 |row=>rfl
def iP(M b:fJ)(w w':cp):Prop:=∀g o u,w.cell? ⟨g,o,none⟩=some u->¬M g->w'.cell? ⟨g,o,none⟩=some u/\¬b g
theorem RP.trans{M m w w' p v}(h:RP M w p v)(q:iP M m w w'):RP m w' p v:=by
 induction h with
 |sc h=>exact .sc h
 |nil=>exact .nil
 |row t u A B o hp ih=>exact .row t u A B (λi r j p d k=>q _ _ _ (o i r j p d k).1 (o i r j p d k).2) (λi r j p d k=>ih i r j p d k)
theorem RP.ei{M w u v}(h:RP M w (.sc u) v):v=u:=by cases h;rfl
def Rows(M:fJ)(w:cp)(rows:List (List PV))(v:cr):Prop:=
 (rows=[]/\∃A cap,v=.slice A 0 cap)\/∃(g o cap sz:Nat)(f:Nat->Nat->cr),v=.slice (some ⟨g,o,none⟩) rows.length cap/\rows≠ []/\rows.length<=cap/\cap<=maxLen/\ff sz rows/\
  ∀(i:Nat)(r:List PV)(j:Nat)(p:PV),rows[i]?=some r->r[j]?=some p->w.cell? ⟨g,o+i*sz+j,none⟩=some (f i j)/\RP M w p (f i j)
theorem RP.rows{M w rows v}(h:RP M w (.sl rows) v):Rows M w rows v:=by
 cases h with
 |nil=>exact .inl ⟨rfl,_,_,rfl⟩
 |row m o q t u hp=>exact .inr ⟨_,_,_,_,_,rfl,m,o,q,t,λi r j p d k=>⟨(u i r j p d k).1,hp i r j p d k⟩⟩
inductive C where
 |p (p:PV)
 |nil
 |own (n:Nat)
 |sub (n lo len:Nat)
 |ptr (n off:Nat)
 |dy (n i j:Nat)
 |ref (cells:List PV)
 |fn (f:FuncId) (dE:List Nat)
 |mp (n:Nat)
 |dead
deriving Inhabited
inductive V1 where
 |c (c:C)
 |agg (cs:List C)
deriving Inhabited
inductive V where
 |v (x:V1)
 |bq (xs:List V1)
deriving Inhabited
inductive eD where
 |box (cs:List C)
 |row (e:cg) (rows:List (List PV))
 |map (es:List (cr×List PV))
deriving Inhabited
abbrev Hp:=List (Nat×eD)
structure Nm where
 g:Option Nat
 len:Nat
 cap:Nat
 sz:Nat
structure Env where
 N:Nat->Option Nm
 bt:List Nat
def bad(M:fJ)(E:Env):fJ:=λg=>M g\/∃n x,E.N n=some x/\x.g=some g
def cS(E:Env)(n:Nat)(Q:Nm->Prop):Prop:=n∈E.bt\/∃x,E.N n=some x/\Q x
def RC(M:fJ)(E:Env)(w:cp):C->cr->Prop
 |.p p,v=>RP (bad M E) w p v
 |.nil,v=>v=.slice none 0 0
 |.own n,v=>cS E n λx=>v=.slice (x.g.map λg=>⟨g,0,none⟩) x.len x.cap
 |.sub n b len,v=>cS E n λx=>b+len<=x.len/\∃A,v=.slice A len (x.cap-b)/\(x.cap≠b\/b=0->A=x.g.map λg=>⟨g,b*x.sz,none⟩)
 |.ptr n off,v=>cS E n λx=>∃g,x.g=some g/\v=.pointer (some ⟨g,off,none⟩)
 |.dy n i j,v=>cS E n λx=>i<x.len/\∃g,x.g=some g/\v=.pointer (some ⟨g,i*x.sz+j,none⟩)
 |.ref cells,v=>∃g o,v=.pointer (some ⟨g,o,none⟩)/\∀(j:Nat)(p:PV),cells[j]?=some p->∃u,w.cell? ⟨g,o+j,none⟩=some u/\¬bad M E g/\RP (bad M E) w p u
 |.fn f dE,v=>∃us:Array cr,v=.func (.func f) #[] us/\us.size=dE.length/\∀(i n:Nat),dE[i]?=some n->∃u,us[i]?=some u/\cS E n λx=>∃g,x.g=some g/\u=.pointer (some ⟨g,0,none⟩)
 |.mp n,v=>cS E n λx=>∃g,x.g=some g/\v=.map (some g)
 |.dead,_=>True
def dR(M:fJ)(E:Env)(w:cp):V1->cr->Prop
 |.c c,v=>RC M E w c v
 |.agg cs,v=>∃us:Array cr,v=.agg us/\us.size=cs.length/\∀(i:Nat)(c:C),cs[i]?=some c->∃u,us[i]?=some u/\RC M E w c u/\u.oneCell'=true
def RV(M:fJ)(E:Env)(w:cp):V->cr->Prop
 |.v x,v=>dR M E w x v
 |.bq xs,v=>∃us:Array cr,v=.tuple us/\us.size=xs.length/\∀(i:Nat)(x:V1),xs[i]?=some x->∃u,us[i]?=some u/\dR M E w x u
def mr(n:Nat)(b:Nat×Nat):Prop:=b=(0,0)\/n<=b.1
def RB(P:cD)(M:fJ)(E:Env)(w:cp)(n:Nat):eD->Prop
 |.box cs=>∃x g b e,E.N n=some x/\x.g=some g/\w.heap[g]?=some (.cells b e (0,0))/\b.size=cs.length/\
  ∀(i:Nat)(c:C),cs[i]?=some c->∃u,b[i]?=some u/\RC M E w c u/\u.oneCell'=true
 |.row e rows=>∃x b d,E.N n=some x/\mr b.size d/\(∀g,x.g=some g->w.heap[g]?=some (.cells b e d))/\x.len=rows.length/\x.len<=x.cap/\x.cap<=maxLen/\0<x.sz/\x.sz=P.cellsOf e/\b.size=x.cap*x.sz/\ff x.sz rows/\(x.g=none->x.cap=0)/\
  ∀(i:Nat)(r:List PV)(j:Nat)(p:PV),rows[i]?=some r->r[j]?=some p->∃u,b[i*x.sz+j]?=some u/\RP (bad M E) w p u
 |.map _=>∃x g f clock,E.N n=some x/\x.g=some g/\w.heap[g]?=some (.map f clock)/\∀m∈f.toList,∃z,m.key=.int .u64 z
structure gL(M:fJ)(E E':Env)(w w':cp):Prop where
 cell:iP (bad M E) (bad M E') w w'
 name:∀n x,E.N n=some x->n∈E'.bt\/E'.N n=some x
 bt:∀n,n∈E.bt->n∈E'.bt
section
variable{M:fJ}{E E':Env}{w w':cp}
theorem RP.goes(d:gL M E E' w w'){p v}(h:RP (bad M E) w p v):RP (bad M E') w' p v:=h.trans d.cell
theorem cS.goes(k:gL M E E' w w'){n Q}(h:cS E n Q):cS E' n Q:=by
 rcases h with h| ⟨x,m,o⟩
 .exact .inl (k.bt n h)
 .rcases k.name n x m with d|d
  .exact .inl d
  .exact .inr ⟨x,d,o⟩
theorem RC.goes(d:gL M E E' w w'){c v}(h:RC M E w c v):RC M E' w' c v:=by
 cases c with
 |p p=>exact RP.goes d h
 |nil=>exact h
 |own n=>exact cS.goes d h
 |sub n F len=>exact cS.goes d h
 |ptr n off=>exact cS.goes d h
 |dy n i j=>exact cS.goes d h
 |ref cells=>
  obtain⟨g,o,q,t⟩:=h;refine⟨g,o,q,λj p B=>?_⟩;obtain⟨u,k,m,A⟩:=t j p B;exact⟨u,(d.cell _ _ _ k m).1,(d.cell _ _ _ k m).2,RP.goes d A⟩
 |fn f dE=>
  obtain⟨us,q,t,k⟩:=h;exact⟨us,q,t,λi n D=>let⟨u,m,A⟩:=k i n D; ⟨u,m,A.goes d⟩⟩
 |mp n=>exact cS.goes d h
 |dead=>trivial
theorem dR.goes(d:gL M E E' w w'){x v}(h:dR M E w x v):dR M E' w' x v:=by
 cases x with
 |c c=>exact RC.goes d h
 |agg cs=>
  obtain⟨us,k,m,o⟩:=h;exact⟨us,k,m,λi c q=>let⟨u,t,A,B⟩:=o i c q; ⟨u,t,A.goes d,B⟩⟩
theorem RV.goes(d:gL M E E' w w'){x v}(h:RV M E w x v):RV M E' w' x v:=by
 cases x with
 |v x=>exact dR.goes d h
 |bq xs=>
  obtain⟨us,k,m,o⟩:=h;exact⟨us,k,m,λi c q=>let⟨u,t,A⟩:=o i c q; ⟨u,t,A.goes d⟩⟩
theorem RB.goes{P}(t:gL M E E' w w'){n}(Q:n∉E'.bt)(A:∀x g,E.N n=some x->x.g=some g->w'.heap[g]?=w.heap[g]?){b}(h:RB P M E w n b):RB P M E' w' n b:=by
 have B:∀x,E.N n=some x->E'.N n=some x:=λx R=>(t.name n x R).resolve_left Q
 cases b with
 |box cs=>
  obtain⟨x,g,k,e,d,m,o,q,D⟩:=h;exact⟨x,g,k,e,B x d,m,(A x g d m).trans o,q,λi c F=>let⟨u,G,H,I⟩:=D i c F; ⟨u,G,H.goes t,I⟩⟩
 |row e rows=>
  obtain⟨x,k,S,d,J,o,q,D,G,H,K,I,T,N,U⟩:=h;exact⟨x,k,S,B x d,J,λg O=>(A x g d O).trans (o g O),q,D,G,H,K,I,T,N,λi r j p F W=>let⟨u,k1,k2⟩:=U i r j p F W; ⟨u,k1,k2.goes t⟩⟩
 |map Z=>
  obtain⟨x,g,Y,clock,d,m,o,q⟩:=h;exact⟨x,g,Y,clock,B x d,m,(A x g d m).trans o,q⟩
end
structure Frame(K:fJ)(w w':cp):Prop where
 os:w'.os=w.os
 tape:w'.tape=w.tape
 output:w'.output=w.output
 size:w.heap.size<=w'.heap.size
 block:∀g,g<w.heap.size->¬K g->w'.heap[g]?=w.heap[g]?
theorem Frame.refl(K)(w):Frame K w w:=⟨rfl,rfl,rfl,dx _,λ_ _ _=>rfl⟩
theorem Frame.trans{K K' a b c}(h:Frame K a b)(k:Frame K' b c)(o:∀g,g<a.heap.size->K' g->K g):Frame K a c:=
 ⟨k.os.trans h.os,k.tape.trans h.tape,k.output.trans h.output,qo h.size k.size,λg d m=>
  (k.block g (mO d h.size) λq=>m (o g d q)).trans (h.block g d m)⟩
theorem Frame.Ez{K w w'}(h:Below w.heap.size w w'):Frame K w w':=⟨h.os,h.tape,h.output,h.size,λg d _=>h.block g d⟩
structure bz where
 tmps:List V
 heap:Hp
 bt:List Nat
 next:Nat
structure Fx where
 P:cD
 M:fJ
 K:fJ
 w0:cp
 N0:Nat->Option Nm
 k0:Nat
 D:List Deferred
structure Rel(X:Fx)(E:Env)(st:bz)(a:Act)(w:cp):Prop where
 defers:a.defers=X.D
 bt:E.bt=st.bt
 frame:Frame X.K X.w0 w
 eW:∀g,X.M g->g<X.w0.heap.size
 dD:∀n x,E.N n=some x->n<st.next
 names:∀n x g,E.N n=some x->x.g=some g->g<w.heap.size/\(X.K g\/X.w0.heap.size<=g)/\¬X.M g
 inj:∀n m x y g,E.N n=some x->E.N m=some y->x.g=some g->y.g=some g->n=m
 ec:∀m,m<X.k0->E.N m=none\/E.N m=X.N0 m
 fQ:X.k0<=st.next
 fK:∀n∈st.bt,n<st.next
 size:a.tmps.size=st.tmps.length
 tmps:∀(i:Nat)(v:V),st.tmps[i]?=some v->∃u,a.tmps[i]?=some u/\RV X.M E w v u
 heap:∀n b,st.heap.lookup n=some b->n∈st.bt\/RB X.P X.M E w n b
def bz.put(st:bz)(d:Option Nat)(v:V):bz:=
 match d with
 |some d=> {st with tmps:=st.tmps.set d v}
 |none=>st
theorem Rel.put{X E st a w}(h:Rel X E st a w)(d){v u}(o:RV X.M E w v u):Rel X E (st.put d v) (a.put d u) w:=by
 cases d with
 |none=>exact h
 |some d=>
  refine{h with size:=by simp[Act.put,bz.put,h.size],tmps:= ?_,defers:=h.defers,heap:=h.heap,bt:=h.bt};intro i x k;simp only[bz.put,P1]at k;simp only[Act.put,acS];split at k
  .rename_i m;subst m;split at k
   .rename_i q;simp at k;subst k;exact⟨u,by simp[h.size,q],o⟩
   .cases k
  .rename_i m;obtain⟨t,A,B⟩:=h.tmps i x k;exact⟨t,by simp[m,A],B⟩
structure im where
 jl:Hp
 bt:List Nat
def bz.dQ(st:bz)(e:im):bz:={st with heap:=e.jl++st.heap,bt:=e.bt++st.bt}
theorem Wz(n)(a b:Hp):List.lookup n (a++b)=(List.lookup n a).or (List.lookup n b):=by
 induction a with
 |nil=>simp
 |cons x a ih=>
  obtain⟨k,c⟩:=x;simp only[gA,hX];split<;>simp[ih]
theorem Rel.step{X E E' st a w w'}(h:Rel X E st a w)(e){nx}(e7:st.next<=nx)(hG:gL X.M E E' w w')(hg:E'.bt=e.bt++st.bt)(hF:Frame X.K X.w0 w')
 (hnl:∀n x,E'.N n=some x->n<nx)
 (hnm:∀n x g,E'.N n=some x->x.g=some g->g<w'.heap.size/\(X.K g\/X.w0.heap.size<=g)/\¬X.M g)
 (awW:∀n m x y g,E'.N n=some x->E'.N m=some y->x.g=some g->y.g=some g->n=m)
 (uK:∀m,m<X.k0->E'.N m=none\/E'.N m=E.N m)
 (hgn:∀n∈e.bt,n<nx)
 (hold:∀n x g,E.N n=some x->x.g=some g->n∉E'.bt->e.jl.lookup n=none->w'.heap[g]?=w.heap[g]?)
 (awX:∀n b,e.jl.lookup n=some b->n∈E'.bt\/RB X.P X.M E' w' n b):Rel X E' {st.dQ e with next:=nx} a w' where
 defers:=h.defers
 bt:=hg
 frame:=hF
 eW:=h.eW
 dD:=hnl
 names:=hnm
 inj:=awW
 ec:=λm hm=>by
  rcases uK m hm with h1|h1
  .exact .inl h1
  .rw[h1];exact h.ec m hm
 fQ:=qo h.fQ e7
 fK:=λn hn=>by
  rcases fo.1 hn with h1|h1
  .exact hgn n h1
  .exact mO (h.fK n h1) e7
 size:=h.size
 tmps:=λi v hi=>let⟨u,h1,h2⟩:=h.tmps i v hi; ⟨u,h1,h2.goes hG⟩
 heap :=λn b hl=>by
  simp only[bz.dQ,Wz]at hl;show n∈e.bt++st.bt\/_;rw[<-hg]
  cases hu:e.jl.lookup n with
  |some b'=>
   rw[hu]at hl;simp at hl;subst hl;exact awX n b' hu
  |none=>
   rw[hu]at hl;by_cases hn:n∈E'.bt
   .exact .inl hn
   .rcases h.heap n b hl with h1|h1
    .exact absurd (hG.bt n (by rw[h.bt];exact h1)) hn
    .exact .inr (h1.goes hG hn (λx g hx hg=>hold n x g hx hg hn hu))
theorem UC{M E E' w w'}(hB:∀g,g<w.heap.size->w'.heap[g]?=w.heap[g]?)(hM:∀g,g<w.heap.size->bad M E' g->bad M E g)
 (hN:∀n x,E.N n=some x->n∈E'.bt\/E'.N n=some x) (hg:∀n,n∈E.bt->n∈E'.bt):gL M E E' w w' where
 cell:=λg o u h1 h2=>by
  have hlt:=World.block_lt_of_cell? w ⟨g,o,none⟩ h1;exact⟨(World.cell?_of_block (w:=w) (a:=⟨g,o,none⟩) (hB g hlt)).trans h1,λh3=>h2 (hM g hlt h3)⟩
 name:=hN
 bt:=hg
theorem Rel.drew{X E st a w}(h:Rel X E st a w):Rel X E st a w.drew:=by
 have k:gL X.M E E w w.drew:=UC (λ_ _=>rfl) (λ_ _ h=>h) (λ_ _ h=>.inr h) (λ_ h=>h)
 exact{h with
  frame:=⟨h.frame.os,h.frame.tape,h.frame.output,h.frame.size,h.frame.block⟩
  defers:=h.defers
  bt:=h.bt
  size:=h.size
  names:=h.names
  dD:=h.dD
  tmps:=λi v o=>let⟨u,d,q⟩:=h.tmps i v o; ⟨u,d,q.goes k⟩
  heap:=λn b t=>by
   rcases h.heap n b t with d|d
   .exact .inl d
   .by_cases m:n∈E.bt
    .exact .inl (by rw[<-h.bt];exact m)
    .exact .inr (d.goes k m (λ_ _ _ _=>rfl))}
def Env.add(E:Env)(d:Nat)(x:Nm):Env:={E with N:=λn=>if n=d then some x else E.N n}
theorem Rel.fresh{X E st a w w'}(h:Rel X E st a w)(d)(O:E.N d=none)(P:X.k0<=d)(Q:d<st.next)
 (H:Below w.heap.size w w') {x} (R:x.g=none\/x.g=some w.heap.size/\w.heap.size<w'.heap.size) (b) (S:gL X.M E (E.add d x) w w'->RB X.P X.M (E.add d x) w' d b):
 gL X.M E (E.add d x) w w'/\Rel X (E.add d x) (st.dQ ⟨[(d,b)],[]⟩) a w':=by
 have u:∀n y g,E.N n=some y->y.g=some g->g<w.heap.size:=λn y g k q=>(h.names n y g k q).1
 have t:∀g,x.g=some g->g=w.heap.size/\w.heap.size<w'.heap.size:=λg q=>by
  rcases R with o|o
  .rw[o]at q;cases q
  .rw[o.1]at q;cases q;exact⟨rfl,o.2⟩
 have J:gL X.M E (E.add d x) w w':=UC H.block (λg q N=>by
  rcases N with o| ⟨n,y,o,D⟩
  .exact .inl o
  .simp only[Env.add]at o;split at o
   .cases o;have:=t g D;omega
   .exact .inr ⟨n,y,o,D⟩) (λn y k=>by
  right;simp only[Env.add];split
  .subst n;rw[O]at k;cases k
  .exact k) (λ_ h=>h)
 refine⟨J,h.step ⟨[(d,b)],[]⟩ (nx:=st.next) (dx _) J h.bt (h.frame.trans (Frame.Ez (K:=λ_=>False) H) (λ_ _ h=>h.elim)) ?_ ?_ ?_ ?_ (by simp) ?_ ?_⟩
 .intro n y k;simp only[Env.add]at k;split at k
  .omega
  .exact h.dD n y k
 .intro n y g k q;simp only[Env.add]at k;split at k
  .cases k;obtain⟨o,D⟩:=t g q;subst o;exact⟨D,.inr h.frame.size,λT=>by have:=h.eW _ T;have:=h.frame.size;omega⟩
  .obtain⟨o,D,U⟩:=h.names n y g k q;exact⟨by have:=H.size;omega,D,U⟩
 .intro n m y z g k F A B;simp only[Env.add]at k F;split at k<;>split at F
  .omega
  .cases k;have:=u m z g F B;have:=t g A;omega
  .cases F;have:=u n y g k A;have:=t g B;omega
  .exact h.inj n m y z g k F A B
 .intro m N;right;simp only[Env.add];rw[bO om]
 .intro n y g k q _ _;exact H.block _ (u n y g k q)
 .intro n W I;simp only[hX,nR]at I;split at I
  .rename_i G;simp at G;subst G;cases I;exact .inr (S J)
  .cases I
open Classical in
def ib{α:Type}(c:Prop)(x:Option α):Option α:=if c then x else none
theorem jg{α c}(h:c)(x:Option α):ib c x=x:=bF h
def bitsOf(k:dH)(r:BitVec k.bits):cr:=.int k (k.wrap r.toNat)
def jG(tb:Bool)(op:BinOp):cr->cr->Option cr
 |.int k a,.int c b=>
  match op with
  |.shl=>ib (0<=b) (some (.int k (k.wrap (a*2^ (min b.toNat k.bits)))))
  |.shr=>ib (0<=b) (some (.int k (a.fdiv (2^ (min b.toNat k.bits)))))
  |.add=>if k=c then some (.int k (k.wrap (a+b)))else none
  |.sub=>if k=c then some (.int k (k.wrap (a-b)))else none
  |.mul=>if k=c then some (.int k (k.wrap (a*b)))else none
  |.quo=>ib (k=c/\b≠0) (some (.int k (k.wrap (a.tdiv b))))
  |.rem=>ib (k=c/\b≠0) (some (.int k (a.tmod b)))
  |.and=>if k=c then some (bitsOf k (BitVec.ofInt k.bits a&&&BitVec.ofInt k.bits b))else none
  |.or=>if k=c then some (bitsOf k (BitVec.ofInt k.bits a|||BitVec.ofInt k.bits b))else none
  |.xor=>if k=c then some (bitsOf k (BitVec.ofInt k.bits a^^^BitVec.ofInt k.bits b))else none
  |.andNot=>if k=c then some (bitsOf k (BitVec.ofInt k.bits a&&& ~~~ BitVec.ofInt k.bits b))else none
  |.eql=>if k=c then some (.bool (decide (a=b)))else none
  |.neq=>if k=c then some (.bool (decide (a≠b)))else none
  |.lss=>if k=c then some (.bool (decide (a<b)))else none
  |.leq=>if k=c then some (.bool (decide (a<=b)))else none
  |.gtr=>if k=c then some (.bool (decide (b<a)))else none
  |.geq=>if k=c then some (.bool (decide (b<=a)))else none
 |.string a,.string b=>
  match op with
  |.add=>ib (((a.size+b.size:Nat):Int)<=9223372036854775807) (some (.string (a++b)))
  |.eql=>some (.bool (a.toList==b.toList))
  |.neq=>some (.bool (!(a.toList==b.toList)))
  |.lss=>some (.bool (Op.bytesLess a.toList b.toList))
  |.leq=>some (.bool (Op.bytesLess a.toList b.toList||a.toList==b.toList))
  |.gtr=>some (.bool (!(Op.bytesLess a.toList b.toList||a.toList==b.toList)))
  |.geq=>some (.bool (!(Op.bytesLess a.toList b.toList)))
  |_=>none
 |.bool a,.bool b=>
  match op with
  |.eql=>if tb then some (.bool (a==b))else none
  |.neq=>if tb then some (.bool (!(a==b)))else none
  |_=>none
 |_,_=>none
def qf(P:cD)(t:cg):Bool:=match P.underlying t with|some .bool=>true|_=>false
theorem aas{P t}(h:qf P t=true):P.underlying t=some .bool:=by
 unfold qf at h;split at h<;>simp_all
theorem awy(a b:Int):(a==b)=decide (a=b):=by rw[hZ];simp
theorem akn(a b:Int):(a !=b)=decide (a≠b):=by rw[hZ];simp
theorem awD{tb op u v r}(h:jG tb op u v=some r):flat r=true:=by
 unfold jG at h;cases u<;>cases v<;>simp only[]at h<;>first| (cases h;done)| (cases op<;>simp[bitsOf,ib]at h<;>first| (obtain⟨_,rfl⟩:=h;rfl)| (subst h;rfl))
theorem ahf{P op u v r}(t)(x y)(h:jG (qf P t) op u v=some r)(w):
 (do eqGuard op t x y u v;binOp op t u v).run P w=.ok r w:=by
 have b:(eqGuard op t x y u v).run P w=.ok () w:=by
  unfold eqGuard;unfold jG at h;cases u<;>cases v<;>simp only[]at h<;>first| (cases h;done)| (cases op<;>simp)
 simp only[Sem.run_bind,b,Result.andThen_ok];cases u<;>cases v<;>first
  |(simp[jG]at h;done)
  |(cases op<;>simp[jG,bitsOf,ib]at h<;>obtain⟨c,rfl⟩:=h<;>simp_all [binOp,Op.shift,Op.intArith,Op.intDiv,Op.intBits,Op.intCmp,awy,akn]<;> (try omega);done)
  |skip
 .cases op<;>simp only[jG]at h<;>first
   |(cases h;done)
   |(split at h<;>simp at h;subst h;first|exact run_eql_bool w _ _ _ (aas (by assumption))|exact run_neq_bool w _ _ _ (aas (by assumption)))
 .cases op<;>simp only[jG,ib,iQ]at h<;>first
   |(cases h;done)
   |(split at h<;>simp at h;subst h;exact run_string_add_sum w _ _ om)
   |(subst h;simp[binOp,Op.stringOp];done)
end
section
open Go.RowKit
open Classical
def kL:cr->C
 |.slice none 0 0=>.nil
 |v=>if flat v then .p (.sc v)else .dead
def ofValue:cr->V1
 |.agg us=>if us.toList.all (·.oneCell')then .agg (us.toList.map kL)else .c .dead
 |.func (.func f) first captured=>if first.size=0/\captured.size=0 then .c (.fn f [])else .c .dead
 |v=>.c (kL v)
section
variable(M:fJ)(E:Env)(w:cp)
theorem Ih(v):RC M E w (kL v) v:=by
 unfold kL;split
 .rfl
 .split
  .exact .sc (by assumption)
  .trivial
theorem ahr(v):dR M E w (ofValue v) v:=by
 unfold ofValue;split
 .split
  .rename_i us hall;refine⟨us,rfl,by simp,λi c b=>?_⟩;simp only[cN,bY,P2]at b;obtain⟨u,d,rfl⟩:=b;grind[Ih,Array.mem_of_getElem]
  .trivial
 .split
  .rename_i f first captured e
   have d:first= #[]:=P3 e.1
   exact⟨captured,by rw[d],e.2,λi n b=>by simp at b⟩
  .trivial
 .exact Ih M E w v
end
def C.names:C->List Nat
 |.own n=>[n]| .sub n _ _=>[n]| .ptr n _=>[n]| .dy n _ _=>[n]| .mp n=>[n]| .fn _ dE=>dE|_=>[]
def V1.names:V1->List Nat
 |.c x=>x.names
 |.agg xs=>xs.flatMap C.names
def V.names:V->List Nat
 |.v x=>x.names
 |.bq xs=>xs.flatMap V1.names
def C.nj:C->Bool
 |.dead=>true
 |_=>false
def V.nj:V->Bool
 |.v (.c c)=>c.nj
 |_=>false
def V.live(bt:List Nat)(v:V):Bool:= !v.nj&&v.names.all λn=> !bt.contains n
def bz.arg(st:bz):cF->Option V
 |.tmp t=>match st.tmps[t]? with
  |some x=>if x.live st.bt then some x else none
  |none=>none
 |.const v=>if(V.v (ofValue v)).live st.bt then some (.v (ofValue v))else none
 |.func f=>some (.v (.c (.fn f [])))
 |.global _=>none
theorem Rel.arg{X E st a w}(h:Rel X E st a w){x v}(d:st.arg x=some v):RV X.M E w v (a.eval x)/\v.live st.bt=true:=by
 cases x with
 |tmp t=>
  simp only[bz.arg]at d;split at d
  .rename_i y k;split at d
   .simp at d;subst d;obtain⟨u,m,o⟩:=h.tmps t y k;refine⟨?_,by assumption⟩;simp only[Act.eval,u5,m,gS];exact o
   .cases d
  .cases d
 |const q=>
  simp only[bz.arg]at d;split at d
  .simp at d;subst d;exact⟨ahr X.M E w q,by assumption⟩
  .cases d
 |global g=>cases d
 |func f=>
  simp only[bz.arg,iQ]at d;subst d;exact⟨⟨#[],by simp[Act.eval],rfl,λi n A=>by simp at A⟩,by rfl⟩
theorem HD{bt c}(h:(V.v (.c c)).live bt=true):c.nj=false/\∀n∈c.names,n∉bt:=by
 simp only[V.live,cd,o_,cj,V.nj]at h;exact⟨h.1,λn b d=>by have:=h.2 n b;simp[d]at this⟩
theorem aqb{bt cs}(h:(V.v (.agg cs)).live bt=true):∀c∈cs,∀n∈c.names,n∉bt:=by
 simp only[V.live,cd,o_,cj]at h;exactλc b n d e=>by have:=h.2 n (so.2 ⟨c,b,d⟩);simp[e]at this
theorem cS.get{E n Q}(h:cS E n Q)(d:n∉E.bt):∃x,E.N n=some x/\Q x:=h.resolve_left d
theorem RC.rh{M E w c v}(h:RC M E w c v)(k:c.nj=false)(d:∀n∈c.names,n∉E.bt):v.oneCell'=true:=by
 cases c with
 |p q=>exact RP.rh h
 |nil=>cases h;rfl
 |own n=>obtain⟨x,_,rfl⟩:=cS.get h (d n (by simp[C.names]));rfl
 |sub n m len=>
  obtain⟨x,_,_,A,rfl,_⟩:=cS.get h (d n (by simp[C.names]));rfl
 |ptr n off=>obtain⟨x,_,g,_,rfl⟩:=cS.get h (d n (by simp[C.names]));rfl
 |dy n i j=>obtain⟨x,_,_,g,_,rfl⟩:=cS.get h (d n (by simp[C.names]));rfl
 |ref cells=>obtain⟨g,o,rfl,_⟩:=h;rfl
 |fn f dE=>obtain⟨us,rfl,_⟩:=h;rfl
 |mp n=>obtain⟨x,_,g,_,rfl⟩:=cS.get h (d n (by simp[C.names]));rfl
 |dead=>cases k
def V1.cells:V1->List C
 |.c x=>[x]
 |.agg xs=>xs
theorem avk{v:cr}(h:v.oneCell'=true):v.cells= #[v]:=by cases v<;>simp_all [Value.cells,Value.oneCell']
theorem dR.cells{M E w x v}(h:dR M E w x v)(q:(V.v x).live E.bt=true):
 v.cells.size=x.cells.length/\∀(i:Nat)(c),x.cells[i]?=some c->∃u,v.cells[i]?=some u/\RC M E w c u/\u.oneCell'=true:=by
 cases x with
 |c c=>
  obtain⟨d,k⟩:=HD q;have o:=RC.rh h d k;rw[avk o];refine⟨rfl,λi t m=>?_⟩
  cases i with
  |zero=>simp[V1.cells]at m;subst m;exact⟨v,rfl,h,o⟩
  |succ i=>simp[V1.cells]at m
 |agg cs=>
  obtain⟨us,rfl,d,k⟩:=h;exact⟨d,k⟩
def bz.view(st:bz):C->Option (List (List PV))
 |.p (.sl rows)=>some rows
 |.nil=>some []
 |.own n=>match st.heap.lookup n with
  |some (.row _ rows)=>some rows
  |_=>none
 |.sub n d len=>match st.heap.lookup n with
  |some (.row _ rows)=>some ((rows.drop d).take len)
  |_=>none
 |_=>none
theorem Rel.row{X E st a w}(h:Rel X E st a w){n}(d:n∉st.bt){b}(k:st.heap.lookup n=some b):RB X.P X.M E w n b:=(h.heap n b k).resolve_left d
theorem Jw{M w g o cap sz b e c rows}(f:w.heap[g]?=some (.cells b e c))(h:rows.length<=cap)(k:cap<=maxLen)(hR:ff sz rows)
 (l:∀(i)(r)(j)(p),rows[i]?=some r->r[j]?=some p->∃u,b[o+i*sz+j]?=some u/\RP M w p u):Rows M w rows (.slice (some ⟨g,o,none⟩) rows.length cap):=by
 by_cases d:rows=[]
 .subst d;exact .inl ⟨rfl,_,_,rfl⟩
 .refine .inr ⟨g,o,cap,sz,λi j=>(b[o+i*sz+j]?).getD undef,rfl,d,h,k,hR,λi r j p m n=>?_⟩;obtain⟨u,q,s⟩:=l i r j p m n;simp only[cell_of_row w g _ b e c f,q,gS];simp_all
theorem Rel.view{X E st a w}(h:Rel X E st a w){c v rows}(t:RC X.M E w c v)(K:∀n∈c.names,n∉st.bt)(d:st.view c=some rows):
 Rows (bad X.M E) w rows v:=by
 cases c with
 |p q=>
  cases q with
  |sc u=>simp[bz.view]at d
  |sl rs=>simp[bz.view]at d;subst d;exact RP.rows t
 |nil=>simp[bz.view]at d;subst d;cases t;exact .inl ⟨rfl,_,_,rfl⟩
 |own n=>
  have k:=K n (by simp[C.names]);simp only[bz.view]at d;split at d
  .rename_i e rs B;simp at d;subst d;obtain⟨x,D,P,F,G,H,N,Q,O,R,_,S,I,m,T⟩:=h.row k B;obtain⟨y,k1,rfl⟩:=cS.get t (by rw[h.bt];exact k);rw[F]at k1;cases k1
   cases o:x.g with
   |none=>
    have:=m o;have J:x.len=0:=om;rw[J];exact .inl ⟨jX om,_,_,rfl⟩
   |some g=>
    rw[N];exact Jw (H g o) om O I (λi r j p U W=>by simp_all)
  .cases d
 |sub n Y len=>
  have k:=K n (by simp[C.names]);simp only[bz.view]at d;split at d
  .rename_i e rs B;simp at d;subst d;obtain⟨x,D,P,F,G,H,N,Q,O,R,_,S,I,m,T⟩:=h.row k B;obtain⟨y,k1,k2,A,rfl,Z⟩:=cS.get t (by rw[h.bt];exact k);rw[F]at k1;cases k1;have hlen:((rs.drop Y).take len).length=len:=by simp;omega
   by_cases J:len=0
   .subst J;exact .inl ⟨by simp,_,_,rfl⟩
   .cases o:x.g with
    |none=>simp_all
    |some g=>
    rw[Z (.inl om),o]
    conv=>rhs;rw[<-hlen]
    refine Jw (H g o) om om (λr hr=>I r (pa (iR hr))) (λi r j p U W=>?_);grind
  .cases d
 |ptr=>cases d
 |dy=>cases d
 |ref=>cases d
 |fn=>cases d
 |mp=>cases d
 |dead=>cases d
def dV(P:cD)(t:cg):Nat:=P.cellsOf t
def nF(P:cD)(t:cg):Bool:=match P.underlying t with|some (.struct _)|some (.array _ _)=>true|_=>false
def xQ(P:cD)(t:cg)(f:Nat):Option Nat:=
 match P.underlying t with
 |some (.struct fs)=>match fs[f]? with
  |some b=>match P.info? b.type with
   |some i=>if i.size=0 then none else some b.offset
   |none=>none
  |none=>none
 |_=>none
def fk(P:cD)(t:cg):Option cg:=match P.underlying t with|some (.slice e)=>if(P.info? e).isSome then some e else none|_=>none
def lj(P:cD)(t:cg):Option (Nat×cg):=match P.underlying t with|some (.array n e)=>if(P.info? e).isSome then some (n,e)else none|_=>none
def FN(P:cD)(t:cg):Option dH:=match P.underlying t with|some (.int k)=>some k|_=>none
def qh(P:cD)(t:cg):Option (List C):=match P.info? t with
 |some i=>match i.zero with
  |some z=>if z.cells.toList.all (·.oneCell')then some (z.cells.toList.map kL)else none
  |none=>none
 |none=>none
def zJ(P:cD)(t:cg):Bool:=(P.underlying t).isSome
def mA(P:cD)(t:cg):Bool:=(P.info? t).isSome
def kb(P:cD)(t:cg)(cs:List C):Option V:=
 if nF P t then(if dV P t<=cs.length/\mA P t=true then some (.v (.agg (cs.take (dV P t))))else none)
 else match zJ P t,cs with
  |true,c::_=>some (.v (.c c))
  |_,_=>none
theorem FX{P t}(w){d}(h:P.underlying t=some d):(isAgg t).run P w=.ok (nF P t) w:=by
 unfold isAgg nF;rw[h];simp only[Sem.run_bind,run_underlying h,Result.andThen_ok];cases d<;>rfl
theorem run_sizeOf{P t}(w)(h:(P.info? t).isSome=true):(sizeOf t).run P w=.ok (dV P t) w:=by
 obtain⟨i,b⟩:=xD.1 h;simp[sizeOf,typeInfo,b,dV,Program.cellsOf]
theorem nD(g o k):(⟨g,o,none⟩:Addr).add k=⟨g,o+k,none⟩:=by unfold Addr.add;simp_all
theorem Yr{P t}(h:nF P t=true):∃d,P.underlying t=some d:=by
 unfold nF at h;grind
theorem afP{P M E w t off}{cs:List C}{us v}(b:kb P t (cs.drop off)=some v)(m:us.size=cs.length)
 (h:∀(i:Nat)(c),cs[i]?=some c->∃u,us[i]?=some u/\RC M E w c u/\u.oneCell'=true):
 ∃u,(part t us off).run P w=.ok u w/\RV M E w v u:=by
 unfold kb at b;split at b
 .rename_i hagg;split at b
  .rename_i f;cases b;obtain⟨d,e⟩:=Yr hagg;refine⟨.agg (us.extract off (off+dV P t)),?_,_,rfl,?_,?_⟩
   .unfold part;simp only[Sem.run_bind,FX w e,hagg,Result.andThen_ok,if_true,run_sizeOf w f.2,Sem.run_pure]
   .grind
   grind
  .cases b
 .split at b
  .rename_i c l e g;cases b;obtain⟨d,e⟩:=xD.1 e;have j:cs[off]?=some c:=by
    have:(cs.drop off)[0]?=some c:=by rw[g];rfl
    simpa using this
   obtain⟨u,n,k,_⟩:=h off c j;refine⟨u,?_,k⟩;unfold part;simp_all[nF,FX,qp]
  .cases b
theorem DW{P M E w t g o cs v}(b:kb P t cs=some v)
 (h:∀(j)(c),cs[j]?=some c->∃u,w.cell? ⟨g,o+j,none⟩=some u/\RC M E w c u/\u.oneCell'=true):
 ∃u,(loadVar t ⟨g,o,none⟩).run P w=.ok u w/\RV M E w v u:=by
 unfold kb at b;split at b
 .rename_i hagg;split at b
  .rename_i e;simp at b;subst b;obtain⟨d,f⟩:=Yr hagg;have m:∀j,j<dV P t->∃u,w.cell? ⟨g,o+j,none⟩=some u/\∀c,cs[j]?=some c->RC M E w c u/\u.oneCell'=true:=by
    intro j i;obtain⟨u,n,k,p⟩:=h j _ (cW (mO i e.1));grind
   have hrun:=run_loadCells (P:=P) w ⟨g,o,none⟩ (dV P t) (λj=>(w.cell? ⟨g,o+j,none⟩).getD undef) (λj i=>by
    grind[nD])
   refine⟨.agg ((List.range (dV P t)).map λj=>(w.cell? ⟨g,o+j,none⟩).getD undef).toArray,?_,_,rfl,?_,?_⟩
   .unfold loadVar;simp only[Sem.run_bind,FX w f,hagg,Result.andThen_ok,if_true,run_sizeOf w e.2,hrun,Sem.run_pure]
   .simp;omega
   grind
  .cases b
 .split at b
  .rename_i c l f;simp at b;subst b;obtain⟨d,f⟩:=xD.1 f;obtain⟨u,n,k,_⟩:=h 0 c rfl;refine⟨u,?_,k⟩;unfold loadVar;simp_all[nF,FX,qp]
  .cases b
abbrev V.sc(v:cr):V:=.v (.c (.p (.sc v)))
abbrev V.c(c:C):V:=.v (.c c)
def pq(P:cD)(st:bz)(t:cg)(x:cF):Option V:=
 match st.arg x with
 |some (.v (.c (.ptr n off)))=>match st.heap.lookup n with
  |some (.box cs)=>kb P t (cs.drop off)
  |_=>none
 |some (.v (.c (.dy n i j)))=>match st.heap.lookup n with
  |some (.row _ rows)=>match rows[i]? with
   |some r=>kb P t ((r.drop j).map .p)
   |none=>none
  |_=>none
 |some (.v (.c (.ref cells)))=>kb P t (cells.map .p)
 |_=>none
section
variable{X:Fx}{E:Env}{st:bz}{a:Act}{w:cp}
theorem Rel.cY(h:Rel X E st a w){x c}(d:st.arg x=some (.v (.c c))):RC X.M E w c (a.eval x)/\c.nj=false/\∀n∈c.names,n∉st.bt:=⟨(h.arg d).1,HD (h.arg d).2⟩
theorem Rel.ig(h:Rel X E st a w){x c}(d:st.arg x=some (.v (.c c))){n}(k:n∈c.names):n∉E.bt:=by rw[h.bt];exact(h.cY d).2.2 n k
theorem ahg(h:Rel X E st a w){t x v}
 (b:pq X.P st t x=some v):∃u,(Instr.loadAt t (a.eval x)).run X.P w=.ok u w/\RV X.M E w v u:=by
 unfold pq at b;split at b
 .rename_i n off f;have m:=h.ig f (n:=n) (by simp[C.names]);obtain⟨y,q,g,G,s⟩:=cS.get (h.cY f).1 m;split at b
  .rename_i cs H;obtain⟨K,g',l,e,z,A,I,Q,J⟩:=h.row (by rw[<-h.bt];exact m) H;rw[q]at z;cases z;rw[G]at A;cases A;obtain⟨u,B,D⟩:=DW (P:=X.P) (M:=X.M) (E:=E) (w:=w) (g:=g) (o:=off) b (λj c d=>by
    rw[pb]at d;obtain⟨u,k1,k2,F⟩:=J _ c d;exact⟨u,by rw[cell_of_row w g _ l e (0,0) I];exact k1,k2,F⟩)
   refine⟨u,?_,D⟩;rw[s];simpa[Instr.loadAt,Instr.sureAddr]using B
  .cases b
 .rename_i n i j f;have m:=h.ig f (n:=n) (by simp[C.names]);obtain⟨y,q,R,g,G,s⟩:=cS.get (h.cY f).1 m;split at b
  .rename_i e rows H;obtain⟨K,l,L,z,N,I,_,_,_,_,_,_,_,_,J⟩:=h.row (by rw[<-h.bt];exact m) H;rw[q]at z;cases z;split at b
   .rename_i r O;obtain⟨u,B,D⟩:=DW (P:=X.P) (M:=X.M) (E:=E) (w:=w) (g:=g) (o:=i*y.sz+j) b (λk c d=>by
     simp only[cN,bY,pb]at d;obtain⟨p,hp,rfl⟩:=d;obtain⟨u,k1,k2⟩:=J i r (j+k) p O hp;exact⟨u,by rw[cell_of_row w g _ l e L (I g G),Bl];exact k1,k2,k2.rh⟩)
    refine⟨u,?_,D⟩;rw[s];simpa[Instr.loadAt,Instr.sureAddr]using B
   .cases b
  .cases b
 .rename_i cells f;obtain⟨⟨g,o,q,s⟩,_⟩:=h.cY f;obtain⟨u,B,D⟩:=DW (P:=X.P) (M:=X.M) (E:=E) (w:=w) (g:=g) (o:=o) b (λj c d=>by
   simp only[cN,bY]at d;obtain⟨p,hp,rfl⟩:=d;obtain⟨u,k1,k2,F⟩:=s j p hp;exact⟨u,k1,F,F.rh⟩)
  refine⟨u,?_,D⟩;rw[q];simpa[Instr.loadAt,Instr.sureAddr]using B
 .cases b
def qd(P:cD)(st:bz)(t:cg)(x:cF)(f:Nat):Option V:=
 match st.arg x,xQ P t f with
 |some (.v (.c (.ptr n off))),some k=>some (.c (.ptr n (off+k)))
 |some (.v (.c (.dy n i j))),some k=>some (.c (.dy n i (j+k)))
 |some (.v (.c (.ref cells))),some k=>some (.c (.ref (cells.drop k)))
 |_,_=>none
theorem Mo{P t f k}(h:xQ P t f=some k)(g o)(w):
 (Instr.fieldAt t (.pointer (some ⟨g,o,none⟩)) f).run P w=.ok (.pointer (some ⟨g,o+k,none⟩)) w:=by
 unfold xQ at h;split at h
 .rename_i fs c;split at h
  .rename_i j d;split at h
   .rename_i i e;split at h
    .cases h
    .rename_i b;simp at h;subst h;simp[Instr.fieldAt,run_underlying c,d,Instr.sureAddr,fieldPlace,sizeOf,typeInfo,e,b,nD]
   .cases h
  .cases h
 .cases h
theorem RC.QH{M}{cells:List PV}{g o}(h:∀(j)(p),cells[j]?=some p->∃u,w.cell? ⟨g,o+j,none⟩=some u/\¬bad M E g/\RP (bad M E) w p u)(k):
 RC M E w (.ref (cells.drop k)) (.pointer (some ⟨g,o+k,none⟩)):=
 ⟨g,o+k,rfl,λj p d=>by grind⟩
theorem alp(h:Rel X E st a w){t x f v}
 (b:qd X.P st t x f=some v):∃u,(Instr.fieldAt t (a.eval x) f).run X.P w=.ok u w/\RV X.M E w v u:=by
 unfold qd at b;split at b
 .rename_i n off k c l;obtain⟨y,d,g,m,e⟩:=cS.get (h.cY c).1 (h.ig c (n:=n) (by simp[C.names]));simp at b;subst b;exact⟨_,by simp_all[Mo],.inr ⟨y,d,g,m,rfl⟩⟩
 .rename_i n i j k c l;obtain⟨y,d,e,g,m,p⟩:=cS.get (h.cY c).1 (h.ig c (n:=n) (by simp[C.names]));simp at b;subst b;exact⟨_,by rw[p];exact Mo l g _ w,.inr ⟨y,d,e,g,m,by simp_all⟩⟩
 .rename_i cells k c l;obtain⟨⟨g,o,d,e⟩,_⟩:=h.cY c;simp at b;subst b;exact⟨_,by simp_all[Mo],RC.QH e k⟩
 .cases b
theorem ED{P t n e}(h:lj P t=some (n,e)):P.underlying t=some (.array n e)/\(P.info? e).isSome=true:=by
 unfold lj at h;grind
theorem ow{P t e}(h:fk P t=some e):P.underlying t=some (.slice e)/\(P.info? e).isSome=true:=by
 grind[fk]
theorem K_{P t n e}(h:lj P t=some (n,e))(g o)(k){i:Int}(b:0<=i/\i<n)(w):
 (Instr.indexAt t (.pointer (some ⟨g,o,none⟩)) (.int k i)).run P w=.ok (.pointer (some ⟨g,o+i.toNat*dV P e,none⟩)) w:=by
 obtain⟨c,d⟩:=ED h;simp[Instr.indexAt,run_underlying c,asIntOf,Instr.sureAddr,b,run_sizeOf w d,nD]
theorem Ii{P t e}(h:fk P t=some e)(g o n cap:Nat)(k){i:Int}(b:0<=i/\i<n)(w):
 (Instr.indexAt t (.slice (some ⟨g,o,none⟩) n cap) (.int k i)).run P w=.ok (.pointer (some ⟨g,o+i.toNat*dV P e,none⟩)) w:=by
 obtain⟨c,d⟩:=ow h;simp[Instr.indexAt,run_underlying c,asIntOf,b,run_sizeOf w d,nD]
def bz.elem(st:bz)(size i:Nat):C->Option C
 |.own n=>match st.heap.lookup n with
  |some (.row _ rows)=>match rows[i]? with
   |some r=>if r.length=size then some (.dy n i 0)else none
   |none=>none
  |_=>none
 |.sub n d len=>match st.heap.lookup n with
  |some (.row _ rows)=>match rows[d+i]? with
   |some r=>if r.length=size/\i<len then some (.dy n (d+i) 0)else none
   |none=>none
  |_=>none
 |.p (.sl rows)=>match rows[i]? with
  |some r=>if r.length=size then some (.ref r)else none
  |none=>none
 |_=>none
def mc(P:cD)(st:bz)(t:cg)(x i:cF):Option V:=
 match st.arg i with
 |some (.v (.c (.p (.sc (.int _ i)))))=>match st.arg x with
  |some (.v (.c (.ptr n off)))=>match lj P t with
   |some (m,e)=>ib (0<=i/\i<m) (some (.c (.ptr n (off+i.toNat*dV P e))))
   |none=>none
  |some (.v (.c (.dy n r j)))=>match lj P t with
   |some (m,e)=>ib (0<=i/\i<m) (some (.c (.dy n r (j+i.toNat*dV P e))))
   |none=>none
  |some (.v (.c (.ref cells)))=>match lj P t with
   |some (m,e)=>ib (0<=i/\i<m) (some (.c (.ref (cells.drop (i.toNat*dV P e)))))
   |none=>none
  |some (.v (.c c))=>match fk P t with
   |some e=>ib (0<=i) ((st.elem (dV P e) i.toNat c).map V.c)
   |none=>none
  |_=>none
 |_=>none
theorem anh(h:Rel X E st a w){t x i v}
 (b:mc X.P st t x i=some v):∃u,(Instr.indexAt t (a.eval x) (a.eval i)).run X.P w=.ok u w/\RV X.M E w v u:=by
 unfold mc ib at b;split at b
 .rename_i k i' V;have L:=RP.ei (h.cY V).1;split at b
  .rename_i n off d;obtain⟨y,l,g,s,B⟩:=cS.get (h.cY d).1 (h.ig d (n:=n) (by simp[C.names]));split at b
   .rename_i m e D;split at b
    .simp at b;subst b;exact⟨_,by grind[K_],.inr ⟨y,l,g,s,rfl⟩⟩
    .cases b
   .cases b
  .rename_i n r j d;obtain⟨y,l,N,g,s,B⟩:=cS.get (h.cY d).1 (h.ig d (n:=n) (by simp[C.names]));split at b
   .rename_i m e D;split at b
    .simp at b;subst b;exact⟨_,by rw[B,L];exact K_ D g _ k (by assumption) w,.inr ⟨y,l,N,g,s,by simp_all⟩⟩
    .cases b
   .cases b
  .rename_i cells d;obtain⟨⟨g,o,l,B⟩,_⟩:=h.cY d;split at b
   .rename_i m e D;split at b
    .simp at b;subst b;exact⟨_,by grind[K_],RC.QH B _⟩
    .cases b
   .cases b
  .rename_i c _ _ _ d;have O:=(h.cY d).1;split at b
   .rename_i e D;split at b
    .simp only[bY]at b;obtain⟨c',b,rfl⟩:=b
     cases c with
     |own n =>
      simp only[bz.elem]at b;have I:=h.ig d (n:=n) (by simp[C.names]);obtain⟨y,l,B⟩:=cS.get O I;split at b
      .rename_i W rows P;obtain⟨Y,Q,Z,J,R,k4,k5,k6,k7,k8,_,k9,F,S,_⟩:=h.row (by rw[<-h.bt];exact I) P;rw[l]at J;cases J;split at b
       .rename_i r G;split at b
        .rename_i z;simp at b;subst b;have T:=(dW.1 G).1;have H:y.sz=dV X.P e:=by rw[<-z];exact(F r (dB G)).symm
         cases s:y.g with
         |none=>simp_all
         |some g=>
          rw[s]at B;refine⟨_,by rw[B,L];exact Ii D g 0 y.len y.cap k om w,.inr ⟨y,l,om,g,s,by rw[H];simp⟩⟩
        .cases b
       .cases b
      .cases b
     |sub n U len=>
      simp only[bz.elem]at b;have I:=h.ig d (n:=n) (by simp[C.names]);obtain⟨y,l,B,A,N,h5⟩:=cS.get O I;split at b
      .rename_i W rows P;obtain⟨Y,Q,Z,J,R,k4,k5,k6,k7,k8,_,k9,F,S,_⟩:=h.row (by rw[<-h.bt];exact I) P;rw[l]at J;cases J;split at b
       .rename_i r G;split at b
        .rename_i z;simp at b;subst b;have H:y.sz=dV X.P e:=by rw[<-z.1];exact(F r (dB G)).symm
         have K:y.cap≠U:=om
         cases s:y.g with
         |none=>simp_all
         |some g=>
         rw[h5 (.inl K),s]at N;refine⟨_,by rw[N,L];exact Ii D g (U*y.sz) len (y.cap-U) k om w,.inr ⟨y,l,om,g,s,by grind⟩⟩
        .cases b
       .cases b
      .cases b
     |p q =>
      cases q with
      |sc=>cases b
      |sl rows=>
       simp only[bz.elem]at b;split at b
       .rename_i r G;split at b
        .rename_i z;simp at b;subst b;have T:=(dW.1 G).1;generalize a.eval x=u at O
         cases O with
         |nil=>simp at G
         |@row _ g o cap sz f aa P hm hs ab ad=>
          have H:sz=dV X.P e:=by grind
          refine⟨_,by rw[L];exact Ii D g o _ cap k om w,g,_,rfl,λj p hj=>?_⟩;grind
        .cases b
       .cases b
     |_=>cases b
    .cases b
   .cases b
  .cases b
 .cases b
end
theorem Y7{P}(b)(len cap:Nat)(e f){l h:Int}(g:e=none/\l=0\/∃k,e=some (.int k l))(j:f=none/\h=len\/∃k,f=some (.int k h))
 (o:0<=l) (r:l<=h) (p:h<=cap) (w):(Instr.sliceBounds b len cap e f none).run P w=.ok (l.toNat,h.toNat,cap) w:=by
 have d:∀(k:dH)(y:Nat)(c:BoundsCode)(i:Int),0<=i->i<=y->(Instr.sliceBound (.int k i) y c).run P w=.ok i.toNat w:=by
  intro k y c i m n;simp[Instr.sliceBound,asIntOf,m,n]
 rcases g with⟨rfl,rfl⟩| ⟨k,rfl⟩<;>rcases j with⟨rfl,rfl⟩| ⟨q,rfl⟩
 .rfl
 .simp[Instr.sliceBounds,d q cap _ h om p]
 .simp[Instr.sliceBounds,d k len _ l o r]
 .simp[Instr.sliceBounds,d q cap _ h om p,d k h.toNat _ l o om]
def bz.part(st:bz)(size l h:Nat):C->Option C
 |.own n=>match st.heap.lookup n with
  |some (.row _ rows)=>if h<=rows.length/\(∀r,rows[0]?=some r->r.length=size)then some (.sub n l (h-l))else none
  |_=>none
 |.sub n d len=>match st.heap.lookup n with
  |some (.row _ rows)=>if h<=len/\(∀r,rows[0]?=some r->r.length=size)then some (.sub n (d+l) (h-l))else none
  |_=>none
 |.p (.sl rows)=>if h<=rows.length/\ff size rows then some (.p (.sl ((rows.take h).drop l)))else none
 |.nil=>if h=0 then some .nil else none
 |_=>none
def bz.num(st:bz)(o:Option cF)(d:Int):Option Int:=match o with
 |none=>some d
 |some o=>match st.arg o with
  |some (.v (.c (.p (.sc (.int _ i)))))=>some i
  |_=>none
def bz.mI(st:bz):C->Option Nat
 |.sub _ _ len=>some len
 |c=>(st.view c).map (·.length)
def kZ(P:cD)(st:bz)(t:cg)(x:cF)(b d:Option cF):Option V:=
 match st.arg x with
 |some (.v (.c (.p (.sc (.string s)))))=>match st.num b 0,st.num d s.size,P.underlying t with
  |some l,some h,some .string=>ib (0<=l/\l<=h/\h<=s.size) (some (.sc (.string (s.extract l.toNat h.toNat))))
  |_,_,_=>none
 |some (.v (.c c))=>match st.mI c,fk P t with
  |some n,some e=>match st.num b 0,st.num d n with
   |some l,some h=>ib (0<=l/\l<=h) ((st.part (dV P e) l.toNat h.toNat c).map V.c)
   |_,_=>none
  |_,_=>none
 |_=>none
theorem RP.slice{M w rows A n cap size}(d:RP M w (.sl rows) (.slice A n cap))(hR:ff size rows){l h}(I:l<=h)(B:h<=rows.length):
 RP M w (.sl ((rows.take h).drop l)) (.slice (if cap=l then A else A.map (·.add (l*size))) (h-l) (cap-l)):=by
 by_cases k:l=h
 .subst k;have:(rows.take l).drop l=[]:=by simp
  rw[this,Bm];exact .nil
 .cases d with
  |nil=>simp at B;omega
  |@row _ g o cap sz f J K N t D F=>
   have hlen:((rows.take h).drop l).length=h-l:=by simp;omega
   have m:∀r∈rows,sz=size:=λr d=>by rw[<-t r d];exact hR r d
   have q:cap≠l:=om;rw[bO q,<-hlen];simp only[bS,nD];have G:∀(i:Nat)(r:List PV),((rows.take h).drop l)[i]?=some r->rows[l+i]?=some r:=by
    grind
   have u:∀(i:Nat)(r:List PV)(j:Nat),((rows.take h).drop l)[i]?=some r->o+l*size+i*sz+j=o+(l+i)*sz+j:=by
    intro i r j H;have:=m r (dB (G i r H));grind
   refine RP.row (sz:=sz) (f:=λi j=>f (l+i) j) (by grind) om om (λr d=>t r (iR (pa d))) ?_ ?_
   .grind
   simp_all
section
variable{X:Fx}{E:Env}{st:bz}{a:Act}{w:cp}
theorem x_(h:Rel X E st a w){o d l}(b:st.num o d=some l):o.map a.eval=none/\l=d\/∃k,o.map a.eval=some (.int k l):=by
 cases o with
 |none=>simp_all[bz.num]
 |some o=>
  simp only[bz.num]at b;split at b
  .rename_i k i c;simp at b;subst b;exact .inr ⟨k,by simp[RP.ei (h.cY c).1]⟩
  .cases b
theorem apI(h:Rel X E st a w){t x I G v}
 (b:kZ X.P st t x I G=some v):∃u,(Instr.sliceAt t (a.eval x) (I.map a.eval) (G.map a.eval) none).run X.P w=.ok u w/\RV X.M E w v u:=by
 unfold kZ ib at b;split at b
 .rename_i s J;have h3:=RP.ei (h.cY J).1;split at b
  .rename_i l O i j Q;split at b
   .rename_i H;simp at b;subst b;have R:=Y7 (P:=X.P) false s.size s.size (I.map a.eval) (G.map a.eval) (x_ h i) (x_ h j) H.1 H.2.1 H.2.2 w;refine⟨_,?_,.sc rfl⟩;rw[h3];simp[Instr.sliceAt,Instr.slice,run_underlying Q,R]
   .cases b
  .cases b
 .rename_i c _ J;have k:=(h.cY J).1;split at b
  .rename_i n e hp ht;obtain⟨Q,S⟩:=ow ht;split at b
   .rename_i l O i j;split at b
    .rename_i H;simp only[bY]at b;obtain⟨c',b,rfl⟩:=b;have key:∀(A:Option Addr)(m cap:Nat),a.eval x=.slice A m cap->(G=none->(m:Int)=n)->O<=cap->
      (Instr.sliceAt t (a.eval x) (I.map a.eval) (G.map a.eval) none).run X.P w=.ok (.slice (if cap=l.toNat then A else A.map (·.add (l.toNat*dV X.P e))) (O.toNat-l.toNat) (cap-l.toNat)) w:=by
      intro A m cap g hm f;have R:=Y7 (P:=X.P) true m cap (I.map a.eval) (G.map a.eval) (x_ h i) (by
       rcases x_ h j with⟨k1,k2⟩|k1
       .simp_all
       .exact .inr k1) H.1 H.2 f w
      rw[g];simp[Instr.sliceAt,Instr.slice,run_underlying Q,R,run_sizeOf w S,dV]
     cases c with
     |own T =>
      simp only[bz.part]at b;have K:=h.ig J (n:=T) (by simp[C.names]);obtain⟨y,k1,k2⟩:=cS.get k K;split at b
      .rename_i e' rows N;obtain⟨x',U,fz,L,V,k4,k5,k6,k7,k8,_,k9,o,W,_⟩:=h.row (by rw[<-h.bt];exact K) N;rw[k1]at L;cases L;split at b
       .rename_i d;simp at b;subst b;have z:n=rows.length:=by simp_all[bz.mI,bz.view]
        refine⟨_,key _ _ _ k2 (λ_=>by omega) om,.inr ⟨y,k1,om,_,rfl,λf=>?_⟩⟩;by_cases B:y.cap=l.toNat
        .grind
        .rw [bO B];have D:l.toNat*dV X.P e=l.toNat*y.sz:=by
          by_cases F:rows=[]
          .grind
          .obtain⟨r,rs,rfl⟩:=P4 F;rw[<-d.2 r rfl,o r (by simp)]
         cases y.g<;>simp[nD,D]
       .cases b
      .cases b
     |sub T l0 len=>
      simp only[bz.part]at b;have K:=h.ig J (n:=T) (by simp[C.names]);obtain⟨y,k1,aa,A,k2,Y⟩:=cS.get k K;split at b
      .rename_i e' rows N;obtain⟨x',U,fz,L,V,k4,k5,k6,k7,k8,_,k9,o,W,_⟩:=h.row (by rw[<-h.bt];exact K) N;rw[k1]at L;cases L;split at b
       .rename_i d;simp at b;subst b;have z:n=len:=by simp_all[bz.mI]
        refine⟨_,key _ _ _ k2 (λ_=>by omega) om,.inr ⟨y,k1,om,_,by rw[Nat.sub_sub],λf=>?_⟩⟩;have hA:=Y om;subst hA;by_cases B:y.cap-l0=l.toNat
        .have ab:l0=0/\l.toNat=0:=om;grind
        .rw [bO B];have D:l.toNat*dV X.P e=l.toNat*y.sz:=by
          by_cases F:rows=[]
          .grind
          .obtain⟨r,rs,rfl⟩:=P4 F;rw[<-d.2 r rfl,o r (by simp)]
         cases y.g<;>simp[nD,D,jY]
       .cases b
      .cases b
     |p q =>
      cases q with
      |sc=>cases b
      |sl rows=>
       simp only[bz.part]at b;split at b
       .rename_i d;simp at b;subst b;have z:n=rows.length:=by simp_all[bz.mI,bz.view]
        have Z:∃A cap,a.eval x=.slice A rows.length cap/\rows.length<=cap:=by
         generalize a.eval x=u at k
         cases k with
         |nil=>simp_all
         |row h0 N=>grind
        obtain⟨A,cap,g,f⟩:=Z;rw[g]at k;exact⟨_,key _ _ _ g (λ_=>by omega) om,RP.slice k d.2 om d.1⟩
       .cases b
     |nil=>
      simp only[bz.part]at b;split at b
      .rename_i h0;simp at b;subst b;have z:n=0:=by simp_all[bz.mI,bz.view]
       refine⟨_,key _ _ _ k (λ_=>by omega) om,?_⟩;show _=_;grind
      .cases b
     |_=>cases b
    .cases b
   .cases b
  .cases b
 .cases b
end
end
end
end Go.Proofs.YtndegphojkiblaaGreatDoor
