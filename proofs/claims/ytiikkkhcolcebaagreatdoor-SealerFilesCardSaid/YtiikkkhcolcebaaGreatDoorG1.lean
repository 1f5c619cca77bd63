/- A part. -/
import Derived.WalkKit
import Derived.WalkSpells
import Derived.WalkLawsBesides
import Derived.Below
import Derived.IntWalk
import Derived.Laws.AppendOwn
import Derived.Laws.MakeOwn
import Derived.Laws.OwnMore
import Derived.Laws.ComplexArith
import Derived.Laws.Tables
import Derived.Laws.BytesArg
import Derived.Laws.IdiomStrings
set_option linter.all false
set_option maxHeartbeats 4000000
set_option maxRecDepth 100000
namespace Go.Proofs.YtiikkkhcolcebaaGreatDoor
noncomputable section
abbrev bA:=@List.length_map
abbrev bB:=@if_pos
abbrev bG:=@if_neg
abbrev bW:=World
abbrev b8:=Value
abbrev b9:=@Option.map_eq_some_iff
abbrev cf:=TypeId
abbrev cg:=@Option.map_some
abbrev cw:=@List.length_append
abbrev cF:=@Bool.and_eq_true
abbrev cI:=@List.all_eq_true
abbrev cJ:=Program
abbrev cL:=Operand
abbrev cV:=@List.getElem_mem
abbrev cW:=@congrArg
abbrev cY:=@List.getElem?_map
abbrev db:=@List.getElem?_eq_getElem
abbrev dr:=@List.append_assoc
abbrev dz:=@Nat.le_refl
abbrev dE:=@List.map_cons
abbrev dH:=@List.length_take
abbrev dU:=@List.map_append
abbrev ek:=@List.getElem?_eq_some_iff
abbrev eN:=@List.mem_of_getElem?
abbrev eO:=@Int.toNat_natCast
abbrev eP:=@List.take_of_length_le
abbrev e_:=@decide_eq_true_eq
abbrev fc:=@of_decide_eq_true
abbrev fh:=@List.mem_cons
abbrev fu:=@Nat.zero_le
abbrev fE:=IntKind
abbrev fT:=@List.take_succ_eq_append_getElem
abbrev gb:=@List.lookup_cons
abbrev gd:=@List.append_nil
abbrev gg:=@List.mem_map
abbrev gh:=ByteArray
abbrev gi:=@of_decide_eq_false
abbrev gV:=@Nat.mul_le_mul_right
abbrev gW:=@List.map_map
abbrev h_:=@List.length_cons
abbrev ia:=@List.map_congr_left
abbrev ik:=@Option.getD_some
abbrev iC:=@List.map_nil
abbrev iD:=@List.getD_eq_getElem?_getD
abbrev iE:=@List.pairwise_cons
abbrev iP:=@List.mem_append
abbrev je:=@List.mem_cons_of_mem
abbrev jg:=@List.mem_cons_self
abbrev jq:=@Option.bind_eq_some_iff
abbrev jr:=@Classical.not_not
abbrev jD:=@List.getElem?_take
abbrev jE:=@List.length_drop
abbrev jW:=@List.length_nil
abbrev jX:=@List.take_length
abbrev ko:=@Option.some.injEq
abbrev kp:=@Nat.zero_add
abbrev kq:=@Array.getElem?_eq_some_iff
abbrev ku:=@List.mem_range
abbrev kJ:=@List.lookup_nil
abbrev kK:=@Bool.eq_iff_iff
abbrev kL:=@List.getElem_of_mem
abbrev kU:=@List.getElem?_drop
abbrev kV:=@Nat.add_mul
abbrev kW:=@List.size_toArray
abbrev kX:=@List.getElem?_append_right
abbrev kY:=@List.mem_singleton
abbrev kZ:=@List.nil_append
abbrev lL:=@Nat.add_zero
abbrev lM:=@List.pairwise_iff_getElem
abbrev lN:=@List.length_set
abbrev mm:=@List.getElem?_append
abbrev mo:=@List.map_take
abbrev mq:=@List.lt_irrefl
abbrev nt:=@Nat.lt_of_lt_of_le
abbrev nu:=@List.eq_nil_of_length_eq_zero
abbrev nw:=@Nat.lt_or_ge
abbrev ny:=@Array.toList_inj
abbrev nz:=@List.getElem?_append_left
abbrev nA:=@List.getElem?_eq_none
abbrev n_:=@Nat.le_trans
abbrev ob:=@List.mem_of_mem_take
abbrev oc:=@Option.some.inj
abbrev oZ:=@List.mem_of_mem_drop
abbrev o0:=@Nat.min_eq_left
abbrev o2:=@List.map_drop
abbrev pV:=@Bool.not_eq_true'
abbrev pW:=@Bool.false_eq_true
abbrev pX:=@Nat.succ_mul
abbrev pY:=@List.mapM_cons
abbrev pZ:=@Bool.or_eq_true
abbrev p0:=@Nat.lt_succ_self
abbrev p8:=@List.getElem?_cons_zero
abbrev qU:=@List.cons_append
abbrev qV:=@List.getElem?_toArray
abbrev qW:=@List.length_replicate
abbrev qX:=@Classical.byContradiction
abbrev sB:=@Array.getD_eq_getD_getElem?
abbrev sC:=@Option.isSome_iff_exists
abbrev sD:=@Array.getElem?_eq_getElem
abbrev sE:=@List.ext_getElem?
abbrev sF:=@Nat.mul_one
abbrev sG:=@List.getElem?_range
abbrev sH:=@Option.bind_some
abbrev sI:=@List.drop_zero
abbrev sJ:=@List.drop_eq_nil_of_le
abbrev sK:=@Nat.not_lt_zero
abbrev ug:=@List.mem_flatMap
abbrev uh:=@Nat.sub_self
abbrev ui:=@Array.getElem?_append
abbrev uj:=@List.mem_filterMap
abbrev uk:=@List.drop_eq_getElem_cons
abbrev um:=@Nat.eq_of_beq_eq_true
abbrev uo:=@Int.le_trans
abbrev uq:=@List.getElem_append_right
abbrev wX:=@List.mem_append_right
abbrev wY:=@Array.size_append
abbrev wZ:=@Array.getElem?_append_left
abbrev w2:=@Array.replicate_succ
abbrev w3:=@Array.replicate_zero
abbrev w5:=@List.push_toArray
abbrev w6:=@List.append_toArray
abbrev w7:=@Nat.le_succ
abbrev w8:=@List.length_singleton
abbrev w9:=@List.getElem_append_left
abbrev zD:=@Nat.add_assoc
abbrev zE:=@List.mem_append_left
abbrev zF:=@decide_eq_false_iff_not
abbrev zG:=@Int.toNat_of_nonneg
abbrev zH:=@Nat.mod_eq_of_lt
abbrev zI:=@Nat.mul_pos
abbrev zJ:=@Nat.pow_add
abbrev zK:=@Int.toNat_zero
abbrev zL:=@List.contains_eq_mem
abbrev zM:=@Nat.lt_succ_of_lt
abbrev zN:=@List.foldl_append
abbrev zO:=@List.lt_trans
abbrev zP:=@List.getElem?_set_ne
abbrev zQ:=@List.take_left
abbrev CY:=@Array.eq_empty_of_size_eq_zero
abbrev CZ:=@List.foldl_cons
abbrev C0:=@List.mem_replicate
abbrev C1:=@Nat.lt_trichotomy
abbrev C2:=@Nat.zero_mul
abbrev C3:=@Nat.shiftLeft_eq
abbrev C4:=@List.getElem?_cons_succ
abbrev C5:=@List.map_replicate
abbrev C6:=@Nat.xor_lt_two_pow
abbrev C7:=@Nat.pow_le_pow_right
abbrev Ir:=@List.getElem?_set
abbrev Is:=@Array.length_toList
abbrev Iu:=@Option.map_map
abbrev Iv:=@List.all_cons
abbrev Iw:=@Nat.add_sub_cancel
abbrev Ix:=@List.take_succ_cons
abbrev Iy:=@List.map_id
abbrev Iz:=@List.mem_filter
abbrev IA:=@List.Perm.refl
abbrev IB:=@List.drop_of_length_le
abbrev IC:=@List.not_mem_nil
abbrev ID:=@List.range_succ
abbrev IE:=@List.take_zero
abbrev IF:=@Int.add_zero
abbrev IG:=@Int.fdiv_eq_ediv_of_nonneg
abbrev IH:=@BitVec.toNat_ofInt
abbrev II:=@List.pairwise_append
abbrev IJ:=@List.filter_sublist
abbrev IK:=@List.getElem_set_ne
abbrev IL:=@List.getElem_set_self
abbrev Ql:=@List.exists_cons_of_ne_nil
abbrev Qm:=@Nat.mul_comm
abbrev Qn:=@Array.toList_map
abbrev Qo:=@Int.natCast_mul
abbrev Qp:=@List.findIdx?_cons
abbrev Qq:=@Array.getElem?_modify
abbrev Qr:=@Nat.sub_zero
abbrev Qs:=@Nat.ne_of_gt
abbrev Qt:=@Array.getElem?_extract
abbrev Qu:=@List.any_eq_true
abbrev Qv:=@List.getElem?_replicate
abbrev Qw:=@Nat.two_pow_pos
abbrev Qx:=@List.isEmpty_iff
abbrev Qy:=@List.drop_append
abbrev Qz:=@List.drop_left'
abbrev QA:=@Array.getElem?_eq_none
abbrev QB:=@Nat.mul_le_mul
abbrev QC:=@List.find?_cons
abbrev QD:=@List.find?_eq_none
abbrev QE:=@Int.pow_nonneg
abbrev QF:=@Nat.shiftRight_eq_div_pow
abbrev QG:=@List.getElem?_set_self
abbrev QH:=@BitVec.toNat_and
abbrev QI:=@List.set_append_right
abbrev QJ:=@List.set_cons_zero
abbrev QK:=@List.length_filter_le
abbrev QL:=@List.getElem_map
abbrev acn:=@Array.getElem?_setIfInBounds
abbrev aco:=@Array.getElem?_toList
abbrev acp:=@List.zipIdx_cons
abbrev acq:=@Array.getElem?_map
abbrev acr:=@Array.getElem?_range
abbrev acs:=@Nat.mul_add_mod
abbrev acu:=@Nat.min_le_left
abbrev acv:=@Option.ne_none_iff_exists'
abbrev acw:=@List.getElem?_of_mem
abbrev acx:=@Nat.le_add_right
abbrev acy:=@Array.getElem?_replicate
abbrev acz:=@List.find?_some
abbrev acA:=@List.mem_of_find?_eq_some
abbrev acB:=@Nat.lt_of_le_of_lt
abbrev acC:=@Option.ite_none_right_eq_some
abbrev acD:=@Option.map_none
abbrev acE:=@List.drop_succ_cons
abbrev acF:=@List.mem_reverse
abbrev acG:=@Bool.eq_false_or_eq_true
abbrev acH:=@List.ext_getElem
abbrev acI:=@Int.tdiv_eq_ediv_of_nonneg
abbrev acJ:=@Int.tmod_eq_emod_of_nonneg
abbrev acK:=@Nat.le_of_ble_eq_true
abbrev acL:=@Bool.eq_false_iff
abbrev acM:=@List.flatMap_append
abbrev acN:=@Nat.lt_or_gt_of_ne
abbrev acO:=@List.pairwise_singleton
abbrev acP:=@List.filter_append
abbrev acQ:=@List.filter_cons_of_pos
abbrev acR:=@List.filter_cons_of_neg
abbrev acS:=@List.filter_nil
abbrev acT:=@List.getElem_take
abbrev acU:=@List.getElem_range
abbrev aGe:=@Nat.mul_lt_mul_of_pos_right
abbrev aGf:=@List.take_append_of_le_length
section
open Go.RowKit
def ch{p:Prop}(h:p:=by simp):p:=h
def gL{p:Prop}(h:p:=by simp_all):p:=h
def fO{n:Nat}(h:1<=n:=by omega):1<=n:=h
def py{n:Nat}(h:0<=n:=by omega):0<=n:=h
def om{P:Prop}(h:P:=by omega):P:=h
def dc{P:Prop}(h:P:=by decide):P:=h
def kr{P:Prop}(h:P:=by kernel_rfl):P:=h
inductive PV where
 |sc (v:b8)
 |sl (rows:List (List PV))
 |nl
 |any
deriving Inhabited
def flat:b8->Bool
 |.bool _| .int _ _| .float _ _| .complex _ _ _| .string _| .pointer none| .map none| .nilFunc| .nilIface=>true
 |_=>false
abbrev gE:=Nat->Prop
def dS(n:Nat)(rows:List (List PV)):Prop:=∀r∈rows,r.length=n
inductive RP(M:gE)(w:bW):PV->b8->Prop
 |sc {v:b8} (h:flat v=true):RP M w (.sc v) v
 |nil {A:Option Addr} {cap:Nat}:RP M w (.sl []) (.slice A 0 cap)
 |nl {A:Option Addr}:RP M w .nl (.slice A 0 0)
 |any {v:b8}:v.oneCell'=true->RP M w .any v
 |row {rows:List (List PV)} {g o cap sz:Nat} {f:Nat->Nat->b8} (h0:rows≠ []) (hl:rows.length<=cap) (hm:cap<=maxLen)
  (hs:∀r∈rows,r.length=sz)
  (hc:∀(i:Nat)(r:List PV)(j:Nat)(p:PV),rows[i]?=some r->r[j]?=some p->w.cell? ⟨g,o+i*sz+j,none⟩=some (f i j)/\¬M g)
  (hp:∀(i:Nat)(r:List PV)(j:Nat)(p:PV),rows[i]?=some r->r[j]?=some p->RP M w p (f i j)):
  RP M w (.sl rows) (.slice (some ⟨g,o,none⟩) rows.length cap)
def ayj{v}(h:flat v=true):v.oneCell'=true:=by cases v<;>simp_all [flat,Value.oneCell']
def RP.tq{M w p v}(h:RP M w p v):v.oneCell'=true:=by
 cases h with
 |sc h=>exact ayj h
 |nil=>rfl
 |nl=>rfl
 |any h=>exact h
 |row=>rfl
def jo(M b:gE)(w w':bW):Prop:=∀g o u,w.cell? ⟨g,o,none⟩=some u->¬M g->w'.cell? ⟨g,o,none⟩=some u/\¬b g
def RP.trans{M m w w' p v}(h:RP M w p v)(t:jo M m w w'):RP m w' p v:=by
 induction h with
 |sc h=>exact .sc h
 |nil=>exact .nil
 |nl=>exact .nl
 |any h=>exact .any h
 |row u x y z q hp ih=>exact .row u x y z (λi r j p d k=>t _ _ _ (q i r j p d k).1 (q i r j p d k).2) (λi r j p d k=>ih i r j p d k)
def PV.wk:PV->PV
 |.nl=>.sl []
 |q=>q
def RP.wk{M w p v}(h:RP M w p v):RP M w p.wk v:=by
 cases h with
 |sc h=>exact .sc h
 |nil=>exact .nil
 |nl=>exact .nil
 |any h=>exact .any h
 |row d k m q t hp=>exact .row d k m q t hp
def RP.Sz{M w v}(h:RP M w .nl v):∃A,v=.slice A 0 0:=by cases h;exact⟨_,rfl⟩
def RP.eM{M w u v}(h:RP M w (.sc u) v):v=u:=by cases h;rfl
def Rows(M:gE)(w:bW)(rows:List (List PV))(v:b8):Prop:=
 (rows=[]/\∃A cap,v=.slice A 0 cap)\/∃(g o cap sz:Nat)(f:Nat->Nat->b8),v=.slice (some ⟨g,o,none⟩) rows.length cap/\rows≠ []/\rows.length<=cap/\cap<=maxLen/\dS sz rows/\
  ∀(i:Nat)(r:List PV)(j:Nat)(p:PV),rows[i]?=some r->r[j]?=some p->w.cell? ⟨g,o+i*sz+j,none⟩=some (f i j)/\RP M w p (f i j)
theorem RP.rows{M w rows v}(h:RP M w (.sl rows) v):Rows M w rows v:=by
 cases h with
 |nil=>exact .inl ⟨rfl,_,_,rfl⟩
 |row m q t u x hp=>exact .inr ⟨_,_,_,_,_,rfl,m,q,t,u,λi r j p d k=>⟨(x i r j p d k).1,hp i r j p d k⟩⟩
inductive C where
 |p (p:PV)
 |nil
 |own (n:Nat)
 |sub (n lo len:Nat)
 |ptr (n off:Nat)
 |d' (n i j:Nat)
 |ref (cells:List PV)
 |fn (f:FuncId) (eS:List Nat)
 |mp (n:Nat)
 |dead
deriving Inhabited
inductive V1 where
 |c (c:C)
 |agg (cs:List C)
deriving Inhabited
inductive V where
 |v (x:V1)
 |bM (xs:List V1)
deriving Inhabited
inductive fv where
 |box (cs:List C)
 |row (e:cf) (rows:List (List PV))
 |map (es:List (List PV))
deriving Inhabited
abbrev Hp:=List (Nat×fv)
structure Nm where
 g:Option Nat
 len:Nat
 cap:Nat
 sz:Nat
structure Env where
 N:Nat->Option Nm
 bx:List Nat
def bad(M:gE)(E:Env):gE:=λg=>M g\/∃n x,E.N n=some x/\x.g=some g
def dj(E:Env)(n:Nat)(Q:Nm->Prop):Prop:=n∈E.bx\/∃x,E.N n=some x/\Q x
def RC(M:gE)(E:Env)(w:bW):C->b8->Prop
 |.p p,v=>RP (bad M E) w p v
 |.nil,v=>v=.slice none 0 0
 |.own n,v=>dj E n λx=>v=.slice (x.g.map λg=>⟨g,0,none⟩) x.len x.cap
 |.sub n lo len,v=>dj E n λx=>lo+len<=x.len/\∃A,v=.slice A len (x.cap-lo)/\(x.cap≠lo\/lo=0->A=x.g.map λg=>⟨g,lo*x.sz,none⟩)
 |.ptr n off,v=>dj E n λx=>∃g,x.g=some g/\v=.pointer (some ⟨g,off,none⟩)
 |.d' n i j,v=>dj E n λx=>i<x.len/\∃g,x.g=some g/\v=.pointer (some ⟨g,i*x.sz+j,none⟩)
 |.ref cells,v=>∃g o,v=.pointer (some ⟨g,o,none⟩)/\∀(j:Nat)(p:PV),cells[j]?=some p->∃u,w.cell? ⟨g,o+j,none⟩=some u/\¬bad M E g/\RP (bad M E) w p u
 |.fn f eS,v=>∃us:Array b8,v=.func (.func f) #[] us/\us.size=eS.length/\∀(i n:Nat),eS[i]?=some n->∃u,us[i]?=some u/\dj E n λx=>∃g,x.g=some g/\u=.pointer (some ⟨g,0,none⟩)
 |.mp n,v=>dj E n λx=>∃g,x.g=some g/\v=.map (some g)
 |.dead,_=>True
def e7(M:gE)(E:Env)(w:bW):V1->b8->Prop
 |.c c,v=>RC M E w c v
 |.agg cs,v=>∃us:Array b8,v=.agg us/\us.size=cs.length/\∀(i:Nat)(c:C),cs[i]?=some c->∃u,us[i]?=some u/\RC M E w c u/\u.oneCell'=true
def RV(M:gE)(E:Env)(w:bW):V->b8->Prop
 |.v x,v=>e7 M E w x v
 |.bM xs,v=>∃us:Array b8,v=.tuple us/\us.size=xs.length/\∀(i:Nat)(x:V1),xs[i]?=some x->∃u,us[i]?=some u/\e7 M E w x u
def ou(n:Nat)(fz:Nat×Nat):Prop:=fz=(0,0)\/n<=fz.1
def tD(sz n:Nat)(fz:Nat×Nat):Prop:=fz=(0,0)\/(sz=1/\n<=fz.1)
def tD.ok{sz n:Nat}{fz:Nat×Nat}(h:tD sz n fz):ou n fz:=h.imp id And.right
instance {sz n:Nat}{fz:Nat×Nat}:CoeOut (tD sz n fz) (ou n fz):=⟨tD.ok⟩
def oy(B:gE)(w:bW)(m:MapEntry):List PV->Prop
 |.sc (.int .u64 z)::ps=>m.key=.int .u64 z/\∃us,m.val=.agg us/\us.size=ps.length/\∀(j:Nat)(p:PV),ps[j]?=some p->∃u,us[j]?=some u/\RP B w p u/\u.oneCell'=true
 |_=>False
def jt(B:gE)(w:bW):List MapEntry->List (List PV)->Prop
 |[],[]=>True
 |m::b,r::c=>oy B w m r/\jt B w b c
 |_,_=>False
def oy.trans{B d w w' m}(h:jo B d w w'):∀{r},oy B w m r->oy d w' m r
 |.sc (.int .u64 _)::_,⟨k,us,q,t,x⟩=>⟨k,us,q,t,λj p y=>let⟨u,k1,k2,z⟩:=x j p y; ⟨u,k1,k2.trans h,z⟩⟩
def jt.trans{B d w w'}:∀{h k},jt B w h k->jo B d w w'->jt d w' h k
 |[],[],_,_=>trivial
 |_::_,_::_,⟨q,t⟩,m=>⟨q.trans m,t.trans m⟩
def RB(P:cJ)(M:gE)(E:Env)(w:bW)(n:Nat):fv->Prop
 |.box cs=>∃x g cur e,E.N n=some x/\x.g=some g/\w.heap[g]?=some (.cells cur e (0,0))/\cur.size=cs.length/\
  ∀(i:Nat)(c:C),cs[i]?=some c->∃u,cur[i]?=some u/\RC M E w c u/\u.oneCell'=true
 |.row e rows=>∃x cur fz,E.N n=some x/\tD x.sz cur.size fz/\(∀g,x.g=some g->w.heap[g]?=some (.cells cur e fz))/\x.len=rows.length/\x.len<=x.cap/\x.cap<=maxLen/\0<x.sz/\x.sz=P.cellsOf e/\cur.size=x.cap*x.sz/\dS x.sz rows/\(x.g=none->x.cap=0)/\
  ∀(i:Nat)(r:List PV)(j:Nat)(p:PV),rows[i]?=some r->r[j]?=some p->∃u,cur[i*x.sz+j]?=some u/\RP (bad M E) w p u
 |.map d=>∃x g b clock,E.N n=some x/\x.g=some g/\w.heap[g]?=some (.map b clock)/\jt (bad M E) w b.toList d
structure iX(M:gE)(E E':Env)(w w':bW):Prop where
 cell:jo (bad M E) (bad M E') w w'
 name:∀n x,E.N n=some x->n∈E'.bx\/E'.N n=some x
 bx:∀n,n∈E.bx->n∈E'.bx
section
variable{M:gE}{E E':Env}{w w':bW}
def RP.goes(d:iX M E E' w w'){p v}(h:RP (bad M E) w p v):RP (bad M E') w' p v:=h.trans d.cell
def dj.goes(k:iX M E E' w w'){n Q}(h:dj E n Q):dj E' n Q:=by
 rcases h with h| ⟨x,m,q⟩
 .exact .inl (k.bx n h)
 .rcases k.name n x m with d|d
  .exact .inl d
  .exact .inr ⟨x,d,q⟩
def RC.goes(d:iX M E E' w w'){c v}(h:RC M E w c v):RC M E' w' c v:=by
 cases c with
 |p p=>exact RP.goes d h
 |nil=>exact h
 |own n=>exact dj.goes d h
 |sub n lo len=>exact dj.goes d h
 |ptr n off=>exact dj.goes d h
 |d' n i j=>exact dj.goes d h
 |ref cells=>
  obtain⟨g,o,q,t⟩:=h;refine⟨g,o,q,λj p y=>?_⟩;obtain⟨u,k,m,x⟩:=t j p y;exact⟨u,(d.cell _ _ _ k m).1,(d.cell _ _ _ k m).2,RP.goes d x⟩
 |fn f eS=>
  obtain⟨us,q,t,k⟩:=h;exact⟨us,q,t,λi n z=>let⟨u,m,x⟩:=k i n z; ⟨u,m,x.goes d⟩⟩
 |mp n=>exact dj.goes d h
 |dead=>trivial
def e7.goes(d:iX M E E' w w'){x v}(h:e7 M E w x v):e7 M E' w' x v:=by
 cases x with
 |c c=>exact RC.goes d h
 |agg cs=>
  obtain⟨us,k,m,q⟩:=h;exact⟨us,k,m,λi c t=>let⟨u,y,z,B⟩:=q i c t; ⟨u,y,z.goes d,B⟩⟩
def RV.goes(d:iX M E E' w w'){x v}(h:RV M E w x v):RV M E' w' x v:=by
 cases x with
 |v x=>exact e7.goes d h
 |bM xs=>
  obtain⟨us,k,m,q⟩:=h;exact⟨us,k,m,λi c t=>let⟨u,y,z⟩:=q i c t; ⟨u,y,z.goes d⟩⟩
def RB.goes{P}(t:iX M E E' w w'){n}(O:n∉E'.bx)(y:∀x g,E.N n=some x->x.g=some g->w'.heap[g]?=w.heap[g]?){b}(h:RB P M E w n b):RB P M E' w' n b:=by
 have z:∀x,E.N n=some x->E'.N n=some x:=λx Q=>(t.name n x Q).resolve_left O
 cases b with
 |box cs=>
  obtain⟨x,g,cur,e,d,k,m,q,B⟩:=h;exact⟨x,g,cur,e,z x d,k,(y x g d k).trans m,q,λi c D=>let⟨u,F,G,H⟩:=B i c D; ⟨u,F,G.goes t,H⟩⟩
 |row e rows=>
  obtain⟨x,cur,fz,d,I,m,q,B,F,G,J,H,R,K,S⟩:=h;exact⟨x,cur,fz,z x d,I,λg N=>(y x g d N).trans (m g N),q,B,F,G,J,H,R,K,λi r j p D T=>let⟨u,k1,k2⟩:=S i r j p D T; ⟨u,k1,k2.goes t⟩⟩
 |map W=>
  obtain⟨x,g,U,clock,d,k,m,q⟩:=h;exact⟨x,g,U,clock,z x d,k,(y x g d k).trans m,q.trans t.cell⟩
end
structure Frame(K:gE)(w w':bW):Prop where
 os:w'.os=w.os
 tape:w'.tape=w.tape
 output:w'.output=w.output
 size:w.heap.size<=w'.heap.size
 block:∀g,g<w.heap.size->¬K g->w'.heap[g]?=w.heap[g]?
def Frame.refl(K)(w):Frame K w w:=⟨rfl,rfl,rfl,dz _,λ_ _ _=>rfl⟩
def Frame.trans{K K' a b c}(h:Frame K a b)(k:Frame K' b c)(q:∀g,g<a.heap.size->K' g->K g):Frame K a c:=
 ⟨k.os.trans h.os,k.tape.trans h.tape,k.output.trans h.output,n_ h.size k.size,λg d m=>
  (k.block g (nt d h.size) λt=>m (q g d t)).trans (h.block g d m)⟩
def Frame.B9{K w w'}(h:Below w.heap.size w w'):Frame K w w':=⟨h.os,h.tape,h.output,h.size,λg d _=>h.block g d⟩
structure bC where
 tmps:List V
 heap:Hp
 bx:List Nat
 next:Nat
structure Fx where
 P:cJ
 M:gE
 K:gE
 w0:bW
 N0:Nat->Option Nm
 k0:Nat
 D:List Deferred
structure Rel(X:Fx)(E:Env)(st:bC)(a:Act)(w:bW):Prop where
 defers:a.defers=X.D
 bx:E.bx=st.bx
 frame:Frame X.K X.w0 w
 jJ:∀g,X.M g->g<X.w0.heap.size
 fj:∀n x,E.N n=some x->n<st.next
 names:∀n x g,E.N n=some x->x.g=some g->g<w.heap.size/\(X.K g\/X.w0.heap.size<=g)/\¬X.M g
 inj:∀n m x y g,E.N n=some x->E.N m=some y->x.g=some g->y.g=some g->n=m
 gl:∀m,m<X.k0->E.N m=none\/E.N m=X.N0 m
 kb:X.k0<=st.next
 lH:∀n∈st.bx,n<st.next
 size:a.tmps.size=st.tmps.length
 tmps:∀(i:Nat)(v:V),st.tmps[i]?=some v->∃u,a.tmps[i]?=some u/\RV X.M E w v u
 heap:∀n b,st.heap.lookup n=some b->n∈st.bx\/RB X.P X.M E w n b
def bC.put(st:bC)(d:Option Nat)(v:V):bC:=
 match d with
 |some d=> {st with tmps:=st.tmps.set d v}
 |none=>st
def Rel.put{X E st a w}(h:Rel X E st a w)(d){v u}(q:RV X.M E w v u):Rel X E (st.put d v) (a.put d u) w:=by
 cases d with
 |none=>exact h
 |some d=>
  refine{h with size:=by simp[Act.put,bC.put,h.size],tmps:= ?_,defers:=h.defers,heap:=h.heap,bx:=h.bx};intro i x k;simp only[bC.put,Ir]at k;simp only[Act.put,acn];split at k
  .rename_i m;subst m;split at k
   .rename_i t;simp at k;subst k;exact⟨u,by simp[h.size,t],q⟩
   .cases k
  .rename_i m;obtain⟨y,z,B⟩:=h.tmps i x k;exact⟨y,by simp[m,z],B⟩
structure iI where
 cq:Hp
 bx:List Nat
def bC.ez(st:bC)(e:iI):bC:={st with heap:=e.cq++st.heap,bx:=e.bx++st.bx}
def TP(n)(a b:Hp):List.lookup n (a++b)=(List.lookup n a).or (List.lookup n b):=by
 induction a with
 |nil=>simp
 |cons x a ih=>
  obtain⟨k,c⟩:=x;simp only[qU,gb];split<;>simp[ih]
def Rel.Yh{X E E' st a w w'}(h:Rel X E st a w)(e){nx}(dX:st.next<=nx)(hG:iX X.M E E' w w')(hg:E'.bx=e.bx++st.bx)(hF:Frame X.K X.w0 w')
 (HY:∀n x,E'.N n=some x->n<nx)
 (PJ:∀n x g,E'.N n=some x->x.g=some g->g<w'.heap.size/\(X.K g\/X.w0.heap.size<=g)/\¬X.M g)
 (aDP:∀n m x y g,E'.N n=some x->E'.N m=some y->x.g=some g->y.g=some g->n=m)
 (aDQ:∀m,m<X.k0->E'.N m=none\/E'.N m=E.N m)
 (pP:∀n∈e.bx,n<nx)
 (hold:∀n,n∉E'.bx->e.cq.lookup n=none->(∀x g,E.N n=some x->x.g=some g->w'.heap[g]?=w.heap[g]?)\/∀b,st.heap.lookup n=some b->RB X.P X.M E' w' n b)
 (aDR:∀n b,e.cq.lookup n=some b->n∈E'.bx\/RB X.P X.M E' w' n b):Rel X E' {st.ez e with next:=nx} a w' where
 defers:=h.defers
 bx:=hg
 frame:=hF
 jJ:=h.jJ
 fj:=HY
 names:=PJ
 inj:=aDP
 gl:=λm hm=>by
  rcases aDQ m hm with h1|h1
  .exact .inl h1
  .rw[h1];exact h.gl m hm
 kb:=n_ h.kb dX
 lH:=λn hn=>by
  rcases iP.1 hn with h1|h1
  .exact pP n h1
  .exact nt (h.lH n h1) dX
 size:=h.size
 tmps:=λi v hi=>let⟨u,h1,h2⟩:=h.tmps i v hi; ⟨u,h1,h2.goes hG⟩
 heap :=λn b hl=>by
  simp only[bC.ez,TP]at hl;show n∈e.bx++st.bx\/_;rw[<-hg]
  cases hu:e.cq.lookup n with
  |some b'=>
   rw[hu]at hl;simp at hl;subst hl;exact aDR n b' hu
  |none=>
   rw[hu]at hl;by_cases hn:n∈E'.bx
   .exact .inl hn
   .rcases h.heap n b hl with h1|h1
    .exact absurd (hG.bx n (by rw[h.bx];exact h1)) hn
    .rcases hold n hn hu with h2|h2
     .exact .inr (h1.goes hG hn h2)
     .exact .inr (h2 b hl)
def Rel.step{X E E' st a w w'}(h:Rel X E st a w)(e){nx}(t:st.next<=nx)(F:iX X.M E E' w w')(G:E'.bx=e.bx++st.bx)(H:Frame X.K X.w0 w')
 (u:∀n x,E'.N n=some x->n<nx)
 (z:∀n x g,E'.N n=some x->x.g=some g->g<w'.heap.size/\(X.K g\/X.w0.heap.size<=g)/\¬X.M g)
 (k:∀n m x y g,E'.N n=some x->E'.N m=some y->x.g=some g->y.g=some g->n=m)
 (d:∀m,m<X.k0->E'.N m=none\/E'.N m=E.N m)
 (B:∀n∈e.bx,n<nx)
 (hold:∀n x g,E.N n=some x->x.g=some g->n∉E'.bx->e.cq.lookup n=none->w'.heap[g]?=w.heap[g]?)
 (q:∀n b,e.cq.lookup n=some b->n∈E'.bx\/RB X.P X.M E' w' n b):Rel X E' {st.ez e with next:=nx} a w':=
 h.Yh e t F G H u z k d B (λn I J=>.inl λx g K D=>hold n x g K D I J) q
def ZV{M E E' w w'}(hB:∀g,g<w.heap.size->w'.heap[g]?=w.heap[g]?)(hM:∀g,g<w.heap.size->bad M E' g->bad M E g)
 (hN:∀n x,E.N n=some x->n∈E'.bx\/E'.N n=some x) (hg:∀n,n∈E.bx->n∈E'.bx):iX M E E' w w' where
 cell:=λg o u h1 h2=>by
  have hlt:=World.block_lt_of_cell? w ⟨g,o,none⟩ h1;exact⟨(World.cell?_of_block (w:=w) (a:=⟨g,o,none⟩) (hB g hlt)).trans h1,λh3=>h2 (hM g hlt h3)⟩
 name:=hN
 bx:=hg
def Rel.drew{X E st a w}(h:Rel X E st a w):Rel X E st a w.drew:=by
 have k:iX X.M E E w w.drew:=ZV (λ_ _=>rfl) (λ_ _ h=>h) (λ_ _ h=>.inr h) (λ_ h=>h)
 exact{h with
  frame:=⟨h.frame.os,h.frame.tape,h.frame.output,h.frame.size,h.frame.block⟩
  defers:=h.defers
  bx:=h.bx
  size:=h.size
  names:=h.names
  fj:=h.fj
  tmps:=λi v q=>let⟨u,d,t⟩:=h.tmps i v q; ⟨u,d,t.goes k⟩
  heap:=λn b x=>by
   rcases h.heap n b x with d|d
   .exact .inl d
   .by_cases m:n∈E.bx
    .exact .inl (by rw[<-h.bx];exact m)
    .exact .inr (d.goes k m (λ_ _ _ _=>rfl))}
def Env.add(E:Env)(d:Nat)(x:Nm):Env:={E with N:=λn=>if n=d then some x else E.N n}
def Rel.fresh{X E st a w w'}(h:Rel X E st a w)(d)(Q:E.N d=none)(R:X.k0<=d)(S:d<st.next)
 (J:Below w.heap.size w w') {x} (T:x.g=none\/x.g=some w.heap.size/\w.heap.size<w'.heap.size) (b) (U:iX X.M E (E.add d x) w w'->RB X.P X.M (E.add d x) w' d b):
 iX X.M E (E.add d x) w w'/\Rel X (E.add d x) (st.ez ⟨[(d,b)],[]⟩) a w':=by
 have B:∀n y g,E.N n=some y->y.g=some g->g<w.heap.size:=λn y g k t=>(h.names n y g k t).1
 have u:∀g,x.g=some g->g=w.heap.size/\w.heap.size<w'.heap.size:=λg t=>by
  rcases T with q|q
  .rw[q]at t;cases t
  .rw[q.1]at t;cases t;exact⟨rfl,q.2⟩
 have O:iX X.M E (E.add d x) w w':=ZV J.block (λg t P=>by
  rcases P with q| ⟨n,y,q,G⟩
  .exact .inl q
  .simp only[Env.add]at q;split at q
   .cases q;have:=u g G;omega
   .exact .inr ⟨n,y,q,G⟩) (λn y k=>by
  right;simp only[Env.add];split
  .subst n;rw[Q]at k;cases k
  .exact k) (λ_ h=>h)
 refine⟨O,h.step ⟨[(d,b)],[]⟩ (nx:=st.next) (dz _) O h.bx (h.frame.trans (Frame.B9 (K:=λ_=>False) J) (λ_ _ h=>h.elim)) ?_ ?_ ?_ ?_ (by simp) ?_ ?_⟩
 .intro n y k;simp only[Env.add]at k;split at k
  .omega
  .exact h.fj n y k
 .intro n y g k t;simp only[Env.add]at k;split at k
  .cases k;obtain⟨q,G⟩:=u g t;subst q;exact⟨G,.inr h.frame.size,λW=>by have:=h.jJ _ W;have:=h.frame.size;omega⟩
  .obtain⟨q,G,Y⟩:=h.names n y g k t;exact⟨by have:=J.size;omega,G,Y⟩
 .intro n m y z g k H D F;simp only[Env.add]at k H;split at k<;>split at H
  .omega
  .cases k;have:=B m z g H F;have:=u g D;omega
  .cases H;have:=B n y g k D;have:=u g F;omega
  .exact h.inj n m y z g k H D F
 .intro m P;right;simp only[Env.add];rw[bG om]
 .intro n y g k t _ _;exact J.block _ (B n y g k t)
 .intro n Z N;simp only[gb,kJ]at N;split at N
  .rename_i I;simp at I;subst I;cases N;exact .inr (U O)
  .cases N
open Classical in
def jC{α:Type}(c:Prop)(x:Option α):Option α:=if c then x else none
def kO{α c}(h:c)(x:Option α):jC c x=x:=bB h
def bitsOf(k:fE)(r:BitVec k.bits):b8:=.int k (k.wrap r.toNat)
def jZ(f:Bool)(op:BinOp):b8->b8->Option b8
 |.int k a,.int e b=>
  match op with
  |.shl=>jC (0<=b) (some (.int k (k.wrap (a*2^ (min b.toNat k.bits)))))
  |.shr=>jC (0<=b) (some (.int k (a.fdiv (2^ (min b.toNat k.bits)))))
  |.add=>if k=e then some (.int k (k.wrap (a+b)))else none
  |.sub=>if k=e then some (.int k (k.wrap (a-b)))else none
  |.mul=>if k=e then some (.int k (k.wrap (a*b)))else none
  |.quo=>jC (k=e/\b≠0) (some (.int k (k.wrap (a.tdiv b))))
  |.rem=>jC (k=e/\b≠0) (some (.int k (a.tmod b)))
  |.and=>if k=e then some (bitsOf k (BitVec.ofInt k.bits a&&&BitVec.ofInt k.bits b))else none
  |.or=>if k=e then some (bitsOf k (BitVec.ofInt k.bits a|||BitVec.ofInt k.bits b))else none
  |.xor=>if k=e then some (bitsOf k (BitVec.ofInt k.bits a^^^BitVec.ofInt k.bits b))else none
  |.andNot=>if k=e then some (bitsOf k (BitVec.ofInt k.bits a&&& ~~~ BitVec.ofInt k.bits b))else none
  |.eql=>if k=e then some (.bool (decide (a=b)))else none
  |.neq=>if k=e then some (.bool (decide (a≠b)))else none
  |.lss=>if k=e then some (.bool (decide (a<b)))else none
  |.leq=>if k=e then some (.bool (decide (a<=b)))else none
  |.gtr=>if k=e then some (.bool (decide (b<a)))else none
  |.geq=>if k=e then some (.bool (decide (b<=a)))else none
 |.string a,.string b=>
  match op with
  |.add=>jC (((a.size+b.size:Nat):Int)<=9223372036854775807) (some (.string (a++b)))
  |.eql=>some (.bool (a.toList==b.toList))
  |.neq=>some (.bool (!(a.toList==b.toList)))
  |.lss=>some (.bool (Op.bytesLess a.toList b.toList))
  |.leq=>some (.bool (Op.bytesLess a.toList b.toList||a.toList==b.toList))
  |.gtr=>some (.bool (!(Op.bytesLess a.toList b.toList||a.toList==b.toList)))
  |.geq=>some (.bool (!(Op.bytesLess a.toList b.toList)))
  |_=>none
 |.bool a,.bool b=>
  match op with
  |.eql=>if f then some (.bool (a==b))else none
  |.neq=>if f then some (.bool (!(a==b)))else none
  |_=>none
 |.complex k a b,.complex e c d=>
  match op with
  |.add=>if k=e then(cSumBits .add k a b c d).map λx=>.complex k x.1 x.2 else none
  |_=>none
 |_,_=>none
def rM(P:cJ)(t:cf):Bool:=match P.underlying t with|some .bool=>true|_=>false
def aaD{P t}(h:rM P t=true):P.underlying t=some .bool:=by
 unfold rM at h;split at h<;>simp_all
def aud(a b:Int):(a==b)=decide (a=b):=by rw[kK];simp
def aBN(a b:Int):(a !=b)=decide (a≠b):=by rw[kK];simp
def aye{b op u v r}(h:jZ b op u v=some r):flat r=true:=by
 unfold jZ at h;cases u<;>cases v<;>simp only[]at h<;>first| (cases h;done)| (cases op<;>simp[bitsOf,jC]at h<;>first| (obtain⟨_,rfl⟩:=h;rfl)| (subst h;rfl)| (obtain⟨_,_,_,_,rfl⟩:=h;rfl))
def avI{P op u v r}(t)(x y)(h:jZ (rM P t) op u v=some r)(w):
 (do eqGuard op t x y u v;binOp op t u v).run P w=.ok r w:=by
 have d:(eqGuard op t x y u v).run P w=.ok () w:=by
  unfold eqGuard;unfold jZ at h;cases u<;>cases v<;>simp only[]at h<;>first| (cases h;done)| (cases op<;>simp)
 simp only[Sem.run_bind,d,Result.andThen_ok];cases u<;>cases v<;>first
  |(simp[jZ]at h;done)
  |(cases op<;>simp[jZ,bitsOf,jC]at h<;>obtain⟨c,rfl⟩:=h<;>simp_all [binOp,Op.shift,Op.intArith,Op.intDiv,Op.intBits,Op.intCmp,aud,aBN]<;> (try omega);done)
  |skip
 .cases op<;>simp only[jZ]at h<;>first
   |(cases h;done)
   |(split at h<;>simp at h;subst h;first|exact run_eql_bool w _ _ _ (aaD (by assumption))|exact run_neq_bool w _ _ _ (aaD (by assumption)))
 .cases op<;>simp only[jZ]at h<;>first
   |(cases h;done)
   |(split at h
     .rename_i e;subst e;simp only[b9]at h;obtain⟨⟨a,b⟩,c,rfl⟩:=h;exact run_complex_sum w .add (.inl rfl) t _ _ _ _ _ _ _ c
     .cases h)
 .cases op<;>simp only[jZ,jC,ko]at h<;>first
   |(cases h;done)
   |(split at h<;>simp at h;subst h;exact run_string_add_sum w _ _ om)
   |(subst h;simp[binOp,Op.stringOp];done)
end
section
open Go.RowKit
open Classical
def mL:b8->C
 |.slice none 0 0=>.nil
 |v=>if flat v then .p (.sc v)else .dead
def ofValue:b8->V1
 |.agg us=>if us.toList.all (·.oneCell')then .agg (us.toList.map mL)else .c .dead
 |.func (.func f) first captured=>if first.size=0/\captured.size=0 then .c (.fn f [])else .c .dead
 |v=>.c (mL v)
section
variable(M:gE)(E:Env)(w:bW)
theorem Po(v):RC M E w (mL v) v:=by
 unfold mL;split
 .rfl
 .split
  .exact .sc (by assumption)
  .trivial
def ayP(v):e7 M E w (ofValue v) v:=by
 unfold ofValue;split
 .split
  .rename_i us hall;refine⟨us,rfl,by simp,λi c b=>?_⟩;simp only[cY,b9,aco]at b;obtain⟨u,d,rfl⟩:=b;grind[Po,Array.mem_of_getElem]
  .trivial
 .split
  .rename_i f first captured e
   have d:first= #[]:=CY e.1
   exact⟨captured,by rw[d],e.2,λi n b=>by simp at b⟩
  .trivial
 .exact Po M E w v
end
def C.names:C->List Nat
 |.own n=>[n]| .sub n _ _=>[n]| .ptr n _=>[n]| .d' n _ _=>[n]| .mp n=>[n]| .fn _ eS=>eS|_=>[]
def eH{p:Prop}(h:p:=by simp[Go.Proofs.YtiikkkhcolcebaaGreatDoor.C.names]):p:=h
def eZ{p:Prop}(h:p:=by simp[Op.operands]):p:=h
def V1.names:V1->List Nat
 |.c x=>x.names
 |.agg xs=>xs.flatMap C.names
def V.names:V->List Nat
 |.v x=>x.names
 |.bM xs=>xs.flatMap V1.names
def C.pb:C->Bool
 |.dead=>true
 |_=>false
def V.pb:V->Bool
 |.v (.c c)=>c.pb
 |_=>false
def V.live(bx:List Nat)(v:V):Bool:= !v.pb&&v.names.all λn=> !bx.contains n
def bC.arg(st:bC):cL->Option V
 |.tmp t=>match st.tmps[t]? with
  |some x=>if x.live st.bx then some x else none
  |none=>none
 |.const v=>if(V.v (ofValue v)).live st.bx then some (.v (ofValue v))else none
 |.func f=>some (.v (.c (.fn f [])))
 |.global _=>none
def Rel.arg{X E st a w}(h:Rel X E st a w){x v}(d:st.arg x=some v):RV X.M E w v (a.eval x)/\v.live st.bx=true:=by
 cases x with
 |tmp t=>
  simp only[bC.arg]at d;split at d
  .rename_i y k;split at d
   .simp at d;subst d;obtain⟨u,m,q⟩:=h.tmps t y k;refine⟨?_,by assumption⟩;simp only[Act.eval,sB,m,ik];exact q
   .cases d
  .cases d
 |const z=>
  simp only[bC.arg]at d;split at d
  .simp at d;subst d;exact⟨ayP X.M E w z,by assumption⟩
  .cases d
 |global g=>cases d
 |func f=>
  simp only[bC.arg,ko]at d;subst d;exact⟨⟨#[],by simp[Act.eval],rfl,λi n B=>by simp at B⟩,by rfl⟩
def Pw{bx c}(h:(V.v (.c c)).live bx=true):c.pb=false/\∀n∈c.names,n∉bx:=by
 simp only[V.live,cF,pV,cI,V.pb]at h;exact⟨h.1,λn b d=>by have:=h.2 n b;simp[d]at this⟩
def aAO{bx cs}(h:(V.v (.agg cs)).live bx=true):∀c∈cs,∀n∈c.names,n∉bx:=by
 simp only[V.live,cF,pV,cI]at h;exactλc b n d e=>by have:=h.2 n (ug.2 ⟨c,b,d⟩);simp[e]at this
def dj.get{E n Q}(h:dj E n Q)(d:n∉E.bx):∃x,E.N n=some x/\Q x:=h.resolve_left d
def RC.tq{M E w c v}(h:RC M E w c v)(k:c.pb=false)(d:∀n∈c.names,n∉E.bx):v.oneCell'=true:=by
 cases c with
 |p q=>exact RP.tq h
 |nil=>cases h;rfl
 |own n=>obtain⟨x,_,rfl⟩:=dj.get h (d n eH);rfl
 |sub n lo len=>
  obtain⟨x,_,_,A,rfl,_⟩:=dj.get h (d n eH);rfl
 |ptr n off=>obtain⟨x,_,g,_,rfl⟩:=dj.get h (d n eH);rfl
 |d' n i j=>obtain⟨x,_,_,g,_,rfl⟩:=dj.get h (d n eH);rfl
 |ref cells=>obtain⟨g,o,rfl,_⟩:=h;rfl
 |fn f eS=>obtain⟨us,rfl,_⟩:=h;rfl
 |mp n=>obtain⟨x,_,g,_,rfl⟩:=dj.get h (d n eH);rfl
 |dead=>cases k
def V1.cells:V1->List C
 |.c x=>[x]
 |.agg xs=>xs
def aiO{v:b8}(h:v.oneCell'=true):v.cells= #[v]:=by cases v<;>simp_all [Value.cells,Value.oneCell']
def e7.cells{M E w x v}(h:e7 M E w x v)(t:(V.v x).live E.bx=true):
 v.cells.size=x.cells.length/\∀(i:Nat)(c),x.cells[i]?=some c->∃u,v.cells[i]?=some u/\RC M E w c u/\u.oneCell'=true:=by
 cases x with
 |c c=>
  obtain⟨d,k⟩:=Pw t;have q:=RC.tq h d k;rw[aiO q];refine⟨rfl,λi y m=>?_⟩
  cases i with
  |zero=>simp[V1.cells]at m;subst m;exact⟨v,rfl,h,q⟩
  |succ i=>simp[V1.cells]at m
 |agg cs=>
  obtain⟨us,rfl,d,k⟩:=h;exact⟨d,k⟩
def bC.view(st:bC):C->Option (List (List PV))
 |.p (.sl rows)=>some rows
 |.nil=>some []
 |.own n=>match st.heap.lookup n with
  |some (.row _ rows)=>some rows
  |_=>none
 |.sub n lo len=>match st.heap.lookup n with
  |some (.row _ rows)=>some ((rows.drop lo).take len)
  |_=>none
 |_=>none
def Rel.row{X E st a w}(h:Rel X E st a w){n}(d:n∉st.bx){b}(k:st.heap.lookup n=some b):RB X.P X.M E w n b:=(h.heap n b k).resolve_left d
def NX{M w g o cap sz cur e fz rows}(c:w.heap[g]?=some (.cells cur e fz))(d:rows.length<=cap)(f:cap<=maxLen)(hR:dS sz rows)
 (h:∀(i)(r)(j)(p),rows[i]?=some r->r[j]?=some p->∃u,cur[o+i*sz+j]?=some u/\RP M w p u):Rows M w rows (.slice (some ⟨g,o,none⟩) rows.length cap):=by
 by_cases b:rows=[]
 .subst b;exact .inl ⟨rfl,_,_,rfl⟩
 .refine .inr ⟨g,o,cap,sz,λi j=>(cur[o+i*sz+j]?).getD undef,rfl,b,d,f,hR,λi r j p k l=>?_⟩;obtain⟨u,m,n⟩:=h i r j p k l;simp only[cell_of_row w g _ cur e fz c,m,ik];simp_all
def Rel.view{X E st a w}(h:Rel X E st a w){c v rows}(z:RC X.M E w c v)(J:∀n∈c.names,n∉st.bx)(d:st.view c=some rows):
 Rows (bad X.M E) w rows v:=by
 cases c with
 |p q=>
  cases q with
  |sc u=>simp[bC.view]at d
  |sl rs=>simp[bC.view]at d;subst d;exact RP.rows z
  |nl=>simp[bC.view]at d
  |any=>simp[bC.view]at d
 |nil=>simp[bC.view]at d;subst d;cases z;exact .inl ⟨rfl,_,_,rfl⟩
 |own n=>
  have k:=J n eH;simp only[bC.view]at d;split at d
  .rename_i e rs B;simp at d;subst d;obtain⟨x,cur,fz,D,F,G,K,O,N,P,_,Q,H,m,R⟩:=h.row k B;obtain⟨y,k1,rfl⟩:=dj.get z (by rw[h.bx];exact k);rw[D]at k1;cases k1
   cases t:x.g with
   |none=>
    have:=m t;have I:x.len=0:=om;rw[I];exact .inl ⟨nu om,_,_,rfl⟩
   |some g=>
    rw[K];exact NX (G g t) om N H (λi r j p S T=>by simp_all)
  .cases d
 |sub n lo len=>
  have k:=J n eH;simp only[bC.view]at d;split at d
  .rename_i e rs B;simp at d;subst d;obtain⟨x,cur,fz,D,F,G,K,O,N,P,_,Q,H,m,R⟩:=h.row k B;obtain⟨y,k1,k2,A,rfl,U⟩:=dj.get z (by rw[h.bx];exact k);rw[D]at k1;cases k1;have hlen:((rs.drop lo).take len).length=len:=by simp;omega
   by_cases I:len=0
   .subst I;exact .inl ⟨by simp,_,_,rfl⟩
   .cases t:x.g with
    |none=>simp_all
    |some g=>
    rw[U (.inl om),t]
    conv=>rhs;rw[<-hlen]
    refine NX (G g t) om om (λr W=>H r (oZ (ob W))) (λi r j p S T=>?_);grind
  .cases d
 |ptr=>cases d
 |d'=>cases d
 |ref=>cases d
 |fn=>cases d
 |mp=>cases d
 |dead=>cases d
def eG(P:cJ)(t:cf):Nat:=P.cellsOf t
def mE(P:cJ)(t:cf):Bool:=match P.underlying t with|some (.struct _)|some (.array _ _)=>true|_=>false
def BV(P:cJ)(t:cf)(f:Nat):Option Nat:=
 match P.underlying t with
 |some (.struct c)=>match c[f]? with
  |some b=>match P.info? b.type with
   |some i=>if i.size=0 then none else some b.offset
   |none=>none
  |none=>none
 |_=>none
def f_(P:cJ)(t:cf):Option cf:=match P.underlying t with|some (.slice e)=>if(P.info? e).isSome then some e else none|_=>none
def mr(P:cJ)(t:cf):Option (Nat×cf):=match P.underlying t with|some (.array n e)=>if(P.info? e).isSome then some (n,e)else none|_=>none
def Ha(P:cJ)(t:cf):Option fE:=match P.underlying t with|some (.int k)=>some k|_=>none
def qO(P:cJ)(t:cf):Option (List C):=match P.info? t with
 |some i=>match i.zero with
  |some z=>if z.cells.toList.all (·.oneCell')then some (z.cells.toList.map mL)else none
  |none=>none
 |none=>none
def Bd(P:cJ)(t:cf):Bool:=(P.underlying t).isSome
def oq(P:cJ)(t:cf):Bool:=(P.info? t).isSome
def mf(P:cJ)(t:cf)(cs:List C):Option V:=
 if mE P t then(if eG P t<=cs.length/\oq P t=true then some (.v (.agg (cs.take (eG P t))))else none)
 else match Bd P t,cs with
  |true,c::_=>some (.v (.c c))
  |_,_=>none
def FB{P t}(w){d}(h:P.underlying t=some d):(isAgg t).run P w=.ok (mE P t) w:=by
 unfold isAgg mE;rw[h];simp only[Sem.run_bind,run_underlying h,Result.andThen_ok];cases d<;>rfl
def run_sizeOf{P t}(w)(h:(P.info? t).isSome=true):(sizeOf t).run P w=.ok (eG P t) w:=by
 obtain⟨i,b⟩:=sC.1 h;simp[sizeOf,typeInfo,b,eG,Program.cellsOf]
theorem pN(g o k):(⟨g,o,none⟩:Addr).add k=⟨g,o+k,none⟩:=by unfold Addr.add;simp_all
def XW{P t}(h:mE P t=true):∃d,P.underlying t=some d:=by
 unfold mE at h;grind
def aia{P M E w t off}{cs:List C}{us v}(b:mf P t (cs.drop off)=some v)(m:us.size=cs.length)
 (h:∀(i:Nat)(c),cs[i]?=some c->∃u,us[i]?=some u/\RC M E w c u/\u.oneCell'=true):
 ∃u,(part t us off).run P w=.ok u w/\RV M E w v u:=by
 unfold mf at b;split at b
 .rename_i hagg;split at b
  .rename_i f;cases b;obtain⟨d,e⟩:=XW hagg;refine⟨.agg (us.extract off (off+eG P t)),?_,_,rfl,?_,?_⟩
   .unfold part;simp only[Sem.run_bind,FB w e,hagg,Result.andThen_ok,if_true,run_sizeOf w f.2,Sem.run_pure]
   .grind
   grind
  .cases b
 .split at b
  .rename_i c l e g;cases b;obtain⟨d,e⟩:=sC.1 e;have j:cs[off]?=some c:=by
    have:(cs.drop off)[0]?=some c:=by rw[g];rfl
    simpa using this
   obtain⟨u,n,k,_⟩:=h off c j;refine⟨u,?_,k⟩;unfold part;simp_all[mE,FB,pW]
  .cases b
def DI{P M E w t g o cs v}(b:mf P t cs=some v)
 (h:∀(j)(c),cs[j]?=some c->∃u,w.cell? ⟨g,o+j,none⟩=some u/\RC M E w c u/\u.oneCell'=true):
 ∃u,(loadVar t ⟨g,o,none⟩).run P w=.ok u w/\RV M E w v u:=by
 unfold mf at b;split at b
 .rename_i hagg;split at b
  .rename_i e;simp at b;subst b;obtain⟨d,f⟩:=XW hagg;have m:∀j,j<eG P t->∃u,w.cell? ⟨g,o+j,none⟩=some u/\∀c,cs[j]?=some c->RC M E w c u/\u.oneCell'=true:=by
    intro j i;obtain⟨u,n,k,p⟩:=h j _ (db (nt i e.1));grind
   have hrun:=run_loadCells (P:=P) w ⟨g,o,none⟩ (eG P t) (λj=>(w.cell? ⟨g,o+j,none⟩).getD undef) (λj i=>by
    grind[pN])
   refine⟨.agg ((List.range (eG P t)).map λj=>(w.cell? ⟨g,o+j,none⟩).getD undef).toArray,?_,_,rfl,?_,?_⟩
   .unfold loadVar;simp only[Sem.run_bind,FB w f,hagg,Result.andThen_ok,if_true,run_sizeOf w e.2,hrun,Sem.run_pure]
   .simp;omega
   grind
  .cases b
 .split at b
  .rename_i c l f;simp at b;subst b;obtain⟨d,f⟩:=sC.1 f;obtain⟨u,n,k,_⟩:=h 0 c rfl;refine⟨u,?_,k⟩;unfold loadVar;simp_all[mE,FB,pW]
  .cases b
abbrev V.sc(v:b8):V:=.v (.c (.p (.sc v)))
abbrev V.c(c:C):V:=.v (.c c)
def mg(P:cJ)(t:cf)(p:PV):PV:=if mE P t then p.wk else p
def RP.ld{M w p v P t}(h:RP M w p v):RP M w (mg P t p) v:=by
 unfold mg;split
 .exact h.wk
 .exact h
def pG(P:cJ)(st:bC)(t:cf)(x:cL):Option V:=
 match st.arg x with
 |some (.v (.c (.ptr n off)))=>match st.heap.lookup n with
  |some (.box cs)=>mf P t (cs.drop off)
  |_=>none
 |some (.v (.c (.d' n i j)))=>match st.heap.lookup n with
  |some (.row _ rows)=>match rows[i]? with
   |some r=>mf P t ((r.drop j).map λp=>.p (mg P t p))
   |none=>none
  |_=>none
 |some (.v (.c (.ref cells)))=>mf P t (cells.map λp=>.p (mg P t p))
 |_=>none
section
variable{X:Fx}{E:Env}{st:bC}{a:Act}{w:bW}
def Rel.cX(h:Rel X E st a w){x c}(d:st.arg x=some (.v (.c c))):RC X.M E w c (a.eval x)/\c.pb=false/\∀n∈c.names,n∉st.bx:=⟨(h.arg d).1,Pw (h.arg d).2⟩
def Rel.ji(h:Rel X E st a w){x c}(d:st.arg x=some (.v (.c c))){n}(k:n∈c.names):n∉E.bx:=by rw[h.bx];exact(h.cX d).2.2 n k
def aCM(h:Rel X E st a w){t x v}
 (b:pG X.P st t x=some v):∃u,(Instr.loadAt t (a.eval x)).run X.P w=.ok u w/\RV X.M E w v u:=by
 unfold pG at b;split at b
 .rename_i n off f;have l:=h.ji f (n:=n) eH;obtain⟨y,m,g,D,q⟩:=dj.get (h.cX f).1 l;split at b
  .rename_i cs F;obtain⟨I,g',cur,e,s,z,G,L,H⟩:=h.row (by rw[<-h.bx];exact l) F;rw[m]at s;cases s;rw[D]at z;cases z;obtain⟨u,A,B⟩:=DI (P:=X.P) (M:=X.M) (E:=E) (w:=w) (g:=g) (o:=off) b (λj c d=>by
    rw[kU]at d;obtain⟨u,k1,k2,C⟩:=H _ c d;exact⟨u,by rw[cell_of_row w g _ cur e (0,0) G];exact k1,k2,C⟩)
   refine⟨u,?_,B⟩;rw[q];simpa[Instr.loadAt,Instr.sureAddr]using A
  .cases b
 .rename_i n i j f;have l:=h.ji f (n:=n) eH;obtain⟨y,m,N,g,D,q⟩:=dj.get (h.cX f).1 l;split at b
  .rename_i e rows F;obtain⟨I,cur,fz,s,J,G,_,_,_,_,_,_,_,_,H⟩:=h.row (by rw[<-h.bx];exact l) F;rw[m]at s;cases s;split at b
   .rename_i r K;obtain⟨u,A,B⟩:=DI (P:=X.P) (M:=X.M) (E:=E) (w:=w) (g:=g) (o:=i*y.sz+j) b (λk c d=>by
     simp only[cY,b9,kU]at d;obtain⟨p,hp,rfl⟩:=d;obtain⟨u,k1,k2⟩:=H i r (j+k) p K hp;exact⟨u,by rw[cell_of_row w g _ cur e fz (G g D),zD];exact k1,k2.ld,k2.tq⟩)
    refine⟨u,?_,B⟩;rw[q];simpa[Instr.loadAt,Instr.sureAddr]using A
   .cases b
  .cases b
 .rename_i cells f;obtain⟨⟨g,o,m,q⟩,_⟩:=h.cX f;obtain⟨u,A,B⟩:=DI (P:=X.P) (M:=X.M) (E:=E) (w:=w) (g:=g) (o:=o) b (λj c d=>by
   simp only[cY,b9]at d;obtain⟨p,hp,rfl⟩:=d;obtain⟨u,k1,k2,C⟩:=q j p hp;exact⟨u,k1,C.ld,C.tq⟩)
  refine⟨u,?_,B⟩;rw[m];simpa[Instr.loadAt,Instr.sureAddr]using A
 .cases b
def rr(P:cJ)(st:bC)(t:cf)(x:cL)(f:Nat):Option V:=
 match st.arg x,BV P t f with
 |some (.v (.c (.ptr n off))),some k=>some (.c (.ptr n (off+k)))
 |some (.v (.c (.d' n i j))),some k=>some (.c (.d' n i (j+k)))
 |some (.v (.c (.ref cells))),some k=>some (.c (.ref (cells.drop k)))
 |_,_=>none
def ML{P t f k}(h:BV P t f=some k)(g o)(w):
 (Instr.fieldAt t (.pointer (some ⟨g,o,none⟩)) f).run P w=.ok (.pointer (some ⟨g,o+k,none⟩)) w:=by
 unfold BV at h;split at h
 .rename_i j c;split at h
  .rename_i l d;split at h
   .rename_i i e;split at h
    .cases h
    .rename_i b;simp at h;subst h;simp[Instr.fieldAt,run_underlying c,d,Instr.sureAddr,fieldPlace,sizeOf,typeInfo,e,b,pN]
   .cases h
  .cases h
 .cases h
def RC.Wp{M}{cells:List PV}{g o}(h:∀(j)(p),cells[j]?=some p->∃u,w.cell? ⟨g,o+j,none⟩=some u/\¬bad M E g/\RP (bad M E) w p u)(k):
 RC M E w (.ref (cells.drop k)) (.pointer (some ⟨g,o+k,none⟩)):=
 ⟨g,o+k,rfl,λj p d=>by grind⟩
def avG(h:Rel X E st a w){t x f v}
 (b:rr X.P st t x f=some v):∃u,(Instr.fieldAt t (a.eval x) f).run X.P w=.ok u w/\RV X.M E w v u:=by
 unfold rr at b;split at b
 .rename_i n off k c l;obtain⟨y,d,g,m,e⟩:=dj.get (h.cX c).1 (h.ji c (n:=n) eH);simp at b;subst b;exact⟨_,by simp_all[ML],.inr ⟨y,d,g,m,rfl⟩⟩
 .rename_i n i j k c l;obtain⟨y,d,e,g,m,p⟩:=dj.get (h.cX c).1 (h.ji c (n:=n) eH);simp at b;subst b;exact⟨_,by rw[p];exact ML l g _ w,.inr ⟨y,d,e,g,m,by simp_all⟩⟩
 .rename_i cells k c l;obtain⟨⟨g,o,d,e⟩,_⟩:=h.cX c;simp at b;subst b;exact⟨_,by simp_all[ML],RC.Wp e k⟩
 .cases b
def G5{P t n e}(h:mr P t=some (n,e)):P.underlying t=some (.array n e)/\(P.info? e).isSome=true:=by
 unfold mr at h;grind
def oH{P t e}(h:f_ P t=some e):P.underlying t=some (.slice e)/\(P.info? e).isSome=true:=by
 grind[f_]
theorem JY{P t n e}(h:mr P t=some (n,e))(g o)(k){i:Int}(b:0<=i/\i<n)(w):
 (Instr.indexAt t (.pointer (some ⟨g,o,none⟩)) (.int k i)).run P w=.ok (.pointer (some ⟨g,o+i.toNat*eG P e,none⟩)) w:=by
 obtain⟨c,d⟩:=G5 h;simp[Instr.indexAt,run_underlying c,asIntOf,Instr.sureAddr,b,run_sizeOf w d,pN]
def OS{P t e}(h:f_ P t=some e)(g o n cap:Nat)(k){i:Int}(b:0<=i/\i<n)(w):
 (Instr.indexAt t (.slice (some ⟨g,o,none⟩) n cap) (.int k i)).run P w=.ok (.pointer (some ⟨g,o+i.toNat*eG P e,none⟩)) w:=by
 obtain⟨c,d⟩:=oH h;simp[Instr.indexAt,run_underlying c,asIntOf,b,run_sizeOf w d,pN]
def bC.elem(st:bC)(size i:Nat):C->Option C
 |.own n=>match st.heap.lookup n with
  |some (.row _ rows)=>match rows[i]? with
   |some r=>if r.length=size then some (.d' n i 0)else none
   |none=>none
  |_=>none
 |.sub n lo len=>match st.heap.lookup n with
  |some (.row _ rows)=>match rows[lo+i]? with
   |some r=>if r.length=size/\i<len then some (.d' n (lo+i) 0)else none
   |none=>none
  |_=>none
 |.p (.sl rows)=>match rows[i]? with
  |some r=>if r.length=size then some (.ref r)else none
  |none=>none
 |_=>none
def ov(P:cJ)(st:bC)(t:cf)(x i:cL):Option V:=
 match st.arg i with
 |some (.v (.c (.p (.sc (.int _ i)))))=>match st.arg x with
  |some (.v (.c (.ptr n off)))=>match mr P t with
   |some (m,e)=>jC (0<=i/\i<m) (some (.c (.ptr n (off+i.toNat*eG P e))))
   |none=>none
  |some (.v (.c (.d' n r j)))=>match mr P t with
   |some (m,e)=>jC (0<=i/\i<m) (some (.c (.d' n r (j+i.toNat*eG P e))))
   |none=>none
  |some (.v (.c (.ref cells)))=>match mr P t with
   |some (m,e)=>jC (0<=i/\i<m) (some (.c (.ref (cells.drop (i.toNat*eG P e)))))
   |none=>none
  |some (.v (.c c))=>match f_ P t with
   |some e=>jC (0<=i) ((st.elem (eG P e) i.toNat c).map V.c)
   |none=>none
  |_=>none
 |_=>none
def asA(h:Rel X E st a w){t x i v}
 (b:ov X.P st t x i=some v):∃u,(Instr.indexAt t (a.eval x) (a.eval i)).run X.P w=.ok u w/\RV X.M E w v u:=by
 unfold ov jC at b;split at b
 .rename_i k i' S;have K:=RP.eM (h.cX S).1;split at b
  .rename_i n off d;obtain⟨y,l,g,s,B⟩:=dj.get (h.cX d).1 (h.ji d (n:=n) eH);split at b
   .rename_i m e C;split at b
    .simp at b;subst b;exact⟨_,by grind[JY],.inr ⟨y,l,g,s,rfl⟩⟩
    .cases b
   .cases b
  .rename_i n r j d;obtain⟨y,l,L,g,s,B⟩:=dj.get (h.cX d).1 (h.ji d (n:=n) eH);split at b
   .rename_i m e C;split at b
    .simp at b;subst b;exact⟨_,by rw[B,K];exact JY C g _ k (by assumption) w,.inr ⟨y,l,L,g,s,by simp_all⟩⟩
    .cases b
   .cases b
  .rename_i cells d;obtain⟨⟨g,o,l,B⟩,_⟩:=h.cX d;split at b
   .rename_i m e C;split at b
    .simp at b;subst b;exact⟨_,by grind[JY],RC.Wp B _⟩
    .cases b
   .cases b
  .rename_i c _ _ _ d;have N:=(h.cX d).1;split at b
   .rename_i e C;split at b
    .simp only[b9]at b;obtain⟨c',b,rfl⟩:=b
     cases c with
     |own n =>
      simp only[bC.elem]at b;have H:=h.ji d (n:=n) eH;obtain⟨y,l,B⟩:=dj.get N H;split at b
      .rename_i T rows O;obtain⟨U,cur,fz,I,P,V,W,Y,Z,k8,_,k9,D,Q,_⟩:=h.row (by rw[<-h.bx];exact H) O;rw[l]at I;cases I;split at b
       .rename_i r F;split at b
        .rename_i z;simp at b;subst b;have R:=(ek.1 F).1;have G:y.sz=eG X.P e:=by rw[<-z];exact(D r (eN F)).symm
         cases s:y.g with
         |none=>simp_all
         |some g=>
          rw[s]at B;refine⟨_,by rw[B,K];exact OS C g 0 y.len y.cap k om w,.inr ⟨y,l,om,g,s,by rw[G];simp⟩⟩
        .cases b
       .cases b
      .cases b
     |sub n lo len=>
      simp only[bC.elem]at b;have H:=h.ji d (n:=n) eH;obtain⟨y,l,B,A,L,h5⟩:=dj.get N H;split at b
      .rename_i T rows O;obtain⟨U,cur,fz,I,P,V,W,Y,Z,k8,_,k9,D,Q,_⟩:=h.row (by rw[<-h.bx];exact H) O;rw[l]at I;cases I;split at b
       .rename_i r F;split at b
        .rename_i z;simp at b;subst b;have G:y.sz=eG X.P e:=by rw[<-z.1];exact(D r (eN F)).symm
         have J:y.cap≠lo:=om
         cases s:y.g with
         |none=>simp_all
         |some g=>
         rw[h5 (.inl J),s]at L;refine⟨_,by rw[L,K];exact OS C g (lo*y.sz) len (y.cap-lo) k om w,.inr ⟨y,l,om,g,s,by grind⟩⟩
        .cases b
       .cases b
      .cases b
     |p q =>
      cases q with
      |sc=>cases b
      |nl=>cases b
      |any=>cases b
      |sl rows=>
       simp only[bC.elem]at b;split at b
       .rename_i r F;split at b
        .rename_i z;simp at b;subst b;have R:=(ek.1 F).1;generalize a.eval x=u at N
         cases N with
         |nil=>simp at F
         |@row _ g o cap sz f aa O hm hs ab ac=>
          have G:sz=eG X.P e:=by grind
          refine⟨_,by rw[K];exact OS C g o _ cap k om w,g,_,rfl,λj p hj=>?_⟩;grind
        .cases b
       .cases b
     |_=>cases b
    .cases b
   .cases b
  .cases b
 .cases b
end
def aaK{P}(b)(len cap:Nat)(lo e){l h:Int}(f:lo=none/\l=0\/∃k,lo=some (.int k l))(g:e=none/\h=len\/∃k,e=some (.int k h))
 (n:0<=l) (q:l<=h) (o:h<=cap) (w):(Instr.sliceBounds b len cap lo e none).run P w=.ok (l.toNat,h.toNat,cap) w:=by
 have d:∀(k:fE)(y:Nat)(c:BoundsCode)(i:Int),0<=i->i<=y->(Instr.sliceBound (.int k i) y c).run P w=.ok i.toNat w:=by
  intro k y c i j m;simp[Instr.sliceBound,asIntOf,j,m]
 rcases f with⟨rfl,rfl⟩| ⟨k,rfl⟩<;>rcases g with⟨rfl,rfl⟩| ⟨p,rfl⟩
 .rfl
 .simp[Instr.sliceBounds,d p cap _ h om o]
 .simp[Instr.sliceBounds,d k len _ l n q]
 .simp[Instr.sliceBounds,d p cap _ h om o,d k h.toNat _ l n om]
def bC.part(st:bC)(size l h:Nat):C->Option C
 |.own n=>match st.heap.lookup n with
  |some (.row _ rows)=>if h<=rows.length/\(∀r,rows[0]?=some r->r.length=size)then some (.sub n l (h-l))else none
  |_=>none
 |.sub n lo len=>match st.heap.lookup n with
  |some (.row _ rows)=>if h<=len/\(∀r,rows[0]?=some r->r.length=size)then some (.sub n (lo+l) (h-l))else none
  |_=>none
 |.p (.sl rows)=>if h<=rows.length/\dS size rows then some (.p (.sl ((rows.take h).drop l)))else none
 |.nil=>if h=0 then some .nil else none
 |_=>none
def bC.num(st:bC)(o:Option cL)(d:Int):Option Int:=match o with
 |none=>some d
 |some o=>match st.arg o with
  |some (.v (.c (.p (.sc (.int _ i)))))=>some i
  |_=>none
def bC.oN(st:bC):C->Option Nat
 |.sub _ _ len=>some len
 |c=>(st.view c).map (·.length)
def mZ(P:cJ)(st:bC)(t:cf)(x:cL)(lo b:Option cL):Option V:=
 match st.arg x with
 |some (.v (.c (.p (.sc (.string s)))))=>match st.num lo 0,st.num b s.size,P.underlying t with
  |some l,some h,some .string=>jC (0<=l/\l<=h/\h<=s.size) (some (.sc (.string (s.extract l.toNat h.toNat))))
  |_,_,_=>none
 |some (.v (.c c))=>match st.oN c,f_ P t with
  |some n,some e=>match st.num lo 0,st.num b n with
   |some l,some h=>jC (0<=l/\l<=h) ((st.part (eG P e) l.toNat h.toNat c).map V.c)
   |_,_=>none
  |_,_=>none
 |_=>none
def RP.slice{M w rows A n cap size}(d:RP M w (.sl rows) (.slice A n cap))(hR:dS size rows){l h}(F:l<=h)(x:h<=rows.length):
 RP M w (.sl ((rows.take h).drop l)) (.slice (if cap=l then A else A.map (·.add (l*size))) (h-l) (cap-l)):=by
 by_cases k:l=h
 .subst k;have:(rows.take l).drop l=[]:=by simp
  rw[this,uh];exact .nil
 .cases d with
  |nil=>simp at x;omega
  |@row _ g o cap sz f G H I t y z=>
   have hlen:((rows.take h).drop l).length=h-l:=by simp;omega
   have m:∀r∈rows,sz=size:=λr d=>by rw[<-t r d];exact hR r d
   have q:cap≠l:=om;rw[bG q,<-hlen];simp only[cg,pN];have B:∀(i:Nat)(r:List PV),((rows.take h).drop l)[i]?=some r->rows[l+i]?=some r:=by
    grind
   have u:∀(i:Nat)(r:List PV)(j:Nat),((rows.take h).drop l)[i]?=some r->o+l*size+i*sz+j=o+(l+i)*sz+j:=by
    intro i r j D;have:=m r (eN (B i r D));grind
   refine RP.row (sz:=sz) (f:=λi j=>f (l+i) j) (by grind) om om (λr d=>t r (ob (oZ d))) ?_ ?_
   .grind
   simp_all
section
variable{X:Fx}{E:Env}{st:bC}{a:Act}{w:bW}
def z_(h:Rel X E st a w){o d l}(b:st.num o d=some l):o.map a.eval=none/\l=d\/∃k,o.map a.eval=some (.int k l):=by
 cases o with
 |none=>simp_all[bC.num]
 |some o=>
  simp only[bC.num]at b;split at b
  .rename_i k i c;simp at b;subst b;exact .inr ⟨k,by simp[RP.eM (h.cX c).1]⟩
  .cases b
def ato(h:Rel X E st a w){t x lo F v}
 (b:mZ X.P st t x lo F=some v):∃u,(Instr.sliceAt t (a.eval x) (lo.map a.eval) (F.map a.eval) none).run X.P w=.ok u w/\RV X.M E w v u:=by
 unfold mZ jC at b;split at b
 .rename_i s H;have Y:=RP.eM (h.cX H).1;split at b
  .rename_i l L i j N;split at b
   .rename_i G;simp at b;subst b;have O:=aaK (P:=X.P) false s.size s.size (lo.map a.eval) (F.map a.eval) (z_ h i) (z_ h j) G.1 G.2.1 G.2.2 w;refine⟨_,?_,.sc rfl⟩;rw[Y];simp[Instr.sliceAt,Instr.slice,run_underlying N,O]
   .cases b
  .cases b
 .rename_i c _ H;have k:=(h.cX H).1;split at b
  .rename_i n e hp Z;obtain⟨N,Q⟩:=oH Z;split at b
   .rename_i l L i j;split at b
    .rename_i G;simp only[b9]at b;obtain⟨c',b,rfl⟩:=b;have key:∀(A:Option Addr)(m cap:Nat),a.eval x=.slice A m cap->(F=none->(m:Int)=n)->L<=cap->
      (Instr.sliceAt t (a.eval x) (lo.map a.eval) (F.map a.eval) none).run X.P w=.ok (.slice (if cap=l.toNat then A else A.map (·.add (l.toNat*eG X.P e))) (L.toNat-l.toNat) (cap-l.toNat)) w:=by
      intro A m cap g hm f;have O:=aaK (P:=X.P) true m cap (lo.map a.eval) (F.map a.eval) (z_ h i) (by
       rcases z_ h j with⟨k1,k2⟩|k1
       .simp_all
       .exact .inr k1) G.1 G.2 f w
      rw[g];simp[Instr.sliceAt,Instr.slice,run_underlying N,O,run_sizeOf w Q,eG]
     cases c with
     |own R =>
      simp only[bC.part]at b;have I:=h.ji H (n:=R) eH;obtain⟨y,k1,k2⟩:=dj.get k I;split at b
      .rename_i e' rows K;obtain⟨x',cur,fz,J,S,k4,k5,k6,k7,k8,_,k9,o,T,_⟩:=h.row (by rw[<-h.bx];exact I) K;rw[k1]at J;cases J;split at b
       .rename_i d;simp at b;subst b;have z:n=rows.length:=by simp_all[bC.oN,bC.view]
        refine⟨_,key _ _ _ k2 (λ_=>by omega) om,.inr ⟨y,k1,om,_,rfl,λf=>?_⟩⟩;by_cases B:y.cap=l.toNat
        .grind
        .rw [bG B];have C:l.toNat*eG X.P e=l.toNat*y.sz:=by
          by_cases D:rows=[]
          .grind
          .obtain⟨r,rs,rfl⟩:=Ql D;rw[<-d.2 r rfl,o r ch]
         cases y.g<;>simp[pN,C]
       .cases b
      .cases b
     |sub R W len=>
      simp only[bC.part]at b;have I:=h.ji H (n:=R) eH;obtain⟨y,k1,aa,A,k2,U⟩:=dj.get k I;split at b
      .rename_i e' rows K;obtain⟨x',cur,fz,J,S,k4,k5,k6,k7,k8,_,k9,o,T,_⟩:=h.row (by rw[<-h.bx];exact I) K;rw[k1]at J;cases J;split at b
       .rename_i d;simp at b;subst b;have z:n=len:=by simp_all[bC.oN]
        refine⟨_,key _ _ _ k2 (λ_=>by omega) om,.inr ⟨y,k1,om,_,by rw[Nat.sub_sub],λf=>?_⟩⟩;have hA:=U om;subst hA;by_cases B:y.cap-W=l.toNat
        .have ab:W=0/\l.toNat=0:=om;grind
        .rw [bG B];have C:l.toNat*eG X.P e=l.toNat*y.sz:=by
          by_cases D:rows=[]
          .grind
          .obtain⟨r,rs,rfl⟩:=Ql D;rw[<-d.2 r rfl,o r ch]
         cases y.g<;>simp[pN,C,kV]
       .cases b
      .cases b
     |p q =>
      cases q with
      |sc=>cases b
      |nl=>cases b
      |any=>cases b
      |sl rows=>
       simp only[bC.part]at b;split at b
       .rename_i d;simp at b;subst b;have z:n=rows.length:=by simp_all[bC.oN,bC.view]
        have V:∃A cap,a.eval x=.slice A rows.length cap/\rows.length<=cap:=by
         generalize a.eval x=u at k
         cases k with
         |nil=>simp_all
         |row h0 K=>grind
        obtain⟨A,cap,g,f⟩:=V;rw[g]at k;exact⟨_,key _ _ _ g (λ_=>by omega) om,RP.slice k d.2 om d.1⟩
       .cases b
     |nil=>
      simp only[bC.part]at b;split at b
      .rename_i h0;simp at b;subst b;have z:n=0:=by simp_all[bC.oN,bC.view]
       refine⟨_,key _ _ _ k (λ_=>by omega) om,?_⟩;show _=_;grind
      .cases b
     |_=>cases b
    .cases b
   .cases b
  .cases b
 .cases b
end
def Env.drop(E:Env)(d:List Nat):Env:=⟨λn=>if n∈d then none else E.N n,d++E.bx⟩
def oG{E:Env}{b n x}(h:(E.drop b).N n=some x):E.N n=some x/\n∉b:=by
 simp_all[Env.drop]
def tS{M E b g}(h:bad M (E.drop b) g):bad M E g:=by
 rcases h with h| ⟨n,x,c,d⟩
 .exact .inl h
 .exact .inr ⟨n,x,(oG c).1,d⟩
def NG(M)(E)(c)(w):iX M E (E.drop c) w w:={
 cell:=λ_ _ _ d e=>⟨d,λh=>e (tS h)⟩
 name:=λn x f=>by
  by_cases b:n∈c
  .exact .inl (by simp[Env.drop,b])
  .exact .inr (by simp[Env.drop,b,f])
 bx:=λn b=>by simp[Env.drop,b]}
section
variable{X:Fx}{E:Env}{st:bC}{a:Act}{w:bW}
def Rel.drop(h:Rel X E st a w)(k)(q:∀n∈k,n<st.next):Rel X (E.drop k) (st.ez ⟨[],k⟩) a w:=
 h.step ⟨[],k⟩ (nx:=st.next) (dz _) (NG _ _ _ _) (by simp[Env.drop,h.bx]) h.frame (λn x d=>h.fj n x (oG d).1) (λn x g d=>h.names n x g (oG d).1)
  (λn m x y g d t=>h.inj n m x y g (oG d).1 (oG t).1) (λm _=>by simp only[Env.drop];split;exact .inl rfl;exact .inr rfl) q (λ_ _ _ _ _ _ _=>rfl) (λn b u=>by simp at u)
def Rel.write(h:Rel X E st a w){n x}(G:E.N n=some x){g}(q:x.g=some g){cur e fz}(Q:w.heap[g]?=some (.cells cur e fz))(us)(d)(H:∀m∈d,m<st.next)(b)
 (R:iX X.M E (E.drop d) w (w.setRow g us)->(w.setRow g us).heap[g]?=some (.cells us e fz)->n∉d->RB X.P X.M (E.drop d) (w.setRow g us) n b):
 iX X.M E (E.drop d) w (w.setRow g us)/\Rel X (E.drop d) (st.ez ⟨[(n,b)],d⟩) a (w.setRow g us):=by
 have t:∀k,k≠g->(w.setRow g us).heap[k]?=w.heap[k]?:=λk z=>setRow_other w g k _ z
 have I:(w.setRow g us).heap.size=w.heap.size:=by simp_all
 obtain⟨S,J,T⟩:=h.names n x g G q;have K:iX X.M E (E.drop d) w (w.setRow g us):={
  cell:=λk o u k1 k2=>by
   have:k≠g:=by rintro rfl;exact k2 (.inr ⟨n,x,G,q⟩)
   exact⟨(World.cell?_of_block (w:=w) (a:=⟨k,o,none⟩) (t k this)).trans k1,λh=>k2 (tS h)⟩
  name:=(NG X.M E d w).name
  bx:=(NG X.M E d w).bx}
 refine⟨K,h.step ⟨[(n,b)],d⟩ (nx:=st.next) (dz _) K (by simp[Env.drop,h.bx]) ?_ (λn x D=>h.fj n x (oG D).1) (λn x g D=>by rw[I];exact h.names n x g (oG D).1)
  (λn m x y g D N=>h.inj n m x y g (oG D).1 (oG N).1) (λm _=>by simp only[Env.drop];split;exact .inl rfl;exact .inr rfl) H ?_ ?_⟩
 .refine h.frame.trans (K':=λk=>k=g) ⟨rfl,rfl,rfl,om,λk _ z=>t k z⟩ ?_;rintro k z rfl;rcases J with O|O
  .exact O
  .omega
 .intro m y k N z _ B;refine t _ λU=>?_
  subst U;have:=h.inj m n y x k N G z q;simp_all
 .intro m W B;simp only[gb,kJ]at B;split at B
  .rename_i F;simp at F B;subst F B;by_cases P:m∈d
   .exact .inl (by simp[Env.drop,P])
   .exact .inr (R K (setRow_heap w g cur us e _ Q) P)
  .cases B
def Rel.arU(h:Rel X E st a w){n x}(d:E.N n=some x):n<st.next:=h.fj n x d
def bC.sink(st:bC):C->Option (PV×List Nat)
 |.p q=>some (q,[])
 |.nil=>some (.sl [],[])
 |.own n=>match st.heap.lookup n with
  |some (.row _ rows)=>some (.sl rows,[n])
  |_=>none
 |.sub n lo len=>match st.heap.lookup n with
  |some (.row _ rows)=>some (.sl ((rows.drop lo).take len),[n])
  |_=>none
 |_=>none
def Rows.rp{M d w rows v}(h:Rows M w rows v)(x:∀g,d g->M g)(y:∀g o n c,v=.slice (some ⟨g,o,none⟩) n c->¬d g):RP d w (.sl rows) v:=by
 rcases h with⟨rfl,A,cap,rfl⟩| ⟨g,o,cap,sz,f,rfl,z,B,D,hR,t⟩
 .exact .nil
 .have F:jo M d w w:=λk o u G H=>⟨G,λh=>H (x k h)⟩
  exact .row z B D hR (λi r j p m q=>⟨(t i r j p m q).1,y g o _ _ rfl⟩) (λi r j p m q=>(t i r j p m q).2.trans F)
def Rel.sink(h:Rel X E st a w){c v q H}(D:RC X.M E w c v)(N:∀n∈c.names,n∉st.bx)(t:st.sink c=some (q,H)):
 (∀n∈H,n<st.next)/\(∀n∈H,n∉st.bx)/\∀d,(∀n∈H,n∈d)->RP (bad X.M (E.drop d)) w q v:=by
 have O:∀d,jo (bad X.M E) (bad X.M (E.drop d)) w w:=λd k o u z F=>⟨z,λh=>F (tS h)⟩
 have key :∀n lo len,n∉st.bx->RC X.M E w c v->(c=.own n\/c=.sub n lo len)->∀rows,st.view c=some rows->
  (∀k∈ [n],k<st.next)/\(∀k∈ [n],k∉st.bx)/\∀d,(∀k∈ [n],k∈d)->RP (bad X.M (E.drop d)) w (.sl rows) v:=by
  intro n lo len B D P rows I;have Q:=h.view D N I;have R :∃x,E.N n=some x/\∀g o m J,v=.slice (some ⟨g,o,none⟩) m J->x.g=some g\/m=0:=by
   rcases P with rfl|rfl
   .obtain⟨x,z,rfl⟩:=dj.get D (by rw[h.bx];exact B);simp_all
   .obtain⟨x,z,F,A,rfl,Y⟩:=dj.get D (by rw[h.bx];exact B);refine⟨x,z,λg o m J Z=>?_⟩;simp at Z;by_cases aa:len=0
    .omega
    .simp only[bC.view]at I;split at I
     .rename_i e rs S;obtain⟨x',cur,fz,k3,ab,k4,k5,k6,_⟩:=h.row B S;rw[z]at k3;cases k3;rw[Y om]at Z
      cases G:x.g with
      |none=>simp_all
      |some g'=>simp_all
     .cases I
  obtain⟨x,T,R⟩:=R;refine⟨by simpa using h.arU T,by simpa using B,λd ac=>?_⟩;by_cases K:rows=[]
  .subst K;rcases Q with⟨_,A,cap,rfl⟩| ⟨_,_,_,_,_,_,K,_⟩
   .exact .nil
   simp_all
  .refine Q.rp (λg G=>tS G) ?_;rintro g o m J rfl U;have G:x.g=some g:=by
    rcases R g o m J rfl with z|z
    .exact z
    .rcases Q with⟨F,_⟩| ⟨g',o',cap,sz,f,F,_⟩
     .exact absurd F K
     .simp at F;exact absurd (nu om) K
   rcases U with U| ⟨k,y,z,F⟩
   .exact(h.names n x g T G).2.2 U
   .obtain⟨h3,Y⟩:=oG z;have:=h.inj k n y x g h3 T F G;simp_all
 cases c with
 |p q'=>obtain⟨rfl,rfl⟩:=t;exact⟨by simp,by simp,λd _=>RP.trans D (O d)⟩
 |nil=>obtain⟨rfl,rfl⟩:=t;cases D;exact⟨by simp,by simp,λd _=>.nil⟩
 |own n=>
  simp only[bC.sink]at t;split at t
  .rename_i e rows W;obtain⟨rfl,rfl⟩:=t;exact key n 0 0 (N n eH) D (.inl rfl) rows (by simp[bC.view,W])
  .cases t
 |sub n lo len=>
  simp only[bC.sink]at t;split at t
  .rename_i e rows W;obtain⟨rfl,rfl⟩:=t;exact key n lo len (N n eH) D (.inr rfl) _ (by simp[bC.view,W])
  .cases t
 |_=>cases t
def bC.sinks(st:bC):List C->Option (List PV×List Nat)
 |[]=>some ([],[])
 |c::cs=>match st.sink c,st.sinks cs with
  |some (q,d),some (h,k)=>some (q::h,d++k)
  |_,_=>none
def XC{st:bC}:∀{cs:List C}{e:List PV}{f:List Nat},st.sinks cs=some (e,f)->e.length=cs.length/\(∀(i:Nat)(q:PV),e[i]?=some q->∃c b,cs[i]?=some c/\st.sink c=some (q,b)/\∀m∈b,m∈f)/\
 ∀n∈f,∃c q b,c∈cs/\st.sink c=some (q,b)/\n∈b
 |[],e,f,h=>by simp[bC.sinks]at h;simp_all
 |c :: cs,e,f,h=>by
  simp only[bC.sinks]at h;split at h
  .rename_i q b s t r u;obtain⟨rfl,rfl⟩:=h;obtain⟨v,x,y⟩:=XC u;refine⟨by simp[v],λi g j=>?_,λn z=>?_⟩
   .cases i with
    |zero=>simp at j;subst j;exact⟨c,b,rfl,r,λm k=>zE _ k⟩
    |succ i=>
     obtain⟨l,d,k1,k2,o⟩:=x i g (by simpa using j);exact⟨l,d,by simpa using k1,k2,λm k=>wX _ (o m k)⟩
   .rcases iP.1 z with p|p
    .exact⟨c,q,b,by simp,r,p⟩
    .obtain⟨l,g,d,k1,k2,o⟩:=y n p;exact⟨l,g,d,by simp[k1],k2,o⟩
  .cases h
def Rel.sinks(h:Rel X E st a w){cs}{us:Array b8}{t m}(x:us.size=cs.length)(D:∀(i:Nat)(c),cs[i]?=some c->∃u,us[i]?=some u/\RC X.M E w c u)(F:∀c∈cs,∀n∈c.names,n∉st.bx)(J:st.sinks cs=some (t,m)):
 t.length=us.size/\(∀n∈m,n<st.next)/\(∀n∈m,n∉st.bx)/\∀k,(∀n∈m,n∈k)->∀(i:Nat)(q),t[i]?=some q->∃u,us[i]?=some u/\RP (bad X.M (E.drop k)) w q u:=by
 obtain⟨K,N,O⟩:=XC J;have hall:∀n∈m,n<st.next/\n∉st.bx:=by
  intro n d;obtain⟨c,q,P,k1,k2,G⟩:=O n d;obtain⟨i,y,rfl⟩:=kL k1;obtain⟨u,H,z⟩:=D i _ (db y);obtain⟨I,Q,_⟩:=h.sink z (F _ k1) k2;simp_all
 refine⟨by rw[K,x],λn d=>(hall n d).1,λn d=>(hall n d).2,λk B i q y=>?_⟩;obtain⟨c,P,k1,k2,G⟩:=N i q y;obtain⟨u,H,z⟩:=D i c k1;obtain⟨_,_,I⟩:=h.sink z (F c (eN k1)) k2;exact⟨u,H,I k (λn d=>B n (G n d))⟩
def V5{bx y}(d:(V.v y).live bx=true):∀c∈y.cells,∀n∈c.names,n∉bx:=by
 cases y with
 |c c=>intro e b;simp[V1.cells]at b;subst b;exact(Pw d).2
 |agg cs=>exact aAO d
def wo(P:cJ)(st:bC)(t:cf)(x y:cL):Option iI:=
 match st.arg x,st.arg y with
 |some (.v (.c (.ptr n off))),some (.v y)=>match st.heap.lookup n with
  |some (.box cs)=>if y.cells.length=eG P t/\off+y.cells.length<=cs.length/\oq P t=true then some ⟨[(n,.box (cs.take off++y.cells++cs.drop (off+y.cells.length)))],[]⟩else none
  |_=>none
 |some (.v (.c (.d' n i j))),some (.v y)=>match st.heap.lookup n,st.sinks y.cells with
  |some (.row e rows),some (b,c)=>match rows[i]? with
   |some r=>if b.length=eG P t/\j+b.length<=r.length/\oq P t=true/\n∉c then some ⟨[(n,.row e (rows.set i (r.take j++b++r.drop (j+b.length))))],c⟩else none
   |none=>none
  |_,_=>none
 |_,_=>none
def tN{α:Type}{l ys:List α}{off k}(h:off+ys.length<=l.length):(l.take off++ys++l.drop (off+ys.length))[k]?=if off<=k/\k<off+ys.length then ys[k-off]? else l[k]?:=by
 rw[dr,mm];have:(l.take off).length=off:=by simp;omega
 rw[this];split
 .rename_i b;rw[bG om,jD,bB b]
 .rw[mm];split
  .rw[bB om]
  .rw[bG om,kU];congr 1;omega
def ou.not{n fz}(h:ou n fz){w:bW}{g cur e}(d:w.heap[g]?=some (.cells cur e fz)){i}(k:i<n):w.frozen? ⟨g,i,none⟩=false:=by
 simp only[World.frozen?,d,Bool.and_eq_false_iff,zF];rcases h with h|h
 .simp_all
 omega
def wz(P)(g o)(t)(fz):∀(vs)(i)(cur)(w),ou cur.size fz->w.heap[g]?=some (.cells cur t fz)->o+i+vs.length<=cur.size->(∀v∈vs,v.oneCell'=true)->
 (storeCells ⟨g,o,none⟩ vs i).run P w=.ok () (w.setRow g (cur.toList.take (o+i)++vs++cur.toList.drop (o+i+vs.length)).toArray)
 |[],i,cur,w,f,b,_,_=>by
  simp only[storeCells,gd,jW,lL,List.take_append_drop,Array.toArray_toList];rw[setRow_self w g cur t fz b];rfl
 |v::rest,i,cur,w,f,b,j,k=>by
  have l:o+i<cur.size:=by simp at j;omega
  have c:(⟨g,o,none⟩:Addr).add i=⟨g,o+i,none⟩:=by unfold Addr.add;simp_all
  have hcell:w.cell? ⟨g,o+i,none⟩=some cur[o+i]:=by simp[World.cell?,b,l]
  have d:w.frozen? ⟨g,o+i,none⟩=false:=f.not b l;have h:(store ((⟨g,o,none⟩:Addr).add i) v).run P w=.ok () (w.setRow g (cur.setIfInBounds (o+i) v)):=by
   rw[c,run_store P w _ v _ (k v ch),hcell];simp[d,setCell_eq_setRow w g (o+i) cur t fz v b]
  have ih:=wz P g o t fz rest (i+1) (cur.setIfInBounds (o+i) v) (w.setRow g (cur.setIfInBounds (o+i) v)) (by simpa using f) (setRow_heap w g cur _ t _ b) (by simp at j⊢;omega) (λx m=>k x (by simp[m]));simp only[storeCells,Sem.run_bind,h,Result.andThen_ok,ih,setRow_setRow];congr 3;have e:=list_seg_step cur.toList (o+i) v rest om;simpa[Array.toList_setIfInBounds,zD]using e
def V4(P){t g o v cur e fz w}(c:ou cur.size fz)(i:w.heap[g]?=some (.cells cur e fz))(d:v.cells.size=eG P t)(j:oq P t=true)(h:o+v.cells.size<=cur.size)
 (b:∀u∈v.cells.toList,u.oneCell'=true):
 (Instr.storeAt t (.pointer (some ⟨g,o,none⟩)) v).run P w=.ok () (w.setRow g (cur.toList.take o++v.cells.toList++cur.toList.drop (o+v.cells.toList.length)).toArray):=by
 have f:=wz P g o e fz v.cells.toList 0 cur w c i om b;have:¬v.cells.size≠eG P t:=by rw[d];simp
 simp only[Instr.storeAt,Instr.sureAddr,storeVar,Sem.run_bind,Sem.run_pure,Result.andThen_ok,run_sizeOf w j,this,if_false];exact f
def anM(h:Rel X E st a w){t x y ef}
 (s:wo X.P st t x y=some ef):∃w' E',(Instr.storeAt t (a.eval x) (a.eval y)).run X.P w=.ok () w'/\(∀n,E.N n=none->E'.N n=none)/\Rel X E' (st.ez ef) a w':=by
 unfold wo at s;split at s
 .rename_i n off N U hy;have V:=h.ji U (n:=n) eH;obtain⟨z,H,g,K,W⟩:=dj.get (h.cX U).1 V;obtain⟨O,I⟩:=h.arg hy;split at s
  .rename_i cs hl;split at s
   .rename_i hb;cases s;obtain⟨P,d,B⟩:=hb;obtain⟨x',g',cur,e,Y,Z,h4,h5,h6⟩:=h.row (by rw[<-h.bx];exact V) hl;rw[H]at Y;cases Y;rw[K]at Z;cases Z;obtain⟨k1,k2⟩:=e7.cells O (by rw[h.bx];exact I);have D:∀u∈(a.eval y).cells.toList,u.oneCell'=true:=by
     intro u hu;obtain⟨i,l,Q⟩:=kL hu;have b:i<N.cells.length:=by rw[<-k1];simpa using l
     obtain⟨u',F,R,J⟩:=k2 i _ (db b);have:(a.eval y).cells[i]?=some u:=by rw[<-Q];simp[sD (by simpa using l:i< (a.eval y).cells.size)]
     rw[this]at F;cases F;exact J
    have hrun:=V4 X.P (t:=t) (o:=off) (.inl rfl) h4 (by rw[k1,P]) B (by rw[k1,h5];exact d) D;have hcell:∀(i:Nat)(c:C),(cs.take off++N.cells++cs.drop (off+N.cells.length))[i]?=some c->∃u,(cur.toList.take off++(a.eval y).cells.toList++cur.toList.drop (off+(a.eval y).cells.toList.length)).toArray[i]?=some u/\RC X.M E w c u/\u.oneCell'=true:=by
     intro i c l;rw[tN d]at l;rw[qV,tN (by simp[k1,h5];exact d)];simp only[Is,k1];split
     .rename_i hc;rw[bB hc]at l;obtain⟨u,F,R,J⟩:=k2 _ c l;exact⟨u,by simpa using F,R,J⟩
     .rename_i hc;rw[bG hc]at l;obtain⟨u,F,R,J⟩:=h6 _ c l;exact⟨u,by simpa using F,R,J⟩
    have hw:=h.write H K h4 (cur.toList.take off++(a.eval y).cells.toList++cur.toList.drop (off+(a.eval y).cells.toList.length)).toArray [] ch (.box (cs.take off++N.cells++cs.drop (off+N.cells.length))) (λhG G _=>by
     refine⟨z,g,_,e,by exact H,K,G,by simp[k1,h5],λi c l=>?_⟩;obtain⟨u,F,R,J⟩:=hcell i c l;exact⟨u,F,R.goes hG,J⟩)
    exact⟨_,_,by rw[W];exact hrun,λm hm=>by exact hm,hw.2⟩
   .cases s
  .cases s
 .rename_i n i j N U hy;have V:=h.ji U (n:=n) eH;obtain⟨z,H,l,g,K,W⟩:=dj.get (h.cX U).1 V;obtain⟨O,I⟩:=h.arg hy;split at s
  .rename_i e rows S ns hl ag;split at s
   .rename_i r hr;split at s
    .rename_i hb;cases s;obtain⟨P,d,B,ao⟩:=hb;obtain⟨x',cur,fz,Y,aa,ah,h5,ai,ab,ac,ad,aj,hR,hnone,h6⟩:=h.row (by rw[<-h.bx];exact V) hl;rw[H]at Y;cases Y;have h4:=ah g K;obtain⟨k1,k2⟩:=e7.cells O (by rw[h.bx];exact I);obtain⟨s1,s2,s3,s4⟩:=h.sinks k1 (λi c l=>let⟨u,q1,q2,_⟩:=k2 i c l; ⟨u,q1,q2⟩) (V5 I) ag;have D:∀u∈(a.eval y).cells.toList,u.oneCell'=true:=by
      intro u hu;obtain⟨i,l,Q⟩:=kL hu;have b:i<N.cells.length:=by rw[<-k1];simpa using l
      obtain⟨u',F,R,J⟩:=k2 i _ (db b);have:(a.eval y).cells[i]?=some u:=by rw[<-Q];simp[sD (by simpa using l:i< (a.eval y).cells.size)]
      rw[this]at F;cases F;exact J
     have an:r.length=z.sz:=hR r (eN hr);have hblk:i*z.sz+z.sz<=cur.size:=by
      rw[aj,<-pX];exact gV _ om
     have hrun:=V4 X.P (t:=t) (o:=i*z.sz+j) aa h4 (by rw[<-s1,P]) B om D;have hlen:(r.take j++S++r.drop (j+S.length)).length=z.sz:=by simp;omega
     have hcell:∀(v:Nat)(r':List PV)(A:Nat)(p:PV),(rows.set i (r.take j++S++r.drop (j+S.length)))[v]?=some r'->r'[A]?=some p->∃u,(cur.toList.take (i*z.sz+j)++(a.eval y).cells.toList++cur.toList.drop (i*z.sz+j+(a.eval y).cells.toList.length)).toArray[v*z.sz+A]?=some u/\RP (bad X.M (E.drop ns)) w p u:=by
      intro v r' A p b f;have ae:jo (bad X.M E) (bad X.M (E.drop ns)) w w:=λk o u H W=>⟨H,λh=>W (tS h)⟩
      rw[qV,tN (by simp;omega)];simp only[Is,<-s1];rw[Ir]at b;split at b
      .rename_i ak;subst ak;split at b
       .cases b;rw[tN d]at f;split at f
        .rw[bB om,show i*z.sz+A- (i*z.sz+j)=A-j by omega];obtain⟨u,q1,q2⟩:=s4 ns (λ_ h=>h) _ p f;exact⟨u,by simpa using q1,q2⟩
        .rw[bG om];obtain⟨u,q1,q2⟩:=h6 i r A p hr f;exact⟨u,by simpa using q1,q2.trans ae⟩
       .cases b
      .have ap:A<z.sz:=by rw[<-hR r' (eN b)];exact(ek.1 f).1
       have al:¬(i*z.sz+j<=v*z.sz+A/\v*z.sz+A<i*z.sz+j+S.length):=by
        rcases nw i v with T|T
        .have:(i+1)*z.sz<=v*z.sz:=gV _ T;rw[pX]at this;omega
        .have h8:v<i:=om;have:(v+1)*z.sz<=i*z.sz:=gV _ h8;rw[pX]at this;omega
       rw[bG al];obtain⟨u,q1,q2⟩:=h6 v r' A p b f;exact⟨u,by simpa using q1,q2.trans ae⟩
     have hw:=h.write H K h4 (cur.toList.take (i*z.sz+j)++(a.eval y).cells.toList++cur.toList.drop (i*z.sz+j+(a.eval y).cells.toList.length)).toArray ns s2 (.row e (rows.set i (r.take j++S++r.drop (j+S.length)))) (λhG G L=>by
      refine⟨z,_,fz,by simp only[Env.drop,bG L];exact H,(by
       have e1:(cur.toList.take (i*z.sz+j)++(a.eval y).cells.toList++cur.toList.drop (i*z.sz+j+(a.eval y).cells.toList.length)).toArray.size=cur.size:=by simp;omega
       rw[e1];exact aa),λg' af=>by rw[K]at af;cases af;exact G,by simp[h5],ai,ab,ac,ad,by simp;omega,?_,hnone,λv r' A p b f=>?_⟩
      .intro q hq;rcases List.mem_or_eq_of_mem_set hq with T|T
       .exact hR q T
       .rw[T];exact hlen
      .obtain⟨u,q1,q2⟩:=hcell v r' A p b f;refine⟨u,q1,q2.trans (λk o u' c1 c2=>?_)⟩;have am:k≠g:=by rintro rfl;exact c2 (.inr ⟨n,z,by simp only[Env.drop,bG L];exact H,K⟩)
       exact⟨(World.cell?_of_block (w:=w) (a:=⟨k,o,none⟩) (setRow_other w g k _ am)).trans c1,c2⟩)
     exact⟨_,_,by rw[W];exact hrun,λm hm=>by simp[Env.drop,hm],hw.2⟩
    .cases s
   .cases s
  .cases s
 .cases s
end
def dS.flat{n rows}(h:dS n rows):rows.flatten.length=rows.length*n:=by
 induction rows with
 |nil=>simp
 |cons r l ih=>
  have k:=h r ch;have m:=ih (λr d=>h r (by simp[d]));grind
def dS.app{n a b}(d:dS n a)(k:dS n b):dS n (a++b):=λr m=>by
 rcases iP.1 m with h|h
 .exact d r h
 .exact k r h
def dS.take{n a}(d:dS n a)(k):dS n (a.take k):=λr h=>d r (ob h)
def Rows.src{M w rows v n}(h:Rows M w rows v)(hR:dS n rows):
 (rows=[]/\∃A cap,v=.slice A 0 cap)\/∃(g o cap:Nat)(news:List b8),v=.slice (some ⟨g,o,none⟩) rows.length cap/\0<rows.length/\news.length=rows.length*n/\
  (∀(k)(u),news[k]?=some u->w.cell? ((⟨g,o,none⟩:Addr).add k)=some u)/\(∀u∈news,u.oneCell'=true)/\
  ∀(i)(r)(j)(p),rows[i]?=some r->r[j]?=some p->∃u,news[i*n+j]?=some u/\RP M w p u:=by
 rcases h with h| ⟨g,o,cap,sz,f,rfl,J,Q,R,z,G⟩
 .exact .inl h
 .right;have B:sz=n:=by
   cases rows with
   |nil=>simp_all
   |cons r l=>rw[<-z r ch];exact hR r ch
  subst B;have D:∀k,k<rows.length*sz->∃u,w.cell? ⟨g,o+k,none⟩=some u/\u.oneCell'=true:=by
   intro k K;have d:0<sz:=by grind
   have m:k/sz<rows.length:=by rw[Nat.div_lt_iff_lt_mul d];exact K
   have x:k%sz< (rows[k/sz]).length:=by rw[z _ (cV m)];exact Nat.mod_lt _ d
   obtain⟨y,H⟩:=G (k/sz) _ (k%sz) _ (db m) (db x);refine⟨_,?_,H.tq⟩;rw[<-y,zD,Qm,Nat.div_add_mod]
  refine⟨g,o,cap,(List.range (rows.length*sz)).map λk=>(w.cell? ⟨g,o+k,none⟩).getD undef,rfl,List.length_pos_iff.2 J,by simp,?_,?_,?_⟩
  .intro k u I;simp only[cY,b9]at I;obtain⟨S,F,rfl⟩:=I;obtain⟨q,t⟩:=ek.1 F;simp at q t;subst t;obtain⟨u,y,_⟩:=D _ q;rw[pN,y];rfl
  .grind
  .intro i r j p m x;obtain⟨y,H⟩:=G i r j p m x;have N:i*sz+j<rows.length*sz:=by
    have O:=(ek.1 m).1;have P:=(ek.1 x).1;rw[z r (eN m)]at P;have:(i+1)*sz<=rows.length*sz:=gV _ O;grind
   grind
section
variable{X:Fx}{E:Env}{st:bC}{a:Act}{w:bW}
def Du{P}(w)(t ty e)(i)(k:P.underlying t=some (.slice e))(l:P.info? e=some i)
 (g fP b) (cur) {fz} (f:ou cur.size fz) (n:w.heap[g]?=some (.cells cur e fz))
 (a) (m c) (news) (o:news.length=m*i.size) (hnews:∀j u,news[j]?=some u->w.cell? (a.add j)=some u) (p:∀u∈news,u.oneCell'=true)
 (hroom:fP+m<=b) (d:fP*i.size+news.length<=cur.size):
 (Builtin.append_ #[t,t] ty #[.slice (some ⟨g,0,none⟩) fP b,.slice (some a) m c]).run P w=
  .ok (.slice (some ⟨g,0,none⟩) (fP+m) b) (w.setRow g (cur.toList.take (fP*i.size)++news++cur.toList.drop (fP*i.size+news.length)).toArray):=by
 have q:=run_firstCells_some (P:=P) w i.size m a m c news o hnews;have h:=wz P g (fP*i.size) e fz news 0 cur w f n (by simpa using d) p;simp[Builtin.append_,run_underlying k,sizeOf,typeInfo,l,Builtin.lenOf,hroom,q,Addr.add_lit,h]
def Rel.qM(h:Rel X E st a w){d}(F:E.N d=none)(y:X.k0<=d)(z:d<st.next){e n}(k:0<n)(B:n=X.P.cellsOf e)
 {rows} (hR:dS n rows) {cap} (m:rows.length<=cap) (G:cap<=maxLen) {us} (D:us.size=cap*n)
 (H:∀(i)(r)(j)(p),rows[i]?=some r->r[j]?=some p->∃u,us[i*n+j]?=some u/\RP (bad X.M E) w p u) {wd} (q:wd=w\/wd=w.drew):
 let E':=E.add d ⟨some w.heap.size,rows.length,cap,n⟩
 Rel X E' (st.ez ⟨[(d,.row e rows)],[]⟩) a (wd.alloc (.cells us e))/\RV X.M E' (wd.alloc (.cells us e)) (.c (.own d)) (.slice (some ⟨w.heap.size,0,none⟩) rows.length cap):=by
 intro E';have I:Below w.heap.size w (wd.alloc (.cells us e)):=by
  rcases q with rfl|rfl
  .exact(Below.refl _ _).alloc (dz _) _
  .exact((Below.refl _ w).drew).alloc (dz _) _
 have t:wd.heap.size=w.heap.size:=by rcases q with rfl|rfl<;>rfl
 have R:(wd.alloc (.cells us e)).heap[w.heap.size]?=some (.cells us e (0,0)):=by rw[<-t];exact heap_alloc_new wd _
 have:=h.fresh (w':=wd.alloc (.cells us e)) d F y z I (x:=⟨some w.heap.size,rows.length,cap,n⟩) (.inr ⟨rfl,by simp[t]⟩) (.row e rows) (λJ=>
  ⟨⟨some w.heap.size,rows.length,cap,n⟩,us,(0,0),by simp[Env.add],.inl rfl,λg K=>by simp_all,rfl,m,G,k,B,D,hR,λh=>(by cases h),λi r j p N O=>let⟨u,P,Q⟩:=H i r j p N O; ⟨u,P,Q.goes J⟩⟩)
 exact⟨this.2,.inr ⟨⟨some w.heap.size,rows.length,cap,n⟩,by simp[E',Env.add],rfl⟩⟩
def Rel.aAH(h:Rel X E st a w){d}(y:E.N d=none)(m:X.k0<=d)(q:d<st.next)(e){n}(k:0<n)(t:n=X.P.cellsOf e):
 let E':=E.add d ⟨none,0,0,n⟩
 Rel X E' (st.ez ⟨[(d,.row e [])],[]⟩) a w/\RV X.M E' w (.c (.own d)) (.slice none 0 0):=by
 intro E';have:=h.fresh (w':=w) d y m q (Below.refl _ _) (x:=⟨none,0,0,n⟩) (.inl rfl) (.row e []) (λ_=>
  ⟨⟨none,0,0,n⟩,#[],(0,0),by simp[Env.add],.inl rfl,λg u=>(by cases u),rfl,dz _,by simp[maxLen],k,t,by simp,λr z=>by simp at z,λ_=>rfl,λi r j p B=>by simp at B⟩)
 exact⟨this.2,.inr ⟨⟨none,0,0,n⟩,by simp[E',Env.add],rfl⟩⟩
def Rel.take(h:Rel X E st a w){m d}(hm:m<st.next){x}(N:E.N m=some x){g}(q:x.g=some g){cur us e fz}(hg:w.heap[g]?=some (.cells cur e fz))(U:tD x.sz us.size fz)
 (hd:E.N d=none) (ad:X.k0<=d) (W:d<st.next) (ae:d∉st.bx) {rows} (hR:dS x.sz rows) (O:0<x.sz) (Y:x.sz=X.P.cellsOf e) (P:rows.length<=x.cap) (Z:x.cap<=maxLen) (aa:us.size=x.cap*x.sz)
 (hc:∀(i)(r)(j)(p),rows[i]?=some r->r[j]?=some p->∃u,us[i*x.sz+j]?=some u/\RP (bad X.M E) w p u):
 let E':=(E.drop [m]).add d ⟨some g,rows.length,x.cap,x.sz⟩
 Rel X E' (st.ez ⟨[(d,.row e rows)],[m]⟩) a (w.setRow g us)/\RV X.M E' (w.setRow g us) (.c (.own d)) (.slice (some ⟨g,0,none⟩) rows.length x.cap):=by
 intro E';have G:∀k,k≠g->(w.setRow g us).heap[k]?=w.heap[k]?:=λk D=>setRow_other w g k _ D
 have ab:(w.setRow g us).heap.size=w.heap.size:=by simp_all
 obtain⟨af,ag,ah⟩:=h.names m x g N q;have B:∀n y,E'.N n=some y->(n=d/\y=⟨some g,rows.length,x.cap,x.sz⟩)\/(n≠d/\n≠m/\E.N n=some y):=by
  intro n y t;simp only[E',Env.add]at t;split at t
  .simp_all
  .obtain⟨H,I⟩:=oG t;simp_all
 have Q:∀k,bad X.M E' k->bad X.M E k:=by
  rintro k (H| ⟨n,y,H,I⟩)
  .exact .inl H
  .rcases B n y H with⟨_,rfl⟩| ⟨_,_,F⟩
   .exact .inr ⟨m,x,N,q.trans I⟩
   .exact .inr ⟨n,y,F,I⟩
 have hG:iX X.M E E' w (w.setRow g us):={
  cell:=λk o u k1 k2=>by
   have:k≠g:=by rintro rfl;exact k2 (.inr ⟨m,x,N,q⟩)
   exact⟨(World.cell?_of_block (w:=w) (a:=⟨k,o,none⟩) (G k this)).trans k1,λh=>k2 (Q k h)⟩
  name:=λn y t=>by
   by_cases R:n=m
   .subst R;exact .inl (by simp[E',Env.add,Env.drop])
   .have:n≠d:=by grind
    simp[E',Env.add,Env.drop,this,R,t]
  bx:=λn R=>by simp[E',Env.add,Env.drop,R]}
 refine⟨h.step ⟨[(d,.row e rows)],[m]⟩ (nx:=st.next) (dz _) hG (by simp[E',Env.add,Env.drop,h.bx]) ?_ ?_ ?_ ?_ ?_ (by simpa using hm) ?_ ?_,.inr ⟨⟨some g,rows.length,x.cap,x.sz⟩,by simp[E',Env.add],rfl⟩⟩
 .refine h.frame.trans (K':=λk=>k=g) ⟨rfl,rfl,rfl,om,λk _ D=>G k D⟩ ?_;grind
 .intro n y t;rcases B n y t with⟨rfl,_⟩| ⟨_,_,F⟩
  .exact W
  .exact h.fj n y F
 .intro n y k t D;rw[ab];rcases B n y t with⟨rfl,rfl⟩| ⟨_,_,F⟩
  .simp_all
  .exact h.names n y k F D
 .intro n k y z b t hz J K;rcases B n y t with⟨rfl,rfl⟩| ⟨H,I,F⟩<;>rcases B k z hz with⟨rfl,rfl⟩| ⟨k1,k2,k3⟩
  .rfl
  .cases J;exact absurd (h.inj k m z x g k3 N K q) k2
  .cases K;exact absurd (h.inj n m y x g F N J q) I
  .exact h.inj n k y z b F k3 J K
 .intro n R;simp only[E',Env.add,Env.drop];grind
 .intro n y k t D ac _;refine G k λhe=>?_
  subst he;have:=h.inj n m y x k t N D q;subst this;exact ac (by simp[E',Env.add,Env.drop])
 .intro n b T;simp only[gb,kJ]at T;split at T
  .rename_i S;simp at S;subst S;cases T;refine .inr ⟨⟨some g,rows.length,x.cap,x.sz⟩,us,fz,by simp[E',Env.add],U,λk D=>by cases D;exact setRow_heap w g cur us e _ hg,rfl,P,Z,O,Y,aa,hR,λh=>(by cases h),λi r j p hi hj=>?_⟩;obtain⟨u,H,I⟩:=hc i r j p hi hj;exact⟨u,H,I.goes hG⟩
  .cases T
def jH(P:cJ)(e:cf):Option (Nat×Nat):=match P.info? e with
 |some i=>match i.zero with
  |some z=>if z.cells.size=i.size/\0<i.size then some (i.size,i.bytes)else none
  |none=>none
 |none=>none
def sS{P e n b}(h:jH P e=some (n,b)):∃i z,P.info? e=some i/\i.zero=some z/\z.cells.size=n/\0<n/\i.size=n/\i.bytes=b/\P.cellsOf e=n:=by
 unfold jH at h;split at h
 .rename_i i c;split at h
  .rename_i z f;split at h
   .rename_i d;obtain⟨rfl,rfl⟩:=h;exact⟨i,z,c,f,d.1,d.2,rfl,rfl,by simp[Program.cellsOf,c]⟩
   .cases h
  .cases h
 .cases h
def bC.iW(st:bC)(e:cf):C->Option (List (List PV)×List Nat)
 |.nil=>some ([],[])
 |.own m=>match st.heap.lookup m with
  |some (.row d rows)=>if d=e then some (rows,[m])else none
  |_=>none
 |.sub m 0 len=>match st.heap.lookup m with
  |some (.row d rows)=>if d=e then some (rows.take len,[m])else none
  |_=>none
 |_=>none
def cC(n:Nat)(rows:List (List PV)):Bool:=rows.all (·.length==n)
def kf{n rows}:cC n rows=true↔dS n rows:=by simp[cC,dS]
def ot(P:cJ)(st:bC)(d:Nat)(t:cf)(s x:cL):Option (V×iI):=
 match f_ P t with
 |some e=>match jH P e,st.arg s,st.arg x with
  |some (n,b),some (.v (.c s)),some (.v (.c x))=>match st.iW e s,st.view x with
   |some (rows,f),some c=>if rows.length+c.length<=9223372036854775807/\(rows.length+c.length)*b<=140737488355328/\cC n rows=true/\cC n c=true then some (.c (.own d),⟨[(d,.row e (rows++c))],f⟩)else none
   |_,_=>none
  |_,_,_=>none
 |none=>none
def DT{α:Type}{l:List α}{n k u}(h:(l.take n)[k]?=some u):l[k]?=some u/\k<n:=by
 grind
theorem Env.lT{E:Env}{d n x}(h:n≠d):(E.add d x).N n=E.N n:=by simp[Env.add,h]
theorem Env.lU{E:Env}{d n}(h:E.N n=none):(E.drop d).N n=none:=by simp[Env.drop,h]
def ale(h:Rel X E st a w){d}(hd:E.N d=none)(G:X.k0<=d)(H:d<st.next)(am:d∉st.bx){t ty s x v ef}
 (N:ot X.P st d t s x=some (v,ef)):
 ∃u w' E',(Builtin.append_ #[t,t] ty #[a.eval s,a.eval x]).run X.P w=.ok u w'/\(∀n,n≠d->E.N n=none->E'.N n=none)/\Rel X E' (st.ez ef) a w'/\RV X.M E' w' v u:=by
 unfold ot at N;split at N
 .rename_i e ht;obtain⟨hu,aO⟩:=oH ht;split at N
  .rename_i n b cs cx an hs hx;obtain⟨i,z,hi,hz,ao,I,aB,aC,l⟩:=sS an;split at N
   .rename_i rows Q c f aD;split at N
    .rename_i hb;obtain⟨ab,aE,R,q⟩:=hb;rw[kf]at R q;have hlen:rows.length+c.length<=maxLen:=by simp only[maxLen];omega
     cases N;obtain⟨aF,_,aG⟩:=h.cX hx;have ap:=h.view aF aG aD;obtain⟨ac,_,aq⟩:=h.cX hs;have aP:(rows.length+c.length:Nat)<=9223372036854775807:=ab;have ar:∀ns,jo (bad X.M E) (bad X.M (E.drop ns)) w w:=λns k o u h1 h2=>⟨h1,λh=>h2 (tS h)⟩
     have hnil:a.eval s=.slice none 0 0->rows=[]->(∀m∈Q,m<st.next)->
      ∃u w' E',(Builtin.append_ #[t,t] ty #[a.eval s,a.eval x]).run X.P w=.ok u w'/\(∀n,n≠d->E.N n=none->E'.N n=none)/\Rel X E' (st.ez ⟨[(d,.row e (rows++c))],Q⟩) a w'/\RV X.M E' w' (.c (.own d)) u:=by
      intro hA h0 ad;subst h0;rw[hA];have hD:=h.drop Q ad;have S:(E.drop Q).N d=none:=Env.lU hd;have aL:∀b,(st.ez ⟨[],Q⟩).ez ⟨[(d,b)],[]⟩=st.ez ⟨[(d,b)],Q⟩:=λb=>by simp[bC.ez]
      rcases ap.src q with⟨rfl,B,cap,C⟩| ⟨g,o,cap,news,C,au,T,hcell,Z,hval⟩
      .have hf:=hD.aAH S G H e I l.symm;refine⟨_,w,_,?_,λk U av=>by grind[Env.lT,Env.lU],hf.1,hf.2⟩;rw[C];cases B<;>simp[Builtin.append_,run_underlying hu,sizeOf,typeInfo,hi,Builtin.lenOf,Builtin.firstCells,loadCells,loadCellsFrom]
      .rw [C];have ae:=grownCap_ge w c.length 0 e;have af:=grownCap_le_maxLen w c.length 0 e (by simpa using hlen);have hrun:=run_append_nil (P:=X.P) w t ty e i z hu hi hz ⟨g,o,none⟩ c.length cap news gL hcell au om (by grind);have hf:=hD.qM S G H (e:=e) I l.symm q ae af (us:=news.toArray++Builtin.zeroCells z.cells (grownCap w c.length 0 e-c.length))
        (by simp only[wY,kW,size_zeroCells,ao,T,<-kV];congr 1;omega)
        (λi r j p k1 k2=>by
         obtain⟨u,O,k4⟩:=hval i r j p k1 k2;have U:=(ek.1 O).1;exact⟨u,by grind,k4.trans (ar Q)⟩) (wd:=w.drew) (.inr rfl)
       grind[Env.lT,Env.lU]
     have hrow:∀(m:Nat)(y:Nm)(g:Nat)(cur:Array b8)(fz:Nat×Nat),tD y.sz cur.size fz->m∉st.bx->E.N m=some y->y.g=some g->w.heap[g]?=some (.cells cur e fz)->y.sz=n->y.cap<=maxLen->cur.size=y.cap*n->rows.length<=y.cap->
      (∀(i:Nat)(r:List PV)(j:Nat)(p:PV),rows[i]?=some r->r[j]?=some p->∃u,cur[i*n+j]?=some u/\RP (bad X.M E) w p u)->a.eval s=.slice (some ⟨g,0,none⟩) rows.length y.cap->Q=[m]->
      ∃u w' E',(Builtin.append_ #[t,t] ty #[a.eval s,a.eval x]).run X.P w=.ok u w'/\(∀n,n≠d->E.N n=none->E'.N n=none)/\Rel X E' (st.ez ⟨[(d,.row e (rows++c))],Q⟩) a w'/\RV X.M E' w' (.c (.own d)) u:=by
      intro m y g0 cur fz V F hN aw J D ax aa W ay aH ad;subst ad;have ag:=h.fj m y hN;rw[aH];have aM:rows.length*n<=cur.size:=by rw[aa];exact gV _ W
      have az:(cur.toList.take (rows.length*n)).length=rows.length*n:=by simp;omega
      rcases ap.src q with⟨rfl,B,cap,C⟩| ⟨g,o,cap,news,C,au,T,hcell,Z,hval⟩
      .have ah:w.setRow g0 cur=w:=setRow_self w g0 cur e fz J;have U:=h.take (d:=d) ag hN aw J (us:=cur) V hd G H am (rows:=rows) gL om (by rw[D,l]) W ax gL gL;simp only[ah]at U;refine⟨.slice (some ⟨g0,0,none⟩) rows.length y.cap,w,_,?_,λk U av=>by grind[Env.lT,Env.lU],by simp_all,U.2⟩;rw[C]
       cases B with
       |none=>simp[Builtin.append_,run_underlying hu,sizeOf,typeInfo,hi,Builtin.lenOf,Builtin.firstCells,W,storeCells]
       |some B=>simp[Builtin.append_,run_underlying hu,sizeOf,typeInfo,hi,Builtin.lenOf,Builtin.firstCells,loadCells,loadCellsFrom,W,storeCells]
      .rw [C];have K:∀(us:Array b8),(∀k,k<rows.length*n+news.length->us[k]?=(cur.toList.take (rows.length*n)++news)[k]?)->∀(i:Nat)(r:List PV)(j:Nat)(p:PV),(rows++c)[i]?=some r->r[j]?=some p->∃u,us[i*n+j]?=some u/\RP (bad X.M E) w p u:=by
        intro us aI i r j p k1 k2;have aQ:r.length=n:=(R.app q) r (eN k1);have hj:=(ek.1 k2).1;rw[mm]at k1;split at k1
        .rename_i aJ;obtain⟨u,O,k4⟩:=ay i r j p k1 k2;have:(i+1)*n<=rows.length*n:=gV _ aJ;grind
        .obtain⟨u,O,k4⟩:=hval _ r j p k1 k2;have U:=(ek.1 O).1;have e1:i*n=rows.length*n+(i-rows.length)*n:=by rw[<-kV];congr 1;omega
         refine⟨u,?_,k4⟩;rw[aI _ om,mm,bG om,az,<-O];congr 1;omega
       by_cases hroom:rows.length+c.length<=y.cap
       .have aN:rows.length*n+news.length<=cur.size:=by rw[T,aa,<-kV];exact gV _ hroom
        have hr:=Du (P:=X.P) w t ty e i hu hi g0 rows.length y.cap cur V J ⟨g,o,none⟩ c.length cap news gL hcell Z hroom gL;rw[aB]at hr;have U:=h.take (d:=d) ag hN aw J (us:=(cur.toList.take (rows.length*n)++news++cur.toList.drop (rows.length*n+news.length)).toArray) (by grind) hd G H am (rows:=rows++c) (by rw[D];exact R.app q) om (by rw[D,l]) (by simpa using hroom) ax
         (by grind) (by
          rw[D];refine K _ λk U=>?_
          grind)
        grind[Env.lT,Env.lU]
       .have holds:∀j v,(cur.toList.take (rows.length*n))[j]?=some v->w.cell? ((⟨g0,0,none⟩:Addr).add j)=some v:=λj u hj=>by
         rw[pN,cell_of_row w g0 _ cur e fz J];grind
        have hr:=run_append_grow (P:=X.P) w t ty e i z hu hi hz ⟨g0,0,none⟩ rows.length y.cap (cur.toList.take (rows.length*n)) gL holds ⟨g,o,none⟩ c.length cap news gL hcell om om
         (by rw[aC];exact growslice_fits om aE)
        have ae:=grownCap_ge w (rows.length+c.length) y.cap e;have af:=grownCap_le_maxLen w (rows.length+c.length) y.cap e hlen;have aA:∀k,k<rows.length*n+news.length->((cur.toList.take (rows.length*n)).toArray++news.toArray++Builtin.zeroCells z.cells (grownCap w (rows.length+c.length) y.cap e- (rows.length+c.length)))[k]?=(cur.toList.take (rows.length*n)++news)[k]?:=by
         grind
        have hD:=h.drop [m] (by simpa using ag);have S:(E.drop [m]).N d=none:=Env.lU hd;have hf:=hD.qM S G H (e:=e) I l.symm (rows:=rows++c) (R.app q) (cap:=grownCap w (rows.length+c.length) y.cap e) (by simpa using ae) af
         (us:=(cur.toList.take (rows.length*n)).toArray++news.toArray++Builtin.zeroCells z.cells (grownCap w (rows.length+c.length) y.cap e- (rows.length+c.length)))
         (by simp only[wY,kW,size_zeroCells,ao,T,az,<-kV];congr 1;omega)
         (λi r j p k1 k2=>by
          obtain⟨u,O,k4⟩:=K _ aA i r j p k1 k2;exact⟨u,O,k4.trans (ar [m])⟩) (wd:=w.drew) (.inr rfl)
        simp only[cw]at hf;exact⟨_,_,_,hr,λk U av=>by grind[Env.lT,Env.lU],hf.1,hf.2⟩
     cases cs with
     |nil=>
      obtain⟨rfl,rfl⟩:=f;exact hnil ac rfl ch
     |own m=>
      simp only[bC.iW]at f;have F:=aq m eH;split at f
      .rename_i e' L hl;split at f
       .rename_i ai;subst ai;cases f;obtain⟨y,cur,fz,h1,V,h2,h3,h4,h5,h6,aj,h7,h8,ak,h9⟩:=h.row F hl;obtain⟨y',k1,k2⟩:=dj.get ac (by rw[h.bx];exact F);rw[h1]at k1;cases k1;have aK:y.sz=n:=by rw[aj,l]
        cases hg:y.g with
        |none=>
         have al:=ak hg;have Y:y.len=0:=om;rw[hg,Y,al]at k2;exact hnil (by simpa using k2) (nu om) (by simpa using h.fj m y h1)
        |some g=>
         grind
       .cases f
      .cases f
     |sub m lo len=>
      cases lo with
      |succ lo=>simp[bC.iW]at f
      |zero=>
      simp only[bC.iW]at f;have F:=aq m eH;split at f
      .rename_i e' L hl;split at f
       .rename_i ai;subst ai;cases f;obtain⟨y,cur,fz,h1,V,h2,h3,h4,h5,h6,aj,h7,h8,ak,h9⟩:=h.row F hl;obtain⟨y',k1,k2,A,O,k4⟩:=dj.get ac (by rw[h.bx];exact F);rw[h1]at k1;cases k1;have aK:y.sz=n:=by rw[aj,l]
        have hA:=k4 (.inr rfl);have aR:(L.take len).length=len:=by simp;omega
        cases hg:y.g with
        |none=>
         have al:=ak hg;have Y:len=0:=om;rw[hA,hg,Y,al]at O;exact hnil (by simpa using O) (by rw[Y];simp) (by simpa using h.fj m y h1)
        |some g=>
         grind
       .cases f
      .cases f
     |_=>simp[bC.iW]at f
    .cases N
   .cases N
  .cases N
 .cases N
end
def setAt(off:Nat)(l:List b8)(s:Nat)(cs:Array b8):Array b8:=(l.zipIdx s).foldl (λcs x=>cs.setIfInBounds (off+x.2) x.1) cs
def JE(off)(l)(s)(cs):(setAt off l s cs).size=cs.size:=by
 induction l generalizing s cs with
 |nil=>rfl
 |cons v l ih=>simp_all[setAt]
def Me(off)(l)(s)(cs)(k):(setAt off l s cs)[k]?=if off+s<=k/\k<off+s+l.length/\k<cs.size then l[k- (off+s)]? else cs[k]?:=by
 induction l generalizing s cs with
 |nil=>simp[setAt];intro b c;omega
 |cons v l ih=>
  have:=ih (s+1) (cs.setIfInBounds (off+s) v);simp only[setAt,acp,CZ]at this⊢;rw[this];simp only[Array.size_setIfInBounds,h_];by_cases b:off+s=k
  .subst b;by_cases c:off+s<cs.size
   .rw[bG om,bB om];simp[c]
   .simp[c]
  .rw[acn,bG b];by_cases d:off+s<=k/\k<off+s+(l.length+1)/\k<cs.size
   .rw[bB om,bB d,show k- (off+s)=(k- (off+(s+1)))+1 by omega];simp
   .rw[bG om,bG d]
def Xv(place)(cells)(i)(v)(rest){off size}(hp:place i=some (off,size))(b:v.cells.size=size)(d:off+size<=cells.size):
 Instr.fill place cells ((i,v)::rest)=Instr.fill place (setAt off v.cells.toList 0 cells) rest:=by
 have c:(v.cells.zipIdx.foldl (λcs x=>cs.setIfInBounds (off+x.2) x.1) cells)=setAt off v.cells.toList 0 cells:=by
  unfold setAt;rw[<-Array.foldl_toList];simp
 simp only[Instr.fill,hp];rw[bG (by simp[b];omega)];rw[<-c]
def Zr(n):∀(vs:List b8)(k)(cells),(∀v∈vs,v.cells.size=n)->(k+vs.length)*n<=cells.size->
 ∃us,Instr.fill (λi=>some (i*n,n)) cells ((vs.zipIdx k).map λx=>(x.2,x.1))=some us/\us.size=cells.size/\
  (∀j,j<k*n->us[j]?=cells[j]?)/\∀(i)(v)(j),vs[i]?=some v->j<n->us[(k+i)*n+j]?=v.cells[j]?
 |[],k,cells,_,_=>⟨cells,rfl,rfl,λ_ _=>rfl,λi v j h=>by simp at h⟩
 |v ::vs,k,cells,d,b=>by
  have e:=d v ch;have f:(k+1)*n<=cells.size:=n_ (gV _ ch) b;rw[pX]at f;obtain⟨us,m,o,g,p⟩:=Zr n vs (k+1) (setAt (k*n) v.cells.toList 0 cells) (λu q=>d u (by simp[q])) (by rw[JE];rw[show k+1+vs.length=k+(vs.length+1)by omega];exact b);refine⟨us,?_,by rw[o,JE],λj l=>?_,λi u j c l=>?_⟩
  .simp only[acp,dE];rw[Xv _ _ _ _ _ rfl e f];exact m
  .rw[g j (by rw[pX];omega),Me,bG om]
  .cases i with
   |zero=>
    simp at c;subst c;rw[lL,g _ (by rw[pX];omega),Me,bB (by simp[e];omega)];simp
   |succ i=>
    have:=p i u j (by simpa using c) l;rw[show k+1+i=k+(i+1)by omega]at this;exact this
def oU{α j:Type}{f}:∀{l:List α}{d},l.mapM f=some d->d.length=l.length/\∀(i:Nat)(y:j),d[i]?=some y->∃x,l[i]?=some x/\f x=some y
 |[],d,h=>by simp_all
 |a::l,d,h=>by
  cases c:f a with
  |none=>simp[c]at h
  |some b=>
   cases e:l.mapM f with
   |none=>simp[c,e]at h
   |some n=>
    simp[c,e]at h;subst h;obtain⟨k,m⟩:=oU e;refine⟨by simp[k],λi y g=>?_⟩
    cases i with
    |zero=>simp at g;subst g;exact⟨a,rfl,c⟩
    |succ i=>simpa using m i y (by simpa using g)
def bC.gr(st:bC)(x:cL):Option V1:=match st.arg x with|some (.v x)=>some x|_=>none
def bC.lits(st:bC):List cL->Option (List (List PV)×List Nat)
 |[]=>some ([],[])
 |x::xs=>match st.gr x with
  |some y=>match st.sinks y.cells,st.lits xs with
   |some (r,d),some (rs,h)=>some (r::rs,d++h)
   |_,_=>none
  |none=>none
section
variable{X:Fx}{E:Env}{st:bC}{a:Act}{w:bW}
def Rel.gr(h:Rel X E st a w){x v}(d:st.gr x=some v):e7 X.M E w v (a.eval x)/\(V.v v).live st.bx=true:=by
 unfold bC.gr at d;split at d
 .rename_i y k;simp at d;subst d;exact h.arg k
 .cases d
def Rel.lits(h:Rel X E st a w):∀{xs:List cL}{rows:List (List PV)}{m:List Nat},st.lits xs=some (rows,m)->rows.length=xs.length/\(∀n∈m,n<st.next)/\
 ∀k,(∀n∈m,n∈k)->∀(i:Nat)(r:List PV),rows[i]?=some r->∃x,xs[i]?=some x/\r.length=(a.eval x).cells.size/\∀(j:Nat)(p:PV),r[j]?=some p->∃u,(a.eval x).cells[j]?=some u/\RP (bad X.M (E.drop k)) w p u
 |[],rows,m,d=>by simp[bC.lits]at d;simp_all
 |x :: xs,rows,m,d=>by
  simp only[bC.lits]at d;split at d
  .rename_i y z;split at d
   .rename_i r B rs P D F;cases d;obtain⟨G,H,Q⟩:=h.lits F;obtain⟨k1,k2⟩:=h.gr z;obtain⟨I,J⟩:=e7.cells k1 (by rw[h.bx];exact k2);obtain⟨s1,K,_,R⟩:=h.sinks I (λi c t=>let⟨u,q1,q2,_⟩:=J i c t; ⟨u,q1,q2⟩) (V5 k2) D;refine⟨by simp[G],λn N=>?_,λk O i r' t=>?_⟩
    .rcases iP.1 N with q|q
     .exact K n q
     .exact H n q
    .cases i with
     |zero=>
      simp_all
     |succ i=>
      simp_all
   .cases d
  .cases d
def yk(P:cJ)(st:bC)(d:Nat)(t:cf)(len:Nat)(parts:List (Nat×cL)):Option (V×iI):=
 match f_ P t with
 |some e=>match jH P e,st.lits (parts.map (·.2))with
  |some (n,_),some (rows,b)=>if parts.map (·.1)=List.range len/\cC n rows=true/\len*n<=16777216 then some (.c (.own d),⟨[(d,.row e rows)],b⟩)else none
  |_,_=>none
 |none=>none
def aki(h:Rel X E st a w){d}(hd:E.N d=none)(O:X.k0<=d)(P:d<st.next){t len}{parts:Array (Nat×cL)}{v ef}
 (l:yk X.P st d t len parts.toList=some (v,ef)):
 ∃u w' E',(Instr.buildSlice t len (parts.map λx=>(x.1,a.eval x.2))).run X.P w=.ok u w'/\(∀n,n≠d->E.N n=none->E'.N n=none)/\Rel X E' (st.ez ef) a w'/\RV X.M E' w' v u:=by
 unfold yk at l;split at l
 .rename_i e ht;obtain⟨N,ac⟩:=oH ht;split at l
  .rename_i n b rows D F y;obtain⟨i,z,hi,hz,ad,m,G,ae,Q⟩:=sS F;split at l
   .rename_i hc;obtain⟨hr,hR,af⟩:=hc;rw[kf]at hR;cases l;obtain⟨ag,H,R⟩:=h.lits y;have I:parts.toList.length=len:=by have:=cW List.length hr;simpa using this
    have f:rows.length=len:=by simp_all
    have g:(parts.map λx=>(x.1,a.eval x.2)).toList=(((parts.toList.map λx=>a.eval x.2).zipIdx 0).map λx=>(x.2,x.1)):=by
     apply sE;intro k;simp only[Qn,cY,List.getElem?_zipIdx,Iu]
     cases o:parts.toList[k]? with
     |none=>simp
     |some x=>
      have A:(parts.toList.map (·.1))[k]?=some x.1:=by simp only[cY,o,cg]
      rw[hr]at A;have s:=(ek.1 A).2;simp[<-s]
    have c:∀(k:Nat)(u:b8),(parts.toList.map λx=>a.eval x.2)[k]?=some u->∃r,rows[k]?=some r/\u.cells.size=n/\∀(j:Nat)(p:PV),r[j]?=some p->∃u',u.cells[j]?=some u'/\RP (bad X.M (E.drop D)) w p u':=by
     intro k u o;simp only[cY,b9]at o;obtain⟨x,hx,rfl⟩:=o;have B:k<rows.length:=by rw[f,<-I];exact(ek.1 hx).1
     obtain⟨x',A,s,h3⟩:=R D (λ_ h=>h) k _ (db B);simp only[cY,hx,cg,ko]at A;subst A;exact⟨_,db B,by rw[<-s];exact hR _ (cV B),h3⟩
    have S:∀u∈parts.toList.map (λx=>a.eval x.2),u.cells.size=n:=by
     intro u N;obtain⟨k,o,T⟩:=kL N;obtain⟨r,_,s,_⟩:=c k u (by rw[<-T];exact db o);exact s
    have U:∃z0:Array b8,((Array.range (len*n)).map (z0[· %z0.size]!)).size=len*n/\(Instr.buildSlice t len (parts.map λx=>(x.1,a.eval x.2))).run X.P w=
     (match Instr.fill (λi=>some (i*n,n)) ((Array.range (len*n)).map (z0[· %z0.size]!)) (parts.map λx=>(x.1,a.eval x.2)).toList with
     |some cells=>.ok (.slice (some ⟨w.heap.size,0,none⟩) len len) (w.alloc (.cells cells e))
     |none=>.halt (.stuck "buildSlice: a part of the wrong size") w):=by
     have V:¬(len*n>16777216):=om;by_cases h0:len*n=0
     .refine⟨#[],by simp,?_⟩;simp[Instr.buildSlice,run_underlying N,sizeOf,typeInfo,hi,G,h0];generalize Instr.fill _ _ _=q;cases q<;>simp[newRow]
     .refine⟨z.cells,by simp,?_⟩;simp only[Instr.buildSlice,run_underlying N,sizeOf,typeInfo,zeroValue,hi,hz,G,h0,V,Sem.run_bind,run_program,Result.andThen_ok,Sem.run_pure,if_false];generalize Instr.fill _ _ _=q;cases q<;>simp[newRow]
    obtain⟨z0,W,hrun⟩:=U;obtain⟨us,A,s,_,h4⟩:=Zr n (parts.toList.map λx=>a.eval x.2) 0 ((Array.range (len*n)).map (z0[· %z0.size]!)) S gL;rw[g,A]at hrun;rw[W]at s;have hm:rows.length<=maxLen:=by
     have:len*1<=len*n:=Nat.mul_le_mul_left _ m;simp only[maxLen];omega
    have hD:=h.drop D H;have Y:(E.drop D).N d=none:=Env.lU hd;have J:∀b,(st.ez ⟨[],D⟩).ez ⟨[(d,b)],[]⟩=st.ez ⟨[(d,b)],D⟩:=λb=>by simp[bC.ez]
    have Z:=hD.qM Y O P (e:=e) m Q.symm hR (cap:=rows.length) (dz _) hm (us:=us) (by rw[s,f]) (λi' r j p C hj=>by
     have K:i'< (parts.toList.map λx=>a.eval x.2).length:=by simp[I,<-f];exact(ek.1 C).1
     obtain⟨r',L,h5,h6⟩:=c i' _ (db K);rw[C]at L;cases L;have aa:j<n:=by rw[<-hR r (eN C)];exact(ek.1 hj).1
     have:=h4 i' _ j (db K) aa;rw[kp]at this;rw[this];exact h6 j p hj) (wd:=w) (.inl rfl)
    rw[J,f]at Z;exact⟨_,_,_,hrun,λk o ab=>by rw[Env.lT o];exact Env.lU ab,Z.1,Z.2⟩
   .cases l
  .cases l
 .cases l
end
def RL(M:gE)(E:Env)(w:bW)(cs:List C)(us:Array b8):Prop:=us.size=cs.length/\∀(i:Nat)(c:C),cs[i]?=some c->∃u,us[i]?=some u/\RC M E w c u/\u.oneCell'=true
def RL.splice{M E w cs xs us vs}(h:RL M E w cs us)(q:RL M E w xs vs.toArray){off}(t:off+xs.length<=cs.length):
 RL M E w (cs.take off++xs++cs.drop (off+xs.length)) (setAt off vs 0 us):=by
 have k:vs.length=xs.length:=by simpa using q.1
 refine⟨by simp only[JE,h.1,cw,dH,jE];omega,λi c d=>?_⟩;rw[Me];simp only[lL,k,h.1,dr]at d⊢;rw[mm]at d;simp only[dH,o0 (show off<=cs.length by omega)]at d;split at d
 .rename_i m;rw[jD,bB m]at d;rw[bG om];exact h.2 i c d
 .rw[mm]at d;split at d
  .rw[bB om];obtain⟨u,x,y⟩:=q.2 _ c d;simp_all
  .rw[bG om];rw[kU,show off+xs.length+(i-off-xs.length)=i by omega]at d;exact h.2 i c d
def vQ(place:Nat->Option (Nat×Nat))(cells:List C):List (Nat×List C)->Option (List C)
 |[]=>some cells
 |(i,x)::rest=>match place i with
  |none=>none
  |some (off,size)=>if x.length=size/\off+x.length<=cells.length then vQ place (cells.take off++x++cells.drop (off+x.length)) rest else none
def VI{M:gE}{E:Env}{w:bW}(place:Nat->Option (Nat×Nat)):∀(parts:List (Nat×List C))(vals:List (Nat×b8))(cells:List C)(us:Array b8){b:List C},
 vals.length=parts.length->(∀(k:Nat)(x:Nat×List C)(y:Nat×b8),parts[k]?=some x->vals[k]?=some y->y.1=x.1/\RL M E w x.2 y.2.cells)->RL M E w cells us->vQ place cells parts=some b->
 ∃c,Instr.fill place us vals=some c/\RL M E w b c
 |[],vals,cells,us,b,d,_,e,h=>by
  have:vals=[]:=nu (by simpa using d);subst this;simp[vQ]at h;subst h;exact⟨us,rfl,e⟩
 |(i,x)::parts,vals,cells,us,b,d,g,e,h=>by
  cases vals with
  |nil=>simp at d
  |cons y vals=>
   obtain⟨m,j⟩:=g 0 (i,x) y rfl rfl;obtain⟨l,v⟩:=y;subst m;simp only[vQ]at h
   cases hp:place l with
   |none=>simp[hp]at h
   |some os=>
    simp only[hp]at h;split at h
    .rename_i f;rw[Xv place us l v vals hp (by rw[j.1];exact f.1) (by rw[<-f.1,e.1];exact f.2)];exact VI place parts vals _ _ (by simpa using d) (λk x y n o=>g (k+1) x y (by simpa using n) (by simpa using o)) (e.splice (vs:=v.cells.toList) (by simpa using j) f.2) h
    .cases h
def Hz(P:cJ)(t:cf):Option (List (Nat×Nat)):=match P.underlying t with
 |some (.struct fields)=>fields.toList.mapM (λf=>(P.info? f.type).map λi=>(f.offset,i.size))
 |some (.array n e)=>match P.info? e with
  |some i=>some ((List.range n).map λk=>(k*i.size,i.size))
  |none=>none
 |_=>none
def xW{P M E w t cs}(h:qO P t=some cs):∃i z,P.info? t=some i/\i.zero=some z/\RL M E w cs z.cells:=by
 unfold qO at h;split at h
 .rename_i i e;split at h
  .rename_i z f;split at h
   .rename_i hall;simp at h;subst h;refine⟨i,z,e,f,by simp,λk c b=>?_⟩;simp only[cY,b9,aco]at b;obtain⟨u,d,rfl⟩:=b;exact⟨u,d,Po M E w u,by simp only[cI]at hall;exact hall u (Array.mem_toList_iff.2 (Array.mem_of_getElem? d))⟩
   .cases h
  .cases h
 .cases h
def yx(P:cJ)(st:bC)(t:cf)(parts:Array (Nat×cL)):Option V:=
 match qO P t,Hz P t,parts.toList.mapM (λx=>(st.gr x.2).map λy=>(x.1,y.cells))with
 |some b,some ps,some xs=>(vQ (ps[·]?) b xs).map λcs=>.v (.agg cs)
 |_,_,_=>none
def Wt{p q}(h:∀i x,p i=some x->q i=some x):∀(l)(us b),Instr.fill p us l=some b->Instr.fill q us l=some b
 |[],us,b,c=>c
 |(i,v)::l,us,b,c=>by
  simp only[Instr.fill]at c⊢
  cases hp:p i with
  |none=>simp[hp]at c
  |some x=>
   rw[h i x hp];simp only[hp]at c⊢;split at c
   .cases c
   .rename_i d;rw[bG d];exact Wt h l _ _ c
def aBS{X E st a w}(h:Rel X E st a w){t parts v}
 (b:yx X.P st t parts=some v):∃u,(Instr.build t (parts.map λx=>(x.1,a.eval x.2))).run X.P w=.ok u w/\RV X.M E w v u:=by
 unfold yx at b;split at b
 .rename_i A ps xs B hp C;simp at b;obtain⟨cs,d,rfl⟩:=b;obtain⟨i,z,D,f,g⟩:=xW (M:=X.M) (E:=E) (w:=w) B;obtain⟨j,l⟩:=oU C;obtain⟨us,F,q⟩:=VI (M:=X.M) (E:=E) (w:=w) (ps[·]?) xs (parts.map λx=>(x.1,a.eval x.2)).toList A z.cells (by simp[j]) (λk x y c r=>by
   obtain⟨o,G,s⟩:=l k x c;simp only[Qn,cY,G,cg,ko]at r;subst r;simp only[b9]at s;obtain⟨L,H,rfl⟩:=s;obtain⟨I,J⟩:=h.gr H;exact⟨rfl,e7.cells I (by rw[h.bx];exact J)⟩) g d
  refine⟨_,run_build w t _ us ?_,us,rfl,q.1,q.2⟩;unfold Program.built;unfold Hz at hp;split at hp
  .simp_all
  .rename_i n e K;split at hp
   .rename_i N m;simp at hp;subst hp;simp only[D,K,f,m];refine Wt (λk x c=>?_) _ _ _ F;simp only[cY,b9]at c;obtain⟨O,p,rfl⟩:=c;have:=(ek.1 p).2;simp[<-this]
   .cases hp
  .cases hp
 .cases b
end
end
end Go.Proofs.YtiikkkhcolcebaaGreatDoor
