/- A part. -/
import Derived.WalkKit
import Derived.WalkSpells
import Derived.WalkLawsBesides
import Derived.Below
import Derived.IntWalk
import Derived.Laws.AppendOwn
import Derived.Laws.MakeOwn
import Derived.Laws.OwnMore
import Derived.Laws.ComplexArith
set_option linter.all false
set_option maxHeartbeats 4000000
set_option maxRecDepth 100000
namespace Go.Proofs.YtiikkkhcolcebaaGreatDoor
noncomputable section
abbrev bA:=@if_pos
abbrev bD:=@List.length_map
abbrev bH:=@if_neg
abbrev bX:=World
abbrev bY:=@Option.map_eq_some_iff
abbrev b9:=Value
abbrev b_:=@Option.map_some
abbrev cd:=TypeId
abbrev cu:=@Bool.and_eq_true
abbrev cz:=@List.all_eq_true
abbrev cC:=Program
abbrev cD:=@List.length_append
abbrev cF:=Operand
abbrev cO:=@congrArg
abbrev cQ:=@List.getElem_mem
abbrev cX:=@List.getElem?_map
abbrev cY:=@List.getElem?_eq_getElem
abbrev de:=@Nat.le_refl
abbrev dk:=@List.map_cons
abbrev dz:=@List.length_take
abbrev dE:=@List.map_append
abbrev dI:=@List.append_assoc
abbrev dO:=@List.getElem?_eq_some_iff
abbrev eb:=@List.mem_of_getElem?
abbrev eo:=@List.take_of_length_le
abbrev ey:=@Int.toNat_natCast
abbrev eD:=@decide_eq_true_eq
abbrev eE:=@of_decide_eq_true
abbrev eG:=@List.mem_cons
abbrev eM:=@Nat.zero_le
abbrev eX:=IntKind
abbrev fi:=@List.take_succ_eq_append_getElem
abbrev fu:=ByteArray
abbrev fv:=@of_decide_eq_false
abbrev fD:=@List.lookup_cons
abbrev fE:=@List.mem_map
abbrev fW:=@List.append_nil
abbrev gi:=@Nat.mul_le_mul_right
abbrev gp:=@List.map_map
abbrev gx:=@Option.getD_some
abbrev gy:=@List.length_cons
abbrev gz:=@List.map_congr_left
abbrev gI:=@List.mem_append
abbrev gJ:=@List.map_nil
abbrev gK:=@List.pairwise_cons
abbrev iy:=@Option.bind_eq_some_iff
abbrev iz:=@List.mem_cons_of_mem
abbrev iA:=@List.mem_cons_self
abbrev jc:=@List.getElem?_take
abbrev jq:=@Option.some.injEq
abbrev jr:=@List.mem_range
abbrev js:=@Classical.not_not
abbrev jG:=@List.getElem_of_mem
abbrev jH:=@List.length_nil
abbrev jS:=@List.lookup_nil
abbrev jT:=@Bool.eq_iff_iff
abbrev jU:=@Nat.add_mul
abbrev jV:=@Nat.zero_add
abbrev jW:=@Array.getElem?_eq_some_iff
abbrev jX:=@List.mem_singleton
abbrev jY:=@List.take_length
abbrev jZ:=@List.getD_eq_getElem?_getD
abbrev kC:=@List.getElem?_drop
abbrev kD:=@List.size_toArray
abbrev kE:=@List.pairwise_iff_getElem
abbrev kF:=@List.getElem?_append_right
abbrev lg:=@List.getElem?_append
abbrev lh:=@Nat.add_zero
abbrev lj:=@List.map_take
abbrev lp:=@List.nil_append
abbrev lq:=@List.lt_irrefl
abbrev lr:=@List.length_set
abbrev mh:=@List.length_drop
abbrev mi:=@Array.toList_inj
abbrev mM:=@Nat.lt_of_lt_of_le
abbrev mN:=@List.eq_nil_of_length_eq_zero
abbrev mO:=@List.mem_of_mem_take
abbrev mP:=@Nat.lt_or_ge
abbrev nP:=@List.mem_of_mem_drop
abbrev nQ:=@Nat.min_eq_left
abbrev nR:=@List.map_drop
abbrev oU:=@Nat.le_trans
abbrev oV:=@Bool.not_eq_true'
abbrev oW:=@Nat.succ_mul
abbrev oX:=@Bool.or_eq_true
abbrev oY:=@List.getElem?_append_left
abbrev oZ:=@List.getElem?_cons_zero
abbrev o0:=@List.getElem?_eq_none
abbrev o2:=@Classical.byContradiction
abbrev pS:=@Bool.false_eq_true
abbrev pT:=@List.getElem?_toArray
abbrev pU:=@List.length_replicate
abbrev pV:=@Nat.lt_succ_self
abbrev rb:=@List.cons_append
abbrev rf:=@Array.getD_eq_getD_getElem?
abbrev rh:=@Option.isSome_iff_exists
abbrev ri:=@Array.getElem?_eq_getElem
abbrev rj:=@Option.bind_some
abbrev rk:=@List.mapM_cons
abbrev rl:=@List.drop_eq_nil_of_le
abbrev rm:=@Option.some.inj
abbrev rn:=@Nat.not_lt_zero
abbrev sM:=@List.mem_flatMap
abbrev sO:=@Nat.sub_self
abbrev sP:=@List.ext_getElem?
abbrev sQ:=@Array.getElem?_append
abbrev sR:=@List.mem_filterMap
abbrev sS:=@List.drop_eq_getElem_cons
abbrev sU:=@Nat.eq_of_beq_eq_true
abbrev sV:=@Int.le_trans
abbrev vf:=@Array.size_append
abbrev vg:=@List.getElem?_range
abbrev vh:=@List.drop_zero
abbrev vi:=@Array.getElem?_append_left
abbrev vj:=@Nat.le_succ
abbrev xZ:=@List.mem_append_left
abbrev x5:=@List.mem_append_right
abbrev x6:=@decide_eq_false_iff_not
abbrev x7:=@Nat.mul_one
abbrev x8:=@Nat.mod_eq_of_lt
abbrev x9:=@Nat.mul_pos
abbrev x_:=@Nat.pow_add
abbrev ya:=@List.contains_eq_mem
abbrev yb:=@Array.replicate_succ
abbrev yc:=@Array.replicate_zero
abbrev yd:=@List.push_toArray
abbrev ye:=@List.append_toArray
abbrev yf:=@Nat.lt_succ_of_lt
abbrev yg:=@List.foldl_append
abbrev yh:=@List.lt_trans
abbrev yi:=@List.getElem?_set_ne
abbrev yj:=@List.getElem_append_right
abbrev Ba:=@Array.eq_empty_of_size_eq_zero
abbrev Bb:=@Nat.add_assoc
abbrev Bc:=@List.foldl_cons
abbrev Bd:=@Int.toNat_of_nonneg
abbrev Be:=@List.mem_replicate
abbrev Bf:=@Nat.lt_trichotomy
abbrev Bg:=@Nat.zero_mul
abbrev Bh:=@Nat.shiftLeft_eq
abbrev Bi:=@List.getElem?_cons_succ
abbrev Bj:=@Int.toNat_zero
abbrev Bk:=@Nat.xor_lt_two_pow
abbrev Bl:=@Nat.pow_le_pow_right
abbrev Bm:=@List.getElem_set_ne
abbrev Gp:=@List.getElem?_set
abbrev Gq:=@Array.length_toList
abbrev Gr:=@Option.map_map
abbrev Gs:=@List.all_cons
abbrev Gt:=@Nat.add_sub_cancel
abbrev Gu:=@List.map_id
abbrev Gv:=@List.map_replicate
abbrev Gw:=@List.mem_filter
abbrev Gx:=@List.Perm.refl
abbrev Gy:=@List.range_succ
abbrev Gz:=@List.drop_of_length_le
abbrev GA:=@List.not_mem_nil
abbrev GB:=@Int.add_zero
abbrev GC:=@List.length_singleton
abbrev GD:=@Int.fdiv_eq_ediv_of_nonneg
abbrev GF:=@BitVec.toNat_ofInt
abbrev GG:=@List.pairwise_append
abbrev GH:=@List.getElem_append_left
abbrev GI:=@List.take_left
abbrev GJ:=@List.filter_sublist
abbrev Od:=@List.exists_cons_of_ne_nil
abbrev Oe:=@Nat.mul_comm
abbrev Of:=@Array.toList_map
abbrev Og:=@Int.natCast_mul
abbrev Oh:=@List.findIdx?_cons
abbrev Oi:=@Array.getElem?_modify
abbrev Oj:=@Nat.sub_zero
abbrev Ol:=@Nat.ne_of_gt
abbrev Om:=@Array.getElem?_extract
abbrev On:=@List.any_eq_true
abbrev Oo:=@List.getElem?_replicate
abbrev Oq:=@Nat.two_pow_pos
abbrev Ot:=@List.take_succ_cons
abbrev Ou:=@List.isEmpty_iff
abbrev Ov:=@List.drop_append
abbrev Ow:=@List.drop_left'
abbrev Ox:=@Array.getElem?_eq_none
abbrev Oy:=@List.take_zero
abbrev Oz:=@Nat.mul_le_mul
abbrev OA:=@List.find?_cons
abbrev OB:=@List.find?_eq_none
abbrev OC:=@Int.pow_nonneg
abbrev OD:=@Nat.shiftRight_eq_div_pow
abbrev OE:=@List.getElem?_set_self
abbrev OF:=@BitVec.toNat_and
abbrev OG:=@List.set_append_right
abbrev OH:=@List.set_cons_zero
abbrev OI:=@Nat.lt_or_gt_of_ne
abbrev OJ:=@List.length_filter_le
abbrev OK:=@List.getElem_set_self
abbrev ZD:=@Array.getElem?_setIfInBounds
abbrev ZE:=@Array.getElem?_toList
abbrev ZF:=@List.zipIdx_cons
abbrev ZG:=@Array.getElem?_map
abbrev ZH:=@Array.getElem?_range
abbrev ZI:=@Nat.mul_add_mod
abbrev ZJ:=@Nat.min_le_left
abbrev ZK:=@Option.ne_none_iff_exists'
abbrev ZL:=@List.getElem?_of_mem
abbrev ZM:=@Nat.le_add_right
abbrev ZN:=@Array.getElem?_replicate
abbrev ZO:=@List.find?_some
abbrev ZP:=@List.mem_of_find?_eq_some
abbrev ZQ:=@Nat.lt_of_le_of_lt
abbrev ZR:=@Option.ite_none_right_eq_some
abbrev ZS:=@Option.map_none
abbrev ZT:=@List.mem_reverse
abbrev ZU:=@Bool.eq_false_or_eq_true
abbrev ZV:=@Int.tmod_eq_emod_of_nonneg
abbrev ZW:=@Nat.le_of_ble_eq_true
abbrev ZX:=@Bool.eq_false_iff
abbrev ZY:=@List.flatMap_append
abbrev ZZ:=@List.pairwise_singleton
abbrev Z0:=@List.filter_append
abbrev Z1:=@List.filter_cons_of_pos
abbrev Z2:=@List.filter_cons_of_neg
abbrev Z3:=@List.filter_nil
abbrev Z4:=@List.getElem_map
abbrev aCq:=@Nat.mul_lt_mul_of_pos_right
abbrev aCr:=@List.take_append_of_le_length
section
open Go.RowKit
theorem om{P:Prop}(h:P:=by omega):P:=h
theorem dc{P:Prop}(h:P:=by decide):P:=h
theorem kr{P:Prop}(h:P:=by kernel_rfl):P:=h
inductive PV where
 |sc (v:b9)
 |sl (rows:List (List PV))
 |nl
 |any
deriving Inhabited
def flat:b9->Bool
 |.bool _| .int _ _| .float _ _| .complex _ _ _| .string _| .pointer none| .map none| .nilFunc| .nilIface=>true
 |_=>false
abbrev fZ:=Nat->Prop
def dy(n:Nat)(rows:List (List PV)):Prop:=∀r∈rows,r.length=n
inductive RP(M:fZ)(w:bX):PV->b9->Prop
 |sc {v:b9} (h:flat v=true):RP M w (.sc v) v
 |nil {A:Option Addr} {cap:Nat}:RP M w (.sl []) (.slice A 0 cap)
 |nl {A:Option Addr}:RP M w .nl (.slice A 0 0)
 |any {v:b9}:v.oneCell'=true->RP M w .any v
 |row {rows:List (List PV)} {g o cap sz:Nat} {f:Nat->Nat->b9} (h0:rows≠ []) (hl:rows.length<=cap) (hm:cap<=maxLen)
  (hs:∀r∈rows,r.length=sz)
  (hc:∀(i:Nat)(r:List PV)(j:Nat)(p:PV),rows[i]?=some r->r[j]?=some p->w.cell? ⟨g,o+i*sz+j,none⟩=some (f i j)/\¬M g)
  (hp:∀(i:Nat)(r:List PV)(j:Nat)(p:PV),rows[i]?=some r->r[j]?=some p->RP M w p (f i j)):
  RP M w (.sl rows) (.slice (some ⟨g,o,none⟩) rows.length cap)
theorem auK{v}(h:flat v=true):v.oneCell'=true:=by cases v<;>simp_all [flat,Value.oneCell']
theorem RP.rZ{M w p v}(h:RP M w p v):v.oneCell'=true:=by
 cases h with
 |sc h=>exact auK h
 |nil=>rfl
 |nl=>rfl
 |any h=>exact h
 |row=>rfl
def iK(M a:fZ)(w w':bX):Prop:=∀g o u,w.cell? ⟨g,o,none⟩=some u->¬M g->w'.cell? ⟨g,o,none⟩=some u/\¬a g
theorem RP.trans{M k w w' p v}(h:RP M w p v)(q:iK M k w w'):RP k w' p v:=by
 induction h with
 |sc h=>exact .sc h
 |nil=>exact .nil
 |nl=>exact .nl
 |any h=>exact .any h
 |row t u x y m hp ih=>exact .row t u x y (λi r j p a d=>q _ _ _ (m i r j p a d).1 (m i r j p a d).2) (λi r j p a d=>ih i r j p a d)
def PV.wk:PV->PV
 |.nl=>.sl []
 |q=>q
theorem RP.wk{M w p v}(h:RP M w p v):RP M w p.wk v:=by
 cases h with
 |sc h=>exact .sc h
 |nil=>exact .nil
 |nl=>exact .nil
 |any h=>exact .any h
 |row a d k m q hp=>exact .row a d k m q hp
theorem RP.Qi{M w v}(h:RP M w .nl v):∃A,v=.slice A 0 0:=by cases h;exact⟨_,rfl⟩
theorem RP.ek{M w u v}(h:RP M w (.sc u) v):v=u:=by cases h;rfl
def Rows(M:fZ)(w:bX)(rows:List (List PV))(v:b9):Prop:=
 (rows=[]/\∃A cap,v=.slice A 0 cap)\/∃(g o cap sz:Nat)(f:Nat->Nat->b9),v=.slice (some ⟨g,o,none⟩) rows.length cap/\rows≠ []/\rows.length<=cap/\cap<=maxLen/\dy sz rows/\
  ∀(i:Nat)(r:List PV)(j:Nat)(p:PV),rows[i]?=some r->r[j]?=some p->w.cell? ⟨g,o+i*sz+j,none⟩=some (f i j)/\RP M w p (f i j)
theorem RP.rows{M w rows v}(h:RP M w (.sl rows) v):Rows M w rows v:=by
 cases h with
 |nil=>exact .inl ⟨rfl,_,_,rfl⟩
 |row k m q t u hp=>exact .inr ⟨_,_,_,_,_,rfl,k,m,q,t,λi r j p a d=>⟨(u i r j p a d).1,hp i r j p a d⟩⟩
inductive C where
 |p (p:PV)
 |nil
 |own (n:Nat)
 |sub (n lo len:Nat)
 |ptr (n off:Nat)
 |dH (n i j:Nat)
 |ref (cells:List PV)
 |fn (f:FuncId) (ee:List Nat)
 |mp (n:Nat)
 |dead
deriving Inhabited
inductive V1 where
 |c (c:C)
 |agg (cs:List C)
deriving Inhabited
inductive V where
 |v (x:V1)
 |bL (xs:List V1)
deriving Inhabited
inductive eQ where
 |box (cs:List C)
 |row (e:cd) (rows:List (List PV))
 |map (es:List (List PV))
deriving Inhabited
abbrev Hp:=List (Nat×eQ)
structure Nm where
 g:Option Nat
 len:Nat
 cap:Nat
 sz:Nat
structure Env where
 N:Nat->Option Nm
 bu:List Nat
def bad(M:fZ)(E:Env):fZ:=λg=>M g\/∃n x,E.N n=some x/\x.g=some g
def cW(E:Env)(n:Nat)(Q:Nm->Prop):Prop:=n∈E.bu\/∃x,E.N n=some x/\Q x
def RC(M:fZ)(E:Env)(w:bX):C->b9->Prop
 |.p p,v=>RP (bad M E) w p v
 |.nil,v=>v=.slice none 0 0
 |.own n,v=>cW E n λx=>v=.slice (x.g.map λg=>⟨g,0,none⟩) x.len x.cap
 |.sub n lo len,v=>cW E n λx=>lo+len<=x.len/\∃A,v=.slice A len (x.cap-lo)/\(x.cap≠lo\/lo=0->A=x.g.map λg=>⟨g,lo*x.sz,none⟩)
 |.ptr n off,v=>cW E n λx=>∃g,x.g=some g/\v=.pointer (some ⟨g,off,none⟩)
 |.dH n i j,v=>cW E n λx=>i<x.len/\∃g,x.g=some g/\v=.pointer (some ⟨g,i*x.sz+j,none⟩)
 |.ref cells,v=>∃g o,v=.pointer (some ⟨g,o,none⟩)/\∀(j:Nat)(p:PV),cells[j]?=some p->∃u,w.cell? ⟨g,o+j,none⟩=some u/\¬bad M E g/\RP (bad M E) w p u
 |.fn f ee,v=>∃us:Array b9,v=.func (.func f) #[] us/\us.size=ee.length/\∀(i n:Nat),ee[i]?=some n->∃u,us[i]?=some u/\cW E n λx=>∃g,x.g=some g/\u=.pointer (some ⟨g,0,none⟩)
 |.mp n,v=>cW E n λx=>∃g,x.g=some g/\v=.map (some g)
 |.dead,_=>True
def eB(M:fZ)(E:Env)(w:bX):V1->b9->Prop
 |.c c,v=>RC M E w c v
 |.agg cs,v=>∃us:Array b9,v=.agg us/\us.size=cs.length/\∀(i:Nat)(c:C),cs[i]?=some c->∃u,us[i]?=some u/\RC M E w c u/\u.oneCell'=true
def RV(M:fZ)(E:Env)(w:bX):V->b9->Prop
 |.v x,v=>eB M E w x v
 |.bL xs,v=>∃us:Array b9,v=.tuple us/\us.size=xs.length/\∀(i:Nat)(x:V1),xs[i]?=some x->∃u,us[i]?=some u/\eB M E w x u
def nc(n:Nat)(fz:Nat×Nat):Prop:=fz=(0,0)\/n<=fz.1
def sa(sz n:Nat)(fz:Nat×Nat):Prop:=fz=(0,0)\/(sz=1/\n<=fz.1)
theorem sa.ok{sz n:Nat}{fz:Nat×Nat}(h:sa sz n fz):nc n fz:=h.imp id And.right
instance {sz n:Nat}{fz:Nat×Nat}:CoeOut (sa sz n fz) (nc n fz):=⟨sa.ok⟩
def nh(B:fZ)(w:bX)(m:MapEntry):List PV->Prop
 |.sc (.int .u64 z)::ps=>m.key=.int .u64 z/\∃us,m.val=.agg us/\us.size=ps.length/\∀(j:Nat)(p:PV),ps[j]?=some p->∃u,us[j]?=some u/\RP B w p u/\u.oneCell'=true
 |_=>False
def iC(B:fZ)(w:bX):List MapEntry->List (List PV)->Prop
 |[],[]=>True
 |m::a,r::b=>nh B w m r/\iC B w a b
 |_,_=>False
theorem nh.trans{B a w w' m}(d:iK B a w w'):∀{r},nh B w m r->nh a w' m r
 |.sc (.int .u64 _)::_,⟨h,us,k,q,t⟩=>⟨h,us,k,q,λj p x=>let⟨u,k1,k2,y⟩:=t j p x; ⟨u,k1,k2.trans d,y⟩⟩
theorem iC.trans{B a w w'}:∀{d h},iC B w d h->iK B a w w'->iC a w' d h
 |[],[],_,_=>trivial
 |_::_,_::_,⟨m,q⟩,k=>⟨m.trans k,q.trans k⟩
def RB(P:cC)(M:fZ)(E:Env)(w:bX)(n:Nat):eQ->Prop
 |.box cs=>∃x g cur e,E.N n=some x/\x.g=some g/\w.heap[g]?=some (.cells cur e (0,0))/\cur.size=cs.length/\
  ∀(i:Nat)(c:C),cs[i]?=some c->∃u,cur[i]?=some u/\RC M E w c u/\u.oneCell'=true
 |.row e rows=>∃x cur fz,E.N n=some x/\sa x.sz cur.size fz/\(∀g,x.g=some g->w.heap[g]?=some (.cells cur e fz))/\x.len=rows.length/\x.len<=x.cap/\x.cap<=maxLen/\0<x.sz/\x.sz=P.cellsOf e/\cur.size=x.cap*x.sz/\dy x.sz rows/\(x.g=none->x.cap=0)/\
  ∀(i:Nat)(r:List PV)(j:Nat)(p:PV),rows[i]?=some r->r[j]?=some p->∃u,cur[i*x.sz+j]?=some u/\RP (bad M E) w p u
 |.map b=>∃x g a clock,E.N n=some x/\x.g=some g/\w.heap[g]?=some (.map a clock)/\iC (bad M E) w a.toList b
structure h_(M:fZ)(E E':Env)(w w':bX):Prop where
 cell:iK (bad M E) (bad M E') w w'
 name:∀n x,E.N n=some x->n∈E'.bu\/E'.N n=some x
 bu:∀n,n∈E.bu->n∈E'.bu
section
variable{M:fZ}{E E':Env}{w w':bX}
theorem RP.goes(a:h_ M E E' w w'){p v}(h:RP (bad M E) w p v):RP (bad M E') w' p v:=h.trans a.cell
theorem cW.goes(d:h_ M E E' w w'){n Q}(h:cW E n Q):cW E' n Q:=by
 rcases h with h| ⟨x,k,m⟩
 .exact .inl (d.bu n h)
 .rcases d.name n x k with a|a
  .exact .inl a
  .exact .inr ⟨x,a,m⟩
theorem RC.goes(a:h_ M E E' w w'){c v}(h:RC M E w c v):RC M E' w' c v:=by
 cases c with
 |p p=>exact RP.goes a h
 |nil=>exact h
 |own n=>exact cW.goes a h
 |sub n lo len=>exact cW.goes a h
 |ptr n off=>exact cW.goes a h
 |dH n i j=>exact cW.goes a h
 |ref cells=>
  obtain⟨g,o,m,q⟩:=h;refine⟨g,o,m,λj p x=>?_⟩;obtain⟨u,d,k,t⟩:=q j p x;exact⟨u,(a.cell _ _ _ d k).1,(a.cell _ _ _ d k).2,RP.goes a t⟩
 |fn f ee=>
  obtain⟨us,m,q,d⟩:=h;exact⟨us,m,q,λi n y=>let⟨u,k,t⟩:=d i n y; ⟨u,k,t.goes a⟩⟩
 |mp n=>exact cW.goes a h
 |dead=>trivial
theorem eB.goes(a:h_ M E E' w w'){x v}(h:eB M E w x v):eB M E' w' x v:=by
 cases x with
 |c c=>exact RC.goes a h
 |agg cs=>
  obtain⟨us,d,k,m⟩:=h;exact⟨us,d,k,λi c q=>let⟨u,t,y,z⟩:=m i c q; ⟨u,t,y.goes a,z⟩⟩
theorem RV.goes(a:h_ M E E' w w'){x v}(h:RV M E w x v):RV M E' w' x v:=by
 cases x with
 |v x=>exact eB.goes a h
 |bL xs=>
  obtain⟨us,d,k,m⟩:=h;exact⟨us,d,k,λi c q=>let⟨u,t,y⟩:=m i c q; ⟨u,t,y.goes a⟩⟩
theorem RB.goes{P}(q:h_ M E E' w w'){n}(N:n∉E'.bu)(t:∀x g,E.N n=some x->x.g=some g->w'.heap[g]?=w.heap[g]?){b}(h:RB P M E w n b):RB P M E' w' n b:=by
 have y:∀x,E.N n=some x->E'.N n=some x:=λx O=>(q.name n x O).resolve_left N
 cases b with
 |box cs=>
  obtain⟨x,g,cur,e,a,d,k,m,z⟩:=h;exact⟨x,g,cur,e,y x a,d,(t x g a d).trans k,m,λi c B=>let⟨u,D,F,G⟩:=z i c B; ⟨u,D,F.goes q,G⟩⟩
 |row e rows=>
  obtain⟨x,cur,fz,a,H,k,m,z,D,F,I,G,Q,J,R⟩:=h;exact⟨x,cur,fz,y x a,H,λg K=>(t x g a K).trans (k g K),m,z,D,F,I,G,Q,J,λi r j p B S=>let⟨u,k1,k2⟩:=R i r j p B S; ⟨u,k1,k2.goes q⟩⟩
 |map U=>
  obtain⟨x,g,T,clock,a,d,k,m⟩:=h;exact⟨x,g,T,clock,y x a,d,(t x g a d).trans k,m.trans q.cell⟩
end
structure Frame(K:fZ)(w w':bX):Prop where
 os:w'.os=w.os
 tape:w'.tape=w.tape
 output:w'.output=w.output
 size:w.heap.size<=w'.heap.size
 block:∀g,g<w.heap.size->¬K g->w'.heap[g]?=w.heap[g]?
theorem Frame.refl(K)(w):Frame K w w:=⟨rfl,rfl,rfl,de _,λ_ _ _=>rfl⟩
theorem Frame.trans{K K' a b c}(h:Frame K a b)(k:Frame K' b c)(q:∀g,g<a.heap.size->K' g->K g):Frame K a c:=
 ⟨k.os.trans h.os,k.tape.trans h.tape,k.output.trans h.output,oU h.size k.size,λg d m=>
  (k.block g (mM d h.size) λt=>m (q g d t)).trans (h.block g d m)⟩
theorem Frame.ER{K w w'}(h:Below w.heap.size w w'):Frame K w w':=⟨h.os,h.tape,h.output,h.size,λg a _=>h.block g a⟩
structure bx where
 tmps:List V
 heap:Hp
 bu:List Nat
 next:Nat
structure Fx where
 P:cC
 M:fZ
 K:fZ
 w0:bX
 N0:Nat->Option Nm
 k0:Nat
 D:List Deferred
structure Rel(X:Fx)(E:Env)(st:bx)(a:Act)(w:bX):Prop where
 defers:a.defers=X.D
 bu:E.bu=st.bu
 frame:Frame X.K X.w0 w
 iS:∀g,X.M g->g<X.w0.heap.size
 eJ:∀n x,E.N n=some x->n<st.next
 names:∀n x g,E.N n=some x->x.g=some g->g<w.heap.size/\(X.K g\/X.w0.heap.size<=g)/\¬X.M g
 inj:∀n m x y g,E.N n=some x->E.N m=some y->x.g=some g->y.g=some g->n=m
 fM:∀m,m<X.k0->E.N m=none\/E.N m=X.N0 m
 jh:X.k0<=st.next
 kz:∀n∈st.bu,n<st.next
 size:a.tmps.size=st.tmps.length
 tmps:∀(i:Nat)(v:V),st.tmps[i]?=some v->∃u,a.tmps[i]?=some u/\RV X.M E w v u
 heap:∀n b,st.heap.lookup n=some b->n∈st.bu\/RB X.P X.M E w n b
def bx.put(st:bx)(d:Option Nat)(v:V):bx:=
 match d with
 |some d=> {st with tmps:=st.tmps.set d v}
 |none=>st
theorem Rel.put{X E st a w}(h:Rel X E st a w)(d){v u}(q:RV X.M E w v u):Rel X E (st.put d v) (a.put d u) w:=by
 cases d with
 |none=>exact h
 |some d=>
  refine{h with size:=by simp[Act.put,bx.put,h.size],tmps:= ?_,defers:=h.defers,heap:=h.heap,bu:=h.bu};intro i x k;simp only[bx.put,Gp]at k;simp only[Act.put,ZD];split at k
  .rename_i m;subst m;split at k
   .rename_i t;simp at k;subst k;exact⟨u,by simp[h.size,t],q⟩
   .cases k
  .rename_i m;obtain⟨y,z,B⟩:=h.tmps i x k;exact⟨y,by simp[m,z],B⟩
structure gO where
 ch:Hp
 bu:List Nat
def bx.dS(st:bx)(e:gO):bx:={st with heap:=e.ch++st.heap,bu:=e.bu++st.bu}
theorem Rp(n)(a b:Hp):List.lookup n (a++b)=(List.lookup n a).or (List.lookup n b):=by
 induction a with
 |nil=>simp
 |cons x a ih=>
  obtain⟨k,c⟩:=x;simp only[rb,fD];split<;>simp[ih]
theorem Rel.V3{X E E' st a w w'}(h:Rel X E st a w)(e){nx}(dM:st.next<=nx)(hG:h_ X.M E E' w w')(hg:E'.bu=e.bu++st.bu)(hF:Frame X.K X.w0 w')
 (FQ:∀n x,E'.N n=some x->n<nx)
 (NC:∀n x g,E'.N n=some x->x.g=some g->g<w'.heap.size/\(X.K g\/X.w0.heap.size<=g)/\¬X.M g)
 (aAn:∀n m x y g,E'.N n=some x->E'.N m=some y->x.g=some g->y.g=some g->n=m)
 (aAo:∀m,m<X.k0->E'.N m=none\/E'.N m=E.N m)
 (sF:∀n∈e.bu,n<nx)
 (hold:∀n,n∉E'.bu->e.ch.lookup n=none->(∀x g,E.N n=some x->x.g=some g->w'.heap[g]?=w.heap[g]?)\/∀b,st.heap.lookup n=some b->RB X.P X.M E' w' n b)
 (aAp:∀n b,e.ch.lookup n=some b->n∈E'.bu\/RB X.P X.M E' w' n b):Rel X E' {st.dS e with next:=nx} a w' where
 defers:=h.defers
 bu:=hg
 frame:=hF
 iS:=h.iS
 eJ:=FQ
 names:=NC
 inj:=aAn
 fM:=λm hm=>by
  rcases aAo m hm with h1|h1
  .exact .inl h1
  .rw[h1];exact h.fM m hm
 jh:=oU h.jh dM
 kz:=λn hn=>by
  rcases gI.1 hn with h1|h1
  .exact sF n h1
  .exact mM (h.kz n h1) dM
 size:=h.size
 tmps:=λi v hi=>let⟨u,h1,h2⟩:=h.tmps i v hi; ⟨u,h1,h2.goes hG⟩
 heap :=λn b hl=>by
  simp only[bx.dS,Rp]at hl;show n∈e.bu++st.bu\/_;rw[<-hg]
  cases hu:e.ch.lookup n with
  |some b'=>
   rw[hu]at hl;simp at hl;subst hl;exact aAp n b' hu
  |none=>
   rw[hu]at hl;by_cases hn:n∈E'.bu
   .exact .inl hn
   .rcases h.heap n b hl with h1|h1
    .exact absurd (hG.bu n (by rw[h.bu];exact h1)) hn
    .rcases hold n hn hu with h2|h2
     .exact .inr (h1.goes hG hn h2)
     .exact .inr (h2 b hl)
theorem Rel.step{X E E' st a w w'}(h:Rel X E st a w)(e){nx}(t:st.next<=nx)(F:h_ X.M E E' w w')(G:E'.bu=e.bu++st.bu)(H:Frame X.K X.w0 w')
 (u:∀n x,E'.N n=some x->n<nx)
 (z:∀n x g,E'.N n=some x->x.g=some g->g<w'.heap.size/\(X.K g\/X.w0.heap.size<=g)/\¬X.M g)
 (k:∀n m x y g,E'.N n=some x->E'.N m=some y->x.g=some g->y.g=some g->n=m)
 (d:∀m,m<X.k0->E'.N m=none\/E'.N m=E.N m)
 (B:∀n∈e.bu,n<nx)
 (hold:∀n x g,E.N n=some x->x.g=some g->n∉E'.bu->e.ch.lookup n=none->w'.heap[g]?=w.heap[g]?)
 (q:∀n b,e.ch.lookup n=some b->n∈E'.bu\/RB X.P X.M E' w' n b):Rel X E' {st.dS e with next:=nx} a w':=
 h.V3 e t F G H u z k d B (λn I J=>.inl λx g K D=>hold n x g K D I J) q
theorem XK{M E E' w w'}(hB:∀g,g<w.heap.size->w'.heap[g]?=w.heap[g]?)(hM:∀g,g<w.heap.size->bad M E' g->bad M E g)
 (hN:∀n x,E.N n=some x->n∈E'.bu\/E'.N n=some x) (hg:∀n,n∈E.bu->n∈E'.bu):h_ M E E' w w' where
 cell:=λg o u h1 h2=>by
  have hlt:=World.block_lt_of_cell? w ⟨g,o,none⟩ h1;exact⟨(World.cell?_of_block (w:=w) (a:=⟨g,o,none⟩) (hB g hlt)).trans h1,λh3=>h2 (hM g hlt h3)⟩
 name:=hN
 bu:=hg
theorem Rel.drew{X E st a w}(h:Rel X E st a w):Rel X E st a w.drew:=by
 have k:h_ X.M E E w w.drew:=XK (λ_ _=>rfl) (λ_ _ h=>h) (λ_ _ h=>.inr h) (λ_ h=>h)
 exact{h with
  frame:=⟨h.frame.os,h.frame.tape,h.frame.output,h.frame.size,h.frame.block⟩
  defers:=h.defers
  bu:=h.bu
  size:=h.size
  names:=h.names
  eJ:=h.eJ
  tmps:=λi v q=>let⟨u,d,t⟩:=h.tmps i v q; ⟨u,d,t.goes k⟩
  heap:=λn b x=>by
   rcases h.heap n b x with d|d
   .exact .inl d
   .by_cases m:n∈E.bu
    .exact .inl (by rw[<-h.bu];exact m)
    .exact .inr (d.goes k m (λ_ _ _ _=>rfl))}
def Env.add(E:Env)(d:Nat)(x:Nm):Env:={E with N:=λn=>if n=d then some x else E.N n}
theorem Rel.fresh{X E st a w w'}(h:Rel X E st a w)(d)(Q:E.N d=none)(R:X.k0<=d)(S:d<st.next)
 (J:Below w.heap.size w w') {x} (T:x.g=none\/x.g=some w.heap.size/\w.heap.size<w'.heap.size) (b) (U:h_ X.M E (E.add d x) w w'->RB X.P X.M (E.add d x) w' d b):
 h_ X.M E (E.add d x) w w'/\Rel X (E.add d x) (st.dS ⟨[(d,b)],[]⟩) a w':=by
 have B:∀n y g,E.N n=some y->y.g=some g->g<w.heap.size:=λn y g k t=>(h.names n y g k t).1
 have u:∀g,x.g=some g->g=w.heap.size/\w.heap.size<w'.heap.size:=λg t=>by
  rcases T with q|q
  .rw[q]at t;cases t
  .rw[q.1]at t;cases t;exact⟨rfl,q.2⟩
 have O:h_ X.M E (E.add d x) w w':=XK J.block (λg t P=>by
  rcases P with q| ⟨n,y,q,G⟩
  .exact .inl q
  .simp only[Env.add]at q;split at q
   .cases q;have:=u g G;omega
   .exact .inr ⟨n,y,q,G⟩) (λn y k=>by
  right;simp only[Env.add];split
  .subst n;rw[Q]at k;cases k
  .exact k) (λ_ h=>h)
 refine⟨O,h.step ⟨[(d,b)],[]⟩ (nx:=st.next) (de _) O h.bu (h.frame.trans (Frame.ER (K:=λ_=>False) J) (λ_ _ h=>h.elim)) ?_ ?_ ?_ ?_ (by simp) ?_ ?_⟩
 .intro n y k;simp only[Env.add]at k;split at k
  .omega
  .exact h.eJ n y k
 .intro n y g k t;simp only[Env.add]at k;split at k
  .cases k;obtain⟨q,G⟩:=u g t;subst q;exact⟨G,.inr h.frame.size,λW=>by have:=h.iS _ W;have:=h.frame.size;omega⟩
  .obtain⟨q,G,Y⟩:=h.names n y g k t;exact⟨by have:=J.size;omega,G,Y⟩
 .intro n m y z g k H D F;simp only[Env.add]at k H;split at k<;>split at H
  .omega
  .cases k;have:=B m z g H F;have:=u g D;omega
  .cases H;have:=B n y g k D;have:=u g F;omega
  .exact h.inj n m y z g k H D F
 .intro m P;right;simp only[Env.add];rw[bH om]
 .intro n y g k t _ _;exact J.block _ (B n y g k t)
 .intro n Z N;simp only[fD,jS]at N;split at N
  .rename_i I;simp at I;subst I;cases N;exact .inr (U O)
  .cases N
open Classical in
def iM{α:Type}(c:Prop)(x:Option α):Option α:=if c then x else none
theorem jK{α c}(h:c)(x:Option α):iM c x=x:=bA h
def bitsOf(k:eX)(r:BitVec k.bits):b9:=.int k (k.wrap r.toNat)
def jd(f:Bool)(op:BinOp):b9->b9->Option b9
 |.int k a,.int e b=>
  match op with
  |.shl=>iM (0<=b) (some (.int k (k.wrap (a*2^ (min b.toNat k.bits)))))
  |.shr=>iM (0<=b) (some (.int k (a.fdiv (2^ (min b.toNat k.bits)))))
  |.add=>if k=e then some (.int k (k.wrap (a+b)))else none
  |.sub=>if k=e then some (.int k (k.wrap (a-b)))else none
  |.mul=>if k=e then some (.int k (k.wrap (a*b)))else none
  |.quo=>iM (k=e/\b≠0) (some (.int k (k.wrap (a.tdiv b))))
  |.rem=>iM (k=e/\b≠0) (some (.int k (a.tmod b)))
  |.and=>if k=e then some (bitsOf k (BitVec.ofInt k.bits a&&&BitVec.ofInt k.bits b))else none
  |.or=>if k=e then some (bitsOf k (BitVec.ofInt k.bits a|||BitVec.ofInt k.bits b))else none
  |.xor=>if k=e then some (bitsOf k (BitVec.ofInt k.bits a^^^BitVec.ofInt k.bits b))else none
  |.andNot=>if k=e then some (bitsOf k (BitVec.ofInt k.bits a&&& ~~~ BitVec.ofInt k.bits b))else none
  |.eql=>if k=e then some (.bool (decide (a=b)))else none
  |.neq=>if k=e then some (.bool (decide (a≠b)))else none
  |.lss=>if k=e then some (.bool (decide (a<b)))else none
  |.leq=>if k=e then some (.bool (decide (a<=b)))else none
  |.gtr=>if k=e then some (.bool (decide (b<a)))else none
  |.geq=>if k=e then some (.bool (decide (b<=a)))else none
 |.string a,.string b=>
  match op with
  |.add=>iM (((a.size+b.size:Nat):Int)<=9223372036854775807) (some (.string (a++b)))
  |.eql=>some (.bool (a.toList==b.toList))
  |.neq=>some (.bool (!(a.toList==b.toList)))
  |.lss=>some (.bool (Op.bytesLess a.toList b.toList))
  |.leq=>some (.bool (Op.bytesLess a.toList b.toList||a.toList==b.toList))
  |.gtr=>some (.bool (!(Op.bytesLess a.toList b.toList||a.toList==b.toList)))
  |.geq=>some (.bool (!(Op.bytesLess a.toList b.toList)))
  |_=>none
 |.bool a,.bool b=>
  match op with
  |.eql=>if f then some (.bool (a==b))else none
  |.neq=>if f then some (.bool (!(a==b)))else none
  |_=>none
 |.complex k a b,.complex e c d=>
  match op with
  |.add=>if k=e then(cSumBits .add k a b c d).map λx=>.complex k x.1 x.2 else none
  |_=>none
 |_,_=>none
def qo(P:cC)(t:cd):Bool:=match P.underlying t with|some .bool=>true|_=>false
theorem Ys{P t}(h:qo P t=true):P.underlying t=some .bool:=by
 unfold qo at h;split at h<;>simp_all
theorem aqD(a b:Int):(a==b)=decide (a=b):=by rw[jT];simp
theorem ayo(a b:Int):(a !=b)=decide (a≠b):=by rw[jT];simp
theorem auF{a op u v r}(h:jd a op u v=some r):flat r=true:=by
 unfold jd at h;cases u<;>cases v<;>simp only[]at h<;>first| (cases h;done)| (cases op<;>simp[bitsOf,iM]at h<;>first| (obtain⟨_,rfl⟩:=h;rfl)| (subst h;rfl)| (obtain⟨_,_,_,_,rfl⟩:=h;rfl))
theorem asj{P op u v r}(t)(x y)(h:jd (qo P t) op u v=some r)(w):
 (do eqGuard op t x y u v;binOp op t u v).run P w=.ok r w:=by
 have d:(eqGuard op t x y u v).run P w=.ok () w:=by
  unfold eqGuard;unfold jd at h;cases u<;>cases v<;>simp only[]at h<;>first| (cases h;done)| (cases op<;>simp)
 simp only[Sem.run_bind,d,Result.andThen_ok];cases u<;>cases v<;>first
  |(simp[jd]at h;done)
  |(cases op<;>simp[jd,bitsOf,iM]at h<;>obtain⟨c,rfl⟩:=h<;>simp_all [binOp,Op.shift,Op.intArith,Op.intDiv,Op.intBits,Op.intCmp,aqD,ayo]<;> (try omega);done)
  |skip
 .cases op<;>simp only[jd]at h<;>first
   |(cases h;done)
   |(split at h<;>simp at h;subst h;first|exact run_eql_bool w _ _ _ (Ys (by assumption))|exact run_neq_bool w _ _ _ (Ys (by assumption)))
 .cases op<;>simp only[jd]at h<;>first
   |(cases h;done)
   |(split at h
     .rename_i e;subst e;simp only[bY]at h;obtain⟨⟨a,b⟩,c,rfl⟩:=h;exact run_complex_sum w .add (.inl rfl) t _ _ _ _ _ _ _ c
     .cases h)
 .cases op<;>simp only[jd,iM,jq]at h<;>first
   |(cases h;done)
   |(split at h<;>simp at h;subst h;exact run_string_add_sum w _ _ om)
   |(subst h;simp[binOp,Op.stringOp];done)
end
end
end Go.Proofs.YtiikkkhcolcebaaGreatDoor
