/- A part of the proof. -/
import Derived.WalkKit
import Derived.WalkSpells
import Derived.WalkLawsBesides
import Derived.Below
import Derived.IntWalk
import Derived.Laws.AppendOwn
import Derived.Laws.MakeOwn
import Derived.Laws.OwnMore
set_option linter.all false
set_option maxHeartbeats 4000000
set_option maxRecDepth 100000
namespace Go.Proofs.YtndegphojkiblaaGreatDoor
noncomputable section
abbrev ay:=@if_pos
abbrev aA:=@List.length_map
abbrev aC:=@if_neg
abbrev aT:=@Option.map_eq_some_iff
abbrev aV:=@Option.map_some
abbrev a6:=TypeId
abbrev a7:=World
abbrev bh:=Value
abbrev bt:=@Bool.and_eq_true
abbrev bB:=Program
abbrev bC:=@List.all_eq_true
abbrev bD:=Operand
abbrev bE:=@List.length_append
abbrev bJ:=@congrArg
abbrev bV:=@List.getElem?_map
abbrev bW:=@List.getElem?_eq_getElem
abbrev b8:=@List.getElem_mem
abbrev cd:=@List.append_assoc
abbrev cn:=@Nat.le_refl
abbrev cu:=@List.map_cons
abbrev cL:=@List.length_take
abbrev dj:=@decide_eq_true_eq
abbrev dk:=@List.map_append
abbrev dn:=@List.mem_of_getElem?
abbrev dr:=@List.getElem?_eq_some_iff
abbrev dG:=@of_decide_eq_true
abbrev dL:=@List.mem_cons
abbrev dZ:=IntKind
abbrev eh:=@of_decide_eq_false
abbrev eW:=@List.append_nil
abbrev fc:=@Array.getElem?_eq_some_iff
abbrev fe:=@List.mem_map
abbrev fm:=@Nat.zero_le
abbrev fo:=ByteArray
abbrev fx:=@Option.getD_some
abbrev fy:=@Nat.mul_le_mul_right
abbrev fA:=@Int.toNat_natCast
abbrev fD:=@List.take_of_length_le
abbrev fK:=@List.map_congr_left
abbrev gd:=@List.map_map
abbrev gf:=@List.pairwise_cons
abbrev gg:=@Classical.not_not
abbrev gW:=@List.lookup_cons
abbrev gX:=@List.take_succ_eq_append_getElem
abbrev im:=@List.mem_append
abbrev iq:=@List.getElem_of_mem
abbrev ir:=@List.length_cons
abbrev iu:=@Option.bind_eq_some_iff
abbrev iv:=@List.map_nil
abbrev iK:=@Bool.eq_iff_iff
abbrev iL:=@List.mem_cons_self
abbrev iM:=@List.mem_cons_of_mem
abbrev jd:=@Option.some.injEq
abbrev jt:=@List.length_drop
abbrev ju:=@List.take_length
abbrev jL:=@List.pairwise_iff_getElem
abbrev kl:=@Nat.add_mul
abbrev kS:=@Nat.add_zero
abbrev lJ:=@List.mem_range
abbrev me:=@Nat.le_trans
abbrev mf:=@List.mem_of_mem_take
abbrev mg:=@List.getElem?_append
abbrev mh:=@List.getElem?_append_right
abbrev ml:=@List.map_drop
abbrev mm:=@List.nil_append
abbrev mo:=@List.getD_eq_getElem?_getD
abbrev ni:=@List.eq_nil_of_length_eq_zero
abbrev nj:=@List.length_nil
abbrev nk:=@List.map_take
abbrev oo:=@Nat.lt_of_lt_of_le
abbrev oq:=@List.lookup_nil
abbrev ot:=@Nat.succ_mul
abbrev ou:=@Array.toList_inj
abbrev ov:=@Nat.lt_succ_self
abbrev ow:=@Classical.byContradiction
abbrev ox:=@List.length_set
abbrev pN:=@Bool.not_eq_true'
abbrev pO:=@Bool.false_eq_true
abbrev pP:=@Nat.zero_add
abbrev pQ:=@List.length_replicate
abbrev pR:=@List.drop_eq_nil_of_le
abbrev ry:=@Array.getElem?_eq_getElem
abbrev rz:=@Nat.lt_or_ge
abbrev rC:=@List.size_toArray
abbrev rD:=@Option.bind_some
abbrev rE:=@List.mapM_cons
abbrev rF:=@List.getElem?_append_left
abbrev rH:=@List.getElem?_cons_zero
abbrev rJ:=@Option.some.inj
abbrev tg:=@List.cons_append
abbrev th:=@List.mem_flatMap
abbrev ti:=@List.getElem?_take
abbrev tj:=@List.mem_filterMap
abbrev tm:=@Bool.or_eq_true
abbrev tn:=@List.mem_singleton
abbrev tp:=@Int.le_trans
abbrev tq:=@List.lt_irrefl
abbrev wg:=@Array.getD_eq_getD_getElem?
abbrev wh:=@List.mem_of_mem_drop
abbrev wi:=@List.getElem?_drop
abbrev wj:=@Nat.sub_self
abbrev wk:=@List.mem_append_right
abbrev wo:=@Nat.min_eq_left
abbrev wq:=@List.getElem?_range
abbrev wu:=@Nat.le_succ
abbrev ze:=@Option.isSome_iff_exists
abbrev zf:=@List.mem_append_left
abbrev zg:=@decide_eq_false_iff_not
abbrev zh:=@List.ext_getElem?
abbrev zi:=@Nat.mod_eq_of_lt
abbrev zj:=@List.drop_eq_getElem_cons
abbrev zk:=@List.drop_zero
abbrev zl:=@Nat.lt_succ_of_lt
abbrev zm:=@List.getElem?_set_ne
abbrev zn:=@List.foldl_append
abbrev zo:=@Nat.not_lt_zero
abbrev CQ:=@Nat.add_assoc
abbrev CR:=@List.getElem?_toArray
abbrev CS:=@Array.size_append
abbrev CT:=@List.foldl_cons
abbrev CU:=@Array.getElem?_append
abbrev CV:=@List.contains_eq_mem
abbrev CW:=@List.length_singleton
abbrev CX:=@List.getElem?_eq_none
abbrev HY:=@Option.map_map
abbrev HZ:=@Nat.lt_trichotomy
abbrev H0:=@List.getElem?_cons_succ
abbrev H2:=@Int.toNat_zero
abbrev H3:=@List.mem_filter
abbrev H4:=@List.Perm.refl
abbrev H5:=@List.getElem?_set_self
abbrev H6:=@List.range_succ
abbrev H7:=@BitVec.toNat_ofInt
abbrev H8:=@Bool.eq_false_iff
abbrev H9:=@Nat.xor_lt_two_pow
abbrev H_:=@Nat.pow_le_pow_right
abbrev Ia:=@List.filter_sublist
abbrev Ib:=@List.getElem_set_ne
abbrev Ic:=@List.lt_trans
abbrev Ph:=@List.getElem?_set
abbrev Pj:=@Array.eq_empty_of_size_eq_zero
abbrev Pk:=@List.exists_cons_of_ne_nil
abbrev Pm:=@Array.length_toList
abbrev Pn:=@Nat.mul_comm
abbrev Po:=@Nat.mul_one
abbrev Pp:=@List.mem_replicate
abbrev Pq:=@List.all_cons
abbrev Pr:=@List.findIdx?_cons
abbrev Ps:=@Array.getElem?_modify
abbrev Pt:=@Nat.ne_of_gt
abbrev Pu:=@Nat.mul_pos
abbrev Pv:=@List.any_eq_true
abbrev Pw:=@List.getElem?_replicate
abbrev Px:=@List.not_mem_nil
abbrev Py:=@Option.map_none
abbrev Pz:=@Nat.mul_le_mul
abbrev PA:=@Int.fdiv_eq_ediv_of_nonneg
abbrev PB:=@List.find?_cons
abbrev PC:=@List.find?_eq_none
abbrev PD:=@Array.replicate_succ
abbrev PE:=@Array.replicate_zero
abbrev PF:=@List.push_toArray
abbrev PG:=@List.append_toArray
abbrev PH:=@Nat.add_sub_cancel
abbrev PI:=@List.ext_getElem
abbrev PJ:=@BitVec.toNat_and
abbrev PK:=@List.length_filter_le
abbrev PL:=@List.getElem_append_right
abbrev PM:=@List.getElem_append_left
abbrev PN:=@List.getElem_map
abbrev PO:=@List.getElem_replicate
abbrev abA:=@Array.getElem?_setIfInBounds
abbrev abB:=@Array.getElem?_toList
abbrev abC:=@List.take_append_drop
abbrev abD:=@List.zipIdx_cons
abbrev abE:=@Array.toList_map
abbrev abF:=@Array.mem_of_getElem?
abbrev abG:=@Int.toNat_of_nonneg
abbrev abH:=@Nat.mul_add_mod
abbrev abI:=@Nat.min_le_left
abbrev abJ:=@Nat.le_add_right
abbrev abK:=@List.find?_some
abbrev abL:=@List.mem_of_find?_eq_some
abbrev abM:=@List.take_succ_cons
abbrev abN:=@Option.ite_none_right_eq_some
abbrev abO:=@Nat.eq_of_beq_eq_true
abbrev abP:=@List.isEmpty_iff
abbrev abQ:=@List.map_replicate
abbrev abR:=@Int.cast_ofNat_Int
abbrev abS:=@Nat.shiftLeft_eq
abbrev abT:=@Int.tdiv_eq_ediv_of_nonneg
abbrev abU:=@Int.tmod_eq_emod_of_nonneg
abbrev abV:=@List.getElem_take
abbrev abW:=@List.flatMap_append
abbrev abX:=@List.pairwise_append
abbrev abY:=@List.filter_append
abbrev abZ:=@List.filter_cons_of_pos
abbrev aca:=@List.filter_cons_of_neg
abbrev acb:=@List.filter_nil
abbrev acd:=@List.mem_reverse
abbrev ace:=@Bool.eq_false_or_eq_true
abbrev acf:=@List.getElem_range
section
open Go.RowKit
theorem om {P:Prop} (h:P:=by omega):P:=h
theorem dc {P:Prop} (h:P:=by decide):P:=h
theorem kr {P:Prop} (h:P:=by kernel_rfl):P:=h
inductive PV where
 |sc (v:bh)
 |sl (rows:List (List PV))
deriving Inhabited
def flat:bh→Bool
 | .bool _| .int _ _| .float _ _| .complex _ _ _| .string _| .pointer none| .map none| .nilFunc| .nilIface=>true
 |_=>false
abbrev eS:=Nat→Prop
def eI (n:Nat) (rows:List (List PV)):Prop:=∀r∈rows,r.length=n
inductive RP (M:eS) (w:a7):PV→bh→Prop
 |sc {v:bh} (h:flat v=true):RP M w (.sc v) v
 |nil {A:Option Addr} {cap:Nat}:RP M w (.sl []) (.slice A 0 cap)
 |row {rows:List (List PV)} {g o cap sz:Nat} {f:Nat→Nat→bh} (h0:rows≠ []) (hl:rows.length≤cap) (hm:cap≤maxLen)
  (hs:∀r∈rows,r.length=sz)
  (hc:∀(i:Nat) (r:List PV) (j:Nat) (p:PV),rows[i]? =some r→r[j]? =some p→w.cell? ⟨g,o+i*sz+j,none⟩=some (f i j)∧¬M g)
  (hp:∀(i:Nat) (r:List PV) (j:Nat) (p:PV),rows[i]? =some r→r[j]? =some p→RP M w p (f i j)):
  RP M w (.sl rows) (.slice (some ⟨g,o,none⟩) rows.length cap)
theorem avZ {v} (h:flat v=true):v.oneCell'=true:=by cases v<;>simp_all [flat,Value.oneCell']
theorem RP.ux {M} {w} {p} {v} (h:RP M w p v):v.oneCell'=true:=by
 cases h with
 |sc h=>exact avZ h
 |nil=>rfl
 |row=>rfl
def h_ (M M':eS) (w w':a7):Prop:=∀g o u,w.cell? ⟨g,o,none⟩=some u→¬M g→w'.cell? ⟨g,o,none⟩=some u∧¬M' g
theorem RP.trans {M M'} {w w'} {p} {v} (h:RP M w p v) (hk:h_ M M' w w'):RP M' w' p v:=by
 induction h with
 |sc h=>exact .sc h
 |nil=>exact .nil
 |row h0 hl hm hs hc hp ih=>exact .row h0 hl hm hs (fun i r j p hi hj=>hk _ _ _ (hc i r j p hi hj).1 (hc i r j p hi hj).2) (fun i r j p hi hj=>ih i r j p hi hj)
theorem RP.dy {M} {w} {u v} (h:RP M w (.sc u) v):v=u:=by cases h;rfl
def Rows (M:eS) (w:a7) (rows:List (List PV)) (v:bh):Prop:=
 (rows=[]∧∃A cap,v= .slice A 0 cap)∨∃(g o cap sz:Nat) (f:Nat→Nat→bh),v= .slice (some ⟨g,o,none⟩) rows.length cap∧rows≠ []∧rows.length≤cap∧cap≤maxLen∧eI sz rows∧
  ∀(i:Nat) (r:List PV) (j:Nat) (p:PV),rows[i]? =some r→r[j]? =some p→w.cell? ⟨g,o+i*sz+j,none⟩=some (f i j)∧RP M w p (f i j)
theorem RP.rows {M} {w} {rows} {v} (h:RP M w (.sl rows) v):Rows M w rows v:=by
 cases h with
 |nil=>exact .inl ⟨rfl,_,_,rfl⟩
 |row h0 hl hm hs hc hp=>exact .inr ⟨_,_,_,_,_,rfl,h0,hl,hm,hs,fun i r j p hi hj=> ⟨(hc i r j p hi hj).1,hp i r j p hi hj⟩⟩
inductive C where
 |p (p:PV)
 |nil
 |own (n:Nat)
 |sub (n lo len:Nat)
 |ptr (n off:Nat)
 |cE (n i j:Nat)
 |ref (cells:List PV)
 |fn (f:FuncId) (cN:List Nat)
 |mp (n:Nat)
 |dead
deriving Inhabited
inductive V1 where
 |c (c:C)
 |agg (cs:List C)
deriving Inhabited
inductive V where
 |v (x:V1)
 |aj (xs:List V1)
deriving Inhabited
inductive dI where
 |box (cs:List C)
 |row (e:a6) (rows:List (List PV))
 |map (es:List (List PV))
deriving Inhabited
abbrev Hp:=List (Nat×dI)
structure Nm where
 g:Option Nat
 len:Nat
 cap:Nat
 sz:Nat
structure Env where
 N:Nat→Option Nm
 ar:List Nat
def bad (M:eS) (E:Env):eS:=fun g=>M g∨∃n x,E.N n=some x∧x.g=some g
def bO (E:Env) (n:Nat) (Q:Nm→Prop):Prop:=n∈E.ar∨∃x,E.N n=some x∧Q x
def RC (M:eS) (E:Env) (w:a7):C→bh→Prop
 | .p p,v=>RP (bad M E) w p v
 | .nil,v=>v= .slice none 0 0
 | .own n,v=>bO E n fun x=>v= .slice (x.g.map fun g=> ⟨g,0,none⟩) x.len x.cap
 | .sub n lo len,v=>bO E n fun x=>lo+len≤x.len∧∃A,v= .slice A len (x.cap-lo)∧(x.cap≠lo∨lo=0→A=x.g.map fun g=> ⟨g,lo*x.sz,none⟩)
 | .ptr n off,v=>bO E n fun x=>∃g,x.g=some g∧v= .pointer (some ⟨g,off,none⟩)
 | .cE n i j,v=>bO E n fun x=>i<x.len∧∃g,x.g=some g∧v= .pointer (some ⟨g,i*x.sz+j,none⟩)
 | .ref cells,v=>∃g o,v= .pointer (some ⟨g,o,none⟩)∧∀(j:Nat) (p:PV),cells[j]? =some p→∃u,w.cell? ⟨g,o+j,none⟩=some u∧¬bad M E g∧RP (bad M E) w p u
 | .fn f cN,v=>∃us:Array bh,v= .func (.func f) #[] us∧us.size=cN.length∧∀(i n:Nat),cN[i]? =some n→∃u,us[i]? =some u∧bO E n fun x=>∃g,x.g=some g∧u= .pointer (some ⟨g,0,none⟩)
 | .mp n,v=>bO E n fun x=>∃g,x.g=some g∧v= .map (some g)
 | .dead,_=>True
def db (M:eS) (E:Env) (w:a7):V1→bh→Prop
 | .c c,v=>RC M E w c v
 | .agg cs,v=>∃us:Array bh,v= .agg us∧us.size=cs.length∧∀(i:Nat) (c:C),cs[i]? =some c→∃u,us[i]? =some u∧RC M E w c u∧u.oneCell'=true
def RV (M:eS) (E:Env) (w:a7):V→bh→Prop
 | .v x,v=>db M E w x v
 | .aj xs,v=>∃us:Array bh,v= .tuple us∧us.size=xs.length∧∀(i:Nat) (x:V1),xs[i]? =some x→∃u,us[i]? =some u∧db M E w x u
def mI (n:Nat) (fz:Nat×Nat):Prop:=fz=(0,0)∨n≤fz.1
def mL (B:eS) (w:a7) (m:MapEntry):List PV→Prop
 | .sc (.int .u64 z)::ps=>m.key= .int .u64 z∧∃us,m.val= .agg us∧us.size=ps.length∧∀(j:Nat) (p:PV),ps[j]? =some p→∃u,us[j]? =some u∧RP B w p u∧u.oneCell'=true
 |_=>False
def gY (B:eS) (w:a7):List MapEntry→List (List PV)→Prop
 |[],[]=>True
 |m::en,r::es=>mL B w m r∧gY B w en es
 |_,_=>False
theorem mL.trans {B B' w w' m} (hk:h_ B B' w w'):∀{r},mL B w m r→mL B' w' m r
 | .sc (.int .u64 _)::_,⟨h1,us,h2,h3,h4⟩=> ⟨h1,us,h2,h3,fun j p hj=>let⟨u,k1,k2,k3⟩:=h4 j p hj; ⟨u,k1,k2.trans hk,k3⟩⟩
theorem gY.trans {B B' w w'}:∀{en es},gY B w en es→h_ B B' w w'→gY B' w' en es
 |[],[],_,_=>trivial
 |_::_,_::_,⟨h1,h2⟩,hk=> ⟨h1.trans hk,h2.trans hk⟩
def RB (P:bB) (M:eS) (E:Env) (w:a7) (n:Nat):dI→Prop
 | .box cs=>∃x g cur e,E.N n=some x∧x.g=some g∧w.heap[g]? =some (.cells cur e (0,0))∧cur.size=cs.length∧
  ∀(i:Nat) (c:C),cs[i]? =some c→∃u,cur[i]? =some u∧RC M E w c u∧u.oneCell'=true
 | .row e rows=>∃x cur fz,E.N n=some x∧mI cur.size fz∧(∀g,x.g=some g→w.heap[g]? =some (.cells cur e fz))∧x.len=rows.length∧x.len≤x.cap∧x.cap≤maxLen∧0<x.sz∧x.sz=P.cellsOf e∧cur.size=x.cap*x.sz∧eI x.sz rows∧(x.g=none→x.cap=0)∧
  ∀(i:Nat) (r:List PV) (j:Nat) (p:PV),rows[i]? =some r→r[j]? =some p→∃u,cur[i*x.sz+j]? =some u∧RP (bad M E) w p u
 | .map es=>∃x g en clock,E.N n=some x∧x.g=some g∧w.heap[g]? =some (.map en clock)∧gY (bad M E) w en.toList es
structure gx (M:eS) (E E':Env) (w w':a7):Prop where
 cell:h_ (bad M E) (bad M E') w w'
 name:∀n x,E.N n=some x→n∈E'.ar∨E'.N n=some x
 ar:∀n,n∈E.ar→n∈E'.ar
section
variable {M:eS} {E E':Env} {w w':a7}
theorem RP.goes (hG:gx M E E' w w') {p} {v} (h:RP (bad M E) w p v):RP (bad M E') w' p v:=h.trans hG.cell
theorem bO.goes (hG:gx M E E' w w') {n} {Q} (h:bO E n Q):bO E' n Q:=by
 rcases h with h| ⟨x,h1,h2⟩
 · exact .inl (hG.ar n h)
 · rcases hG.name n x h1 with h3|h3
   · exact .inl h3
   · exact .inr ⟨x,h3,h2⟩
theorem RC.goes (hG:gx M E E' w w') {c} {v} (h:RC M E w c v):RC M E' w' c v:=by
 cases c with
 |p p=>exact RP.goes hG h
 |nil=>exact h
 |own n=>exact bO.goes hG h
 |sub n lo len=>exact bO.goes hG h
 |ptr n off=>exact bO.goes hG h
 |cE n i j=>exact bO.goes hG h
 |ref cells=>
  obtain⟨g,o,h1,h2⟩:=h;refine⟨g,o,h1,fun j p hj=> ?_⟩;obtain⟨u,h3,h4,h5⟩:=h2 j p hj;exact⟨u,(hG.cell _ _ _ h3 h4).1,(hG.cell _ _ _ h3 h4).2,RP.goes hG h5⟩
 |fn f cN=>
  obtain⟨us,h1,h2,h3⟩:=h;exact⟨us,h1,h2,fun i n hi=>let⟨u,h4,h5⟩:=h3 i n hi; ⟨u,h4,h5.goes hG⟩⟩
 |mp n=>exact bO.goes hG h
 |dead=>trivial
theorem db.goes (hG:gx M E E' w w') {x} {v} (h:db M E w x v):db M E' w' x v:=by
 cases x with
 |c c=>exact RC.goes hG h
 |agg cs=>
  obtain⟨us,h1,h2,h3⟩:=h;exact⟨us,h1,h2,fun i c hi=>let⟨u,h4,h5,h6⟩:=h3 i c hi; ⟨u,h4,h5.goes hG,h6⟩⟩
theorem RV.goes (hG:gx M E E' w w') {x} {v} (h:RV M E w x v):RV M E' w' x v:=by
 cases x with
 |v x=>exact db.goes hG h
 |aj xs=>
  obtain⟨us,h1,h2,h3⟩:=h;exact⟨us,h1,h2,fun i c hi=>let⟨u,h4,h5⟩:=h3 i c hi; ⟨u,h4,h5.goes hG⟩⟩
theorem RB.goes {P} (hG:gx M E E' w w') {n} (hn:n∉E'.ar) (hb:∀x g,E.N n=some x→x.g=some g→w'.heap[g]? =w.heap[g]?) {b} (h:RB P M E w n b):RB P M E' w' n b:=by
 have hN:∀x,E.N n=some x→E'.N n=some x:=fun x hx=> (hG.name n x hx).resolve_left hn
 cases b with
 |box cs=>
  obtain⟨x,g,cur,e,h1,h0,h2,h3,h4⟩:=h;exact⟨x,g,cur,e,hN x h1,h0,(hb x g h1 h0).trans h2,h3,fun i c hi=>let⟨u,h5,h6,h7⟩:=h4 i c hi; ⟨u,h5,h6.goes hG,h7⟩⟩
 |row e rows=>
  obtain⟨x,cur,fz,h1,bX,h2,h3,h4,h5,h6,h11,h7,h8,h10,h9⟩:=h;exact⟨x,cur,fz,hN x h1,bX,fun g hg=> (hb x g h1 hg).trans (h2 g hg),h3,h4,h5,h6,h11,h7,h8,h10,fun i r j p hi hj=>let⟨u,k1,k2⟩:=h9 i r j p hi hj; ⟨u,k1,k2.goes hG⟩⟩
 |map es=>
  obtain⟨x,g,en,clock,h1,h0,h2,h3⟩:=h;exact⟨x,g,en,clock,hN x h1,h0,(hb x g h1 h0).trans h2,h3.trans hG.cell⟩
end
structure Frame (K:eS) (w w':a7):Prop where
 os:w'.os=w.os
 tape:w'.tape=w.tape
 output:w'.output=w.output
 size:w.heap.size≤w'.heap.size
 block:∀g,g<w.heap.size→¬K g→w'.heap[g]? =w.heap[g]?
theorem Frame.refl (K) (w):Frame K w w:=⟨rfl,rfl,rfl,cn _,fun _ _ _=>rfl⟩
theorem Frame.trans {K K'} {a b c} (h:Frame K a b) (k:Frame K' b c) (hK:∀g,g<a.heap.size→K' g→K g):Frame K a c:=
 ⟨k.os.trans h.os,k.tape.trans h.tape,k.output.trans h.output,me h.size k.size,fun g hg hn=>
  (k.block g (oo hg h.size) fun hk=>hn (hK g hg hk)).trans (h.block g hg hn)⟩
theorem Frame.Gr {K} {w w'} (h:Below w.heap.size w w'):Frame K w w':=⟨h.os,h.tape,h.output,h.size,fun g hg _=>h.block g hg⟩
structure av where
 tmps:List V
 heap:Hp
 ar:List Nat
 next:Nat
structure Fx where
 P:bB
 M:eS
 K:eS
 w0:a7
 N0:Nat→Option Nm
 k0:Nat
 D:List Deferred
structure Rel (X:Fx) (E:Env) (st:av) (a:Act) (w:a7):Prop where
 defers:a.defers=X.D
 ar:E.ar=st.ar
 frame:Frame X.K X.w0 w
 eB:∀g,X.M g→g<X.w0.heap.size
 cO:∀n x,E.N n=some x→n<st.next
 names:∀n x g,E.N n=some x→x.g=some g→g<w.heap.size∧(X.K g∨X.w0.heap.size≤g)∧¬X.M g
 inj:∀n m x y g,E.N n=some x→E.N m=some y→x.g=some g→y.g=some g→n=m
 dz:∀m,m<X.k0→E.N m=none∨E.N m=X.N0 m
 fq:X.k0≤st.next
 fg:∀n∈st.ar,n<st.next
 size:a.tmps.size=st.tmps.length
 tmps:∀(i:Nat) (v:V),st.tmps[i]? =some v→∃u,a.tmps[i]? =some u∧RV X.M E w v u
 heap:∀n b,st.heap.lookup n=some b→n∈st.ar∨RB X.P X.M E w n b
def av.put (st:av) (d:Option Nat) (v:V):av:=
 match d with
 |some d=> {st with tmps:=st.tmps.set d v}
 |none=>st
theorem Rel.put {X} {E} {st} {a} {w} (h:Rel X E st a w) (d) {v} {u} (hv:RV X.M E w v u):Rel X E (st.put d v) (a.put d u) w:=by
 cases d with
 |none=>exact h
 |some d=>
  refine{h with size:=by simp[Act.put,av.put,h.size],tmps:= ?_,defers:=h.defers,heap:=h.heap,ar:=h.ar};intro i x hi;simp only[av.put,Ph]at hi;simp only[Act.put,abA];split at hi
  · rename_i vF;subst vF;split at hi
    · rename_i hl;simp at hi;subst hi;exact⟨u,by simp[h.size,hl],hv⟩
    · cases hi
  · rename_i vF;obtain⟨u',h1,h2⟩:=h.tmps i x hi;exact⟨u',by simp[vF,h1],h2⟩
structure g_ where
 cj:Hp
 ar:List Nat
def av.df (st:av) (e:g_):av:={st with heap:=e.cj++st.heap,ar:=e.ar++st.ar}
theorem SY (n) (a b:Hp):List.lookup n (a++b)=(List.lookup n a).or (List.lookup n b):=by
 induction a with
 |nil=>simp
 |cons x a ih=>
  obtain⟨k,c⟩:=x;simp only[tg,gW];split<;>simp[ih]
theorem Rel.step {X} {E E'} {st} {a} {w w'} (h:Rel X E st a w) (e) {nx} (c9:st.next≤nx) (hG:gx X.M E E' w w') (hg:E'.ar=e.ar++st.ar) (hF:Frame X.K X.w0 w')
  (gC:∀n x,E'.N n=some x→n<nx)
  (kb:∀n x g,E'.N n=some x→x.g=some g→g<w'.heap.size∧(X.K g∨X.w0.heap.size≤g)∧¬X.M g)
  (aBf:∀n m x y g,E'.N n=some x→E'.N m=some y→x.g=some g→y.g=some g→n=m)
  (vG:∀m,m<X.k0→E'.N m=none∨E'.N m=E.N m)
  (l_:∀n∈e.ar,n<nx)
  (hold:∀n x g,E.N n=some x→x.g=some g→n∉E'.ar→e.cj.lookup n=none→w'.heap[g]? =w.heap[g]?)
  (ic:∀n b,e.cj.lookup n=some b→n∈E'.ar∨RB X.P X.M E' w' n b):Rel X E' {st.df e with next:=nx} a w' where
 defers:=h.defers
 ar:=hg
 frame:=hF
 eB:=h.eB
 cO:=gC
 names:=kb
 inj:=aBf
 dz:=fun m hm=>by
  rcases vG m hm with h1|h1
  · exact .inl h1
  · rw[h1];exact h.dz m hm
 fq:=me h.fq c9
 fg:=fun n hn=>by
  rcases im.1 hn with h1|h1
  · exact l_ n h1
  · exact oo (h.fg n h1) c9
 size:=h.size
 tmps:=fun i v hi=>let⟨u,h1,h2⟩:=h.tmps i v hi; ⟨u,h1,h2.goes hG⟩
 heap :=fun n b hl=>by
  simp only[av.df,SY]at hl;show n∈e.ar++st.ar∨_;rw[←hg]
  cases hu:e.cj.lookup n with
  | some b'=>
    rw[hu]at hl;simp at hl;subst hl;exact ic n b' hu
  | none=>
    rw[hu]at hl;by_cases hn:n∈E'.ar
    · exact .inl hn
    · rcases h.heap n b hl with h1|h1
      · exact absurd (hG.ar n (by rw[h.ar];exact h1)) hn
      · exact .inr (h1.goes hG hn (fun x g hx hg=>hold n x g hx hg hn hu))
theorem Y2 {M} {E E'} {w w'} (hB:∀g,g<w.heap.size→w'.heap[g]? =w.heap[g]?) (hM:∀g,g<w.heap.size→bad M E' g→bad M E g)
  (hN:∀n x,E.N n=some x→n∈E'.ar∨E'.N n=some x) (hg:∀n,n∈E.ar→n∈E'.ar):gx M E E' w w' where
 cell:=fun g o u h1 h2=>by
  have hlt:=World.block_lt_of_cell? w ⟨g,o,none⟩ h1;exact⟨(World.cell?_of_block (w:=w) (a:=⟨g,o,none⟩) (hB g hlt)).trans h1,fun h3=>h2 (hM g hlt h3)⟩
 name:=hN
 ar:=hg
theorem Rel.drew {X} {E} {st} {a} {w} (h:Rel X E st a w):Rel X E st a w.drew:=by
 have hG:gx X.M E E w w.drew:=Y2 (fun _ _=>rfl) (fun _ _ h=>h) (fun _ _ h=> .inr h) (fun _ h=>h)
 exact{h with
  frame:=⟨h.frame.os,h.frame.tape,h.frame.output,h.frame.size,h.frame.block⟩
  defers:=h.defers
  ar:=h.ar
  size:=h.size
  names:=h.names
  cO:=h.cO
  tmps:=fun i v hi=>let⟨u,h1,h2⟩:=h.tmps i v hi; ⟨u,h1,h2.goes hG⟩
  heap:=fun n b hl=>by
   rcases h.heap n b hl with h1|h1
   · exact .inl h1
   · by_cases hn:n∈E.ar
     · exact .inl (by rw[←h.ar];exact hn)
     · exact .inr (h1.goes hG hn (fun _ _ _ _=>rfl))}
def Env.add (E:Env) (d:Nat) (x:Nm):Env:={E with N:=fun n=>if n=d then some x else E.N n}
theorem Rel.fresh {X} {E} {st} {a} {w w'} (h:Rel X E st a w) (d) (hd:E.N d=none) (fv:X.k0≤d) (ec:d<st.next)
   (hB:Below w.heap.size w w') {x} (hx:x.g=none∨x.g=some w.heap.size∧w.heap.size<w'.heap.size) (b) (hb:gx X.M E (E.add d x) w w'→RB X.P X.M (E.add d x) w' d b):
   gx X.M E (E.add d x) w w'∧Rel X (E.add d x) (st.df ⟨[(d,b)],[]⟩) a w':=by
 have hlt:∀n y g,E.N n=some y→y.g=some g→g<w.heap.size:=fun n y g hy hg=> (h.names n y g hy hg).1
 have ig:∀g,x.g=some g→g=w.heap.size∧w.heap.size<w'.heap.size:=fun g hg=>by
   rcases hx with h1|h1
   · rw[h1]at hg;cases hg
   · rw[h1.1]at hg;cases hg;exact⟨rfl,h1.2⟩
 have hG:gx X.M E (E.add d x) w w':=Y2 hB.block (fun g hg hm=>by
     rcases hm with h1| ⟨n,y,h1,h2⟩
     · exact .inl h1
     · simp only[Env.add]at h1;split at h1
       · cases h1;have:=ig g h2;omega
       · exact .inr ⟨n,y,h1,h2⟩) (fun n y hy=>by
     right;simp only[Env.add];split
     · subst n;rw[hd]at hy;cases hy
     · exact hy) (fun _ h=>h)
 refine⟨hG,h.step ⟨[(d,b)],[]⟩ (nx:=st.next) (cn _) hG h.ar (h.frame.trans (Frame.Gr (K:=fun _=>False) hB) (fun _ _ h=>h.elim)) ?_ ?_ ?_ ?_ (by simp) ?_ ?_⟩
 · intro n y hy;simp only[Env.add]at hy;split at hy
   · omega
   · exact h.cO n y hy
 · intro n y g hy hg;simp only[Env.add]at hy;split at hy
   · cases hy;obtain⟨h1,h2⟩:=ig g hg;subst h1;exact⟨h2,.inr h.frame.size,fun hM=>by have:=h.eB _ hM;have:=h.frame.size;omega⟩
   · obtain⟨h1,h2,h3⟩:=h.names n y g hy hg;exact⟨by have:=hB.size;omega,h2,h3⟩
 · intro n m y z g hy hz Cj N4;simp only[Env.add]at hy hz;split at hy<;>split at hz
   · omega
   · cases hy;have:=hlt m z g hz N4;have:=ig g Cj;omega
   · cases hz;have:=hlt n y g hy Cj;have:=ig g N4;omega
   · exact h.inj n m y z g hy hz Cj N4
 · intro m hm;right;simp only[Env.add];rw[aC om]
 · intro n y g hy hg _ _;exact hB.block _ (hlt n y g hy hg)
 · intro n b' hl;simp only[gW,oq]at hl;split at hl
   · rename_i heq;simp at heq;subst heq;cases hl;exact .inr (hb hG)
   · cases hl
open Classical in
noncomputable def ib {α:Type} (c:Prop) (x:Option α):Option α:=if c then x else none
theorem jv {α} {c} (h:c) (x:Option α):ib c x=x:=ay h
def bitsOf (k:dZ) (r:BitVec k.bits):bh:= .int k (k.wrap r.toNat)
noncomputable def jN (tb:Bool) (op:BinOp):bh→bh→Option bh
 | .int k a,.int k' b=>
  match op with
  | .shl=>ib (0≤b) (some (.int k (k.wrap (a*2^ (min b.toNat k.bits)))))
  | .shr=>ib (0≤b) (some (.int k (a.fdiv (2^ (min b.toNat k.bits)))))
  | .add=>if k=k' then some (.int k (k.wrap (a+b)))else none
  | .sub=>if k=k' then some (.int k (k.wrap (a-b)))else none
  | .mul=>if k=k' then some (.int k (k.wrap (a*b)))else none
  | .quo=>ib (k=k'∧b≠0) (some (.int k (k.wrap (a.tdiv b))))
  | .rem=>ib (k=k'∧b≠0) (some (.int k (a.tmod b)))
  | .and=>if k=k' then some (bitsOf k (BitVec.ofInt k.bits a&&&BitVec.ofInt k.bits b))else none
  | .or=>if k=k' then some (bitsOf k (BitVec.ofInt k.bits a|||BitVec.ofInt k.bits b))else none
  | .xor=>if k=k' then some (bitsOf k (BitVec.ofInt k.bits a^^^BitVec.ofInt k.bits b))else none
  | .andNot=>if k=k' then some (bitsOf k (BitVec.ofInt k.bits a&&& ~~~ BitVec.ofInt k.bits b))else none
  | .eql=>if k=k' then some (.bool (decide (a=b)))else none
  | .neq=>if k=k' then some (.bool (decide (a≠b)))else none
  | .lss=>if k=k' then some (.bool (decide (a<b)))else none
  | .leq=>if k=k' then some (.bool (decide (a≤b)))else none
  | .gtr=>if k=k' then some (.bool (decide (b<a)))else none
  | .geq=>if k=k' then some (.bool (decide (b≤a)))else none
 | .string a,.string b=>
  match op with
  | .add=>ib (((a.size+b.size:Nat):Int)≤9223372036854775807) (some (.string (a++b)))
  | .eql=>some (.bool (a.toList==b.toList))
  | .neq=>some (.bool (!(a.toList==b.toList)))
  | .lss=>some (.bool (Op.bytesLess a.toList b.toList))
  | .leq=>some (.bool (Op.bytesLess a.toList b.toList||a.toList==b.toList))
  | .gtr=>some (.bool (!(Op.bytesLess a.toList b.toList||a.toList==b.toList)))
  | .geq=>some (.bool (!(Op.bytesLess a.toList b.toList)))
  |_=>none
 | .bool a,.bool b=>
  match op with
  | .eql=>if tb then some (.bool (a==b))else none
  | .neq=>if tb then some (.bool (!(a==b)))else none
  |_=>none
 |_,_=>none
def qe (P:bB) (t:a6):Bool:=match P.underlying t with|some .bool=>true|_=>false
theorem ZN {P} {t} (h:qe P t=true):P.underlying t=some .bool:=by
 unfold qe at h;split at h<;>simp_all
theorem asa (a b:Int):(a==b)=decide (a=b):=by rw[iK];simp
theorem azr (a b:Int):(a !=b)=decide (a≠b):=by rw[iK];simp
theorem avR {tb} {op} {u v r} (h:jN tb op u v=some r):flat r=true:=by
 unfold jN at h;cases u<;>cases v<;>simp only[]at h<;>first| (cases h;done)| (cases op<;>simp[bitsOf,ib]at h<;>first| (obtain⟨_,rfl⟩:=h;rfl)| (subst h;rfl))
theorem aty {P} {op} {u v r} (t) (x y) (h:jN (qe P t) op u v=some r) (w):
   (do eqGuard op t x y u v;binOp op t u v).run P w= .ok r w:=by
 have hg:(eqGuard op t x y u v).run P w= .ok () w:=by
   unfold eqGuard;unfold jN at h;cases u<;>cases v<;>simp only[]at h<;>first| (cases h;done)| (cases op<;>simp)
 simp only[Sem.run_bind,hg,Result.andThen_ok];cases u<;>cases v<;>first
   | (simp[jN]at h;done)
   | (cases op<;>simp[jN,bitsOf,ib]at h<;>obtain⟨h1,rfl⟩:=h<;>simp_all [binOp,Op.shift,Op.intArith,Op.intDiv,Op.intBits,Op.intCmp,asa,azr]<;> (try omega);done)
   |skip
 · cases op<;>simp only[jN]at h<;>first
    | (cases h;done)
    | (split at h<;>simp at h;subst h;first|exact run_eql_bool w _ _ _ (ZN (by assumption))|exact run_neq_bool w _ _ _ (ZN (by assumption)))
 · cases op<;>simp only[jN,ib,jd]at h<;>first
    | (cases h;done)
    | (split at h<;>simp at h;subst h;exact run_string_add_sum w _ _ om)
    | (subst h;simp[binOp,Op.stringOp];done)
end
section
open Go.RowKit
open Classical
def lb:bh→C
 | .slice none 0 0=> .nil
 |v=>if flat v then .p (.sc v)else .dead
def ofValue:bh→V1
 | .agg us=>if us.toList.all (·.oneCell')then .agg (us.toList.map lb)else .c .dead
 | .func (.func f) first captured=>if first.size=0∧captured.size=0 then .c (.fn f [])else .c .dead
 |v=> .c (lb v)
section
variable (M:eS) (E:Env) (w:a7)
theorem NG (v):RC M E w (lb v) v:=by
 unfold lb;split
 · rfl
 · split
   · exact .sc (by assumption)
   · trivial
theorem awA (v):db M E w (ofValue v) v:=by
 unfold ofValue;split
 · split
   · rename_i us hall;refine⟨us,rfl,by simp,fun i c hi=> ?_⟩;simp only[bV,aT,abB]at hi;obtain⟨u,h1,rfl⟩:=hi;grind[NG,Array.mem_of_getElem]
   · trivial
 · split
   · rename_i f first captured hc
     have h1:first= #[]:=Pj hc.1
     exact⟨captured,by rw[h1],hc.2,fun i n hi=>by simp at hi⟩
   · trivial
 · exact NG M E w v
end
def C.names:C→List Nat
 | .own n=> [n]| .sub n _ _=> [n]| .ptr n _=> [n]| .cE n _ _=> [n]| .mp n=> [n]| .fn _ cN=>cN|_=> []
def V1.names:V1→List Nat
 | .c x=>x.names
 | .agg xs=>xs.flatMap C.names
def V.names:V→List Nat
 | .v x=>x.names
 | .aj xs=>xs.flatMap V1.names
def C.nw:C→Bool
 | .dead=>true
 |_=>false
def V.nw:V→Bool
 | .v (.c c)=>c.nw
 |_=>false
def V.live (ar:List Nat) (v:V):Bool:= !v.nw&&v.names.all fun n=> !ar.contains n
def av.arg (st:av):bD→Option V
 | .tmp t=>match st.tmps[t]? with
  |some x=>if x.live st.ar then some x else none
  |none=>none
 | .const v=>if(V.v (ofValue v)).live st.ar then some (.v (ofValue v))else none
 | .func f=>some (.v (.c (.fn f [])))
 | .global _=>none
theorem Rel.arg {X} {E} {st} {a} {w} (h:Rel X E st a w) {x} {v} (hx:st.arg x=some v):RV X.M E w v (a.eval x)∧v.live st.ar=true:=by
 cases x with
 |tmp t=>
  simp only[av.arg]at hx;split at hx
  · rename_i y hy;split at hx
    · simp at hx;subst hx;obtain⟨u,h1,h2⟩:=h.tmps t y hy;refine⟨?_,by assumption⟩;simp only[Act.eval,wg,h1,fx];exact h2
    · cases hx
  · cases hx
 |const v'=>
  simp only[av.arg]at hx;split at hx
  · simp at hx;subst hx;exact⟨awA X.M E w v',by assumption⟩
  · cases hx
 |global g=>cases hx
 |func f=>
  simp only[av.arg,jd]at hx;subst hx;exact⟨⟨#[],by simp[Act.eval],rfl,fun i n hi=>by simp at hi⟩,by rfl⟩
theorem NS {ar} {c} (h:(V.v (.c c)).live ar=true):c.nw=false∧∀n∈c.names,n∉ar:=by
 simp only[V.live,bt,pN,bC,V.nw]at h;exact⟨h.1,fun n hn hg=>by have:=h.2 n hn;simp[hg]at this⟩
theorem ayw {ar} {cs} (h:(V.v (.agg cs)).live ar=true):∀c∈cs,∀n∈c.names,n∉ar:=by
 simp only[V.live,bt,pN,bC]at h;exact fun c hc n hn hg=>by have:=h.2 n (th.2 ⟨c,hc,hn⟩);simp[hg]at this
theorem bO.get {E} {n} {Q} (h:bO E n Q) (hn:n∉E.ar):∃x,E.N n=some x∧Q x:=h.resolve_left hn
theorem RC.ux {M} {E} {w} {c} {v} (h:RC M E w c v) (hd:c.nw=false) (hn:∀n∈c.names,n∉E.ar):v.oneCell'=true:=by
 cases c with
 |p q=>exact RP.ux h
 |nil=>cases h;rfl
 |own n=>obtain⟨x,_,rfl⟩:=bO.get h (hn n (by simp[C.names]));rfl
 |sub n lo len=>
  obtain⟨x,_,_,A,rfl,_⟩:=bO.get h (hn n (by simp[C.names]));rfl
 |ptr n off=>obtain⟨x,_,g,_,rfl⟩:=bO.get h (hn n (by simp[C.names]));rfl
 |cE n i j=>obtain⟨x,_,_,g,_,rfl⟩:=bO.get h (hn n (by simp[C.names]));rfl
 |ref cells=>obtain⟨g,o,rfl,_⟩:=h;rfl
 |fn f cN=>obtain⟨us,rfl,_⟩:=h;rfl
 |mp n=>obtain⟨x,_,g,_,rfl⟩:=bO.get h (hn n (by simp[C.names]));rfl
 |dead=>cases hd
def V1.cells:V1→List C
 | .c x=> [x]
 | .agg xs=>xs
theorem ahx {v:bh} (h:v.oneCell'=true):v.cells= #[v]:=by cases v<;>simp_all [Value.cells,Value.oneCell']
theorem db.cells {M} {E} {w} {x} {v} (h:db M E w x v) (hl:(V.v x).live E.ar=true):
  v.cells.size=x.cells.length∧∀(i:Nat) (c),x.cells[i]? =some c→∃u,v.cells[i]? =some u∧RC M E w c u∧u.oneCell'=true:=by
 cases x with
 |c c=>
  obtain⟨h2,h3⟩:=NS hl;have h1:=RC.ux h h2 h3;rw[ahx h1];refine⟨rfl,fun i c' hi=> ?_⟩
  cases i with
  |zero=>simp[V1.cells]at hi;subst hi;exact⟨v,rfl,h,h1⟩
  |succ i=>simp[V1.cells]at hi
 |agg cs=>
  obtain⟨us,rfl,h2,h3⟩:=h;exact⟨h2,h3⟩
def av.view (st:av):C→Option (List (List PV))
 | .p (.sl rows)=>some rows
 | .nil=>some []
 | .own n=>match st.heap.lookup n with
  |some (.row _ rows)=>some rows
  |_=>none
 | .sub n lo len=>match st.heap.lookup n with
  |some (.row _ rows)=>some ((rows.drop lo).take len)
  |_=>none
 |_=>none
theorem Rel.row {X} {E} {st} {a} {w} (h:Rel X E st a w) {n} (hn:n∉st.ar) {b} (hl:st.heap.lookup n=some b):RB X.P X.M E w n b:=(h.heap n b hl).resolve_left hn
theorem Mv {M} {w} {g o cap sz} {cur} {e} {fz} {rows} (hg:w.heap[g]? =some (.cells cur e fz)) (hl:rows.length≤cap) (hm:cap≤maxLen) (hR:eI sz rows)
   (hc:∀(i) (r) (j) (p),rows[i]? =some r→r[j]? =some p→∃u,cur[o+i*sz+j]? =some u∧RP M w p u):Rows M w rows (.slice (some ⟨g,o,none⟩) rows.length cap):=by
 by_cases h0:rows=[]
 · subst h0;exact .inl ⟨rfl,_,_,rfl⟩
 · refine .inr ⟨g,o,cap,sz,fun i j=> (cur[o+i*sz+j]?).getD undef,rfl,h0,hl,hm,hR,fun i r j p hi hj=> ?_⟩;obtain⟨u,h1,h2⟩:=hc i r j p hi hj;simp only[cell_of_row w g _ cur e fz hg,h1,fx];simp_all
theorem Rel.view {X} {E} {st} {a} {w} (h:Rel X E st a w) {c} {v} {rows} (hc:RC X.M E w c v) (hn:∀n∈c.names,n∉st.ar) (hv:st.view c=some rows):
  Rows (bad X.M E) w rows v:=by
 cases c with
 |p q=>
  cases q with
  |sc u=>simp[av.view]at hv
  |sl rs=>simp[av.view]at hv;subst hv;exact RP.rows hc
 |nil=>simp[av.view]at hv;subst hv;cases hc;exact .inl ⟨rfl,_,_,rfl⟩
 |own n=>
  have cQ:=hn n (by simp[C.names]);simp only[av.view]at hv;split at hv
  · rename_i e rs hl;simp at hv;subst hv;obtain⟨x,cur,fz,h1,bX,h2,h3,h4,h5,h6,_,h7,h8,h10,h9⟩:=h.row cQ hl;obtain⟨y,k1,rfl⟩:=bO.get hc (by rw[h.ar];exact cQ);rw[h1]at k1;cases k1
    cases hg:x.g with
    | none=>
      have:=h10 hg;have h0:x.len=0:=om;rw[h0];exact .inl ⟨ni om,_,_,rfl⟩
    | some g=>
      rw[h3];exact Mv (h2 g hg) om h5 h8 (fun i r j p hi hj=>by simp_all)
  · cases hv
 |sub n lo len=>
  have cQ:=hn n (by simp[C.names]);simp only[av.view]at hv;split at hv
  · rename_i e rs hl;simp at hv;subst hv;obtain⟨x,cur,fz,h1,bX,h2,h3,h4,h5,h6,_,h7,h8,h10,h9⟩:=h.row cQ hl;obtain⟨y,k1,k2,A,rfl,k4⟩:=bO.get hc (by rw[h.ar];exact cQ);rw[h1]at k1;cases k1;have hlen:((rs.drop lo).take len).length=len:=by simp;omega
    by_cases h0:len=0
    · subst h0;exact .inl ⟨by simp,_,_,rfl⟩
    · cases hg:x.g with
      |none=>simp_all
      |some g=>
      rw[k4 (.inl om),hg]
      conv=>rhs;rw[←hlen]
      refine Mv (h2 g hg) om om (fun r hr=>h8 r (wh (mf hr))) (fun i r j p hi hj=> ?_);grind
  · cases hv
 |ptr=>cases hv
 |cE=>cases hv
 |ref=>cases hv
 |fn=>cases hv
 |mp=>cases hv
 |dead=>cases hv
def da (P:bB) (t:a6):Nat:=P.cellsOf t
def nz (P:bB) (t:a6):Bool:=match P.underlying t with|some (.struct _)|some (.array _ _)=>true|_=>false
def BG (P:bB) (t:a6) (f:Nat):Option Nat:=
 match P.underlying t with
 | some (.struct fs)=>match fs[f]? with
  |some fd=>match P.info? fd.type with
   |some i=>if i.size=0 then none else some fd.offset
   |none=>none
  |none=>none
 |_=>none
def eO (P:bB) (t:a6):Option a6:=match P.underlying t with|some (.slice e)=>if(P.info? e).isSome then some e else none|_=>none
def kT (P:bB) (t:a6):Option (Nat×a6):=match P.underlying t with|some (.array n e)=>if(P.info? e).isSome then some (n,e)else none|_=>none
def Gx (P:bB) (t:a6):Option dZ:=match P.underlying t with|some (.int k)=>some k|_=>none
def pz (P:bB) (t:a6):Option (List C):=match P.info? t with
 |some i=>match i.zero with
  |some z=>if z.cells.toList.all (·.oneCell')then some (z.cells.toList.map lb)else none
  |none=>none
 |none=>none
def A7 (P:bB) (t:a6):Bool:=(P.underlying t).isSome
def mH (P:bB) (t:a6):Bool:=(P.info? t).isSome
def kO (P:bB) (t:a6) (cs:List C):Option V:=
 if nz P t then(if da P t≤cs.length∧mH P t=true then some (.v (.agg (cs.take (da P t))))else none)
 else match A7 P t,cs with
  |true,c::_=>some (.v (.c c))
  |_,_=>none
theorem EY {P} {t} (w) {d} (h:P.underlying t=some d):(isAgg t).run P w= .ok (nz P t) w:=by
 unfold isAgg nz;rw[h];simp only[Sem.run_bind,run_underlying h,Result.andThen_ok];cases d<;>rfl
theorem run_sizeOf {P} {t} (w) (h:(P.info? t).isSome=true):(sizeOf t).run P w= .ok (da P t) w:=by
 obtain⟨i,hi⟩:=ze.1 h;simp[sizeOf,typeInfo,hi,da,Program.cellsOf]
theorem nV (g o k):(⟨g,o,none⟩:Addr).add k=⟨g,o+k,none⟩:=by unfold Addr.add;simp_all
theorem WY {P} {t} (h:nz P t=true):∃d,P.underlying t=some d:=by
 unfold nz at h;grind
theorem agL {P} {M} {E} {w} {t} {off} {cs:List C} {us} {v} (hr:kO P t (cs.drop off)=some v) (hs:us.size=cs.length)
   (hc:∀(i:Nat) (c),cs[i]? =some c→∃u,us[i]? =some u∧RC M E w c u∧u.oneCell'=true):
   ∃u,(part t us off).run P w= .ok u w∧RV M E w v u:=by
 unfold kO at hr;split at hr
 · rename_i hagg;split at hr
   · rename_i hsz;cases hr;obtain⟨d,hd⟩:=WY hagg;refine⟨.agg (us.extract off (off+da P t)),?_,_,rfl,?_,?_⟩
     · unfold part;simp only[Sem.run_bind,EY w hd,hagg,Result.andThen_ok,if_true,run_sizeOf w hsz.2,Sem.run_pure]
     · grind
     grind
   · cases hr
 · split at hr
   · rename_i c l hd hcs;cases hr;obtain⟨d,hd⟩:=ze.1 hd;have h0:cs[off]? =some c:=by
       have:(cs.drop off)[0]? =some c:=by rw[hcs];rfl
       simpa using this
     obtain⟨u,h1,h2,_⟩:=hc off c h0;refine⟨u,?_,h2⟩;unfold part;simp_all[nz,EY,pO]
   · cases hr
theorem Dq {P} {M} {E} {w} {t} {g o} {cs} {v} (hr:kO P t cs=some v)
   (hc:∀(j) (c),cs[j]? =some c→∃u,w.cell? ⟨g,o+j,none⟩=some u∧RC M E w c u∧u.oneCell'=true):
   ∃u,(loadVar t ⟨g,o,none⟩).run P w= .ok u w∧RV M E w v u:=by
 unfold kO at hr;split at hr
 · rename_i hagg;split at hr
   · rename_i hsz;simp at hr;subst hr;obtain⟨d,hd⟩:=WY hagg;have hex:∀j,j<da P t→∃u,w.cell? ⟨g,o+j,none⟩=some u∧∀c,cs[j]? =some c→RC M E w c u∧u.oneCell'=true:=by
       intro j hj;obtain⟨u,h1,h2,h3⟩:=hc j _ (bW (oo hj hsz.1));grind
     have hrun:=run_loadCells (P:=P) w ⟨g,o,none⟩ (da P t) (fun j=> (w.cell? ⟨g,o+j,none⟩).getD undef) (fun j hj=>by
       grind[nV])
     refine⟨.agg ((List.range (da P t)).map fun j=> (w.cell? ⟨g,o+j,none⟩).getD undef).toArray,?_,_,rfl,?_,?_⟩
     · unfold loadVar;simp only[Sem.run_bind,EY w hd,hagg,Result.andThen_ok,if_true,run_sizeOf w hsz.2,hrun,Sem.run_pure]
     · simp;omega
     grind
   · cases hr
 · split at hr
   · rename_i c l hd;simp at hr;subst hr;obtain⟨d,hd⟩:=ze.1 hd;obtain⟨u,h1,h2,_⟩:=hc 0 c rfl;refine⟨u,?_,h2⟩;unfold loadVar;simp_all[nz,EY,pO]
   · cases hr
abbrev V.sc (v:bh):V:= .v (.c (.p (.sc v)))
abbrev V.c (c:C):V:= .v (.c c)
noncomputable def qA (P:bB) (st:av) (t:a6) (x:bD):Option V:=
 match st.arg x with
 |some (.v (.c (.ptr n off)))=>match st.heap.lookup n with
  |some (.box cs)=>kO P t (cs.drop off)
  |_=>none
 | some (.v (.c (.cE n i j)))=>match st.heap.lookup n with
  |some (.row _ rows)=>match rows[i]? with
   |some r=>kO P t ((r.drop j).map .p)
   |none=>none
  |_=>none
 |some (.v (.c (.ref cells)))=>kO P t (cells.map .p)
 |_=>none
section
variable {X:Fx} {E:Env} {st:av} {a:Act} {w:a7}
theorem Rel.bR (h:Rel X E st a w) {x} {c} (hx:st.arg x=some (.v (.c c))):RC X.M E w c (a.eval x)∧c.nw=false∧∀n∈c.names,n∉st.ar:=⟨(h.arg hx).1,NS (h.arg hx).2⟩
theorem Rel.gL (h:Rel X E st a w) {x} {c} (hx:st.arg x=some (.v (.c c))) {n} (hn:n∈c.names):n∉E.ar:=by rw[h.ar];exact(h.bR hx).2.2 n hn
theorem aAi (h:Rel X E st a w) {t} {x} {v}
   (he:qA X.P st t x=some v):∃u,(Instr.loadAt t (a.eval x)).run X.P w= .ok u w∧RV X.M E w v u:=by
 unfold qA at he;split at he
 · rename_i n off hx;have hn:=h.gL hx (n:=n) (by simp[C.names]);obtain⟨y,h1,g,hg,h2⟩:=bO.get (h.bR hx).1 hn;split at he
   · rename_i cs hl;obtain⟨x',g',cur,e,h3,Ck,h4,h5,h6⟩:=h.row (by rw[←h.ar];exact hn) hl;rw[h1]at h3;cases h3;rw[hg]at Ck;cases Ck;obtain⟨u,h8,h9⟩:=Dq (P:=X.P) (M:=X.M) (E:=E) (w:=w) (g:=g) (o:=off) he (fun j c hj=>by
       rw[wi]at hj;obtain⟨u,k1,k2,k3⟩:=h6 _ c hj;exact⟨u,by rw[cell_of_row w g _ cur e (0,0) h4];exact k1,k2,k3⟩)
     refine⟨u,?_,h9⟩;rw[h2];simpa[Instr.loadAt,Instr.sureAddr]using h8
   · cases he
 · rename_i n i j hx;have hn:=h.gL hx (n:=n) (by simp[C.names]);obtain⟨y,h1,hi,g,hg,h2⟩:=bO.get (h.bR hx).1 hn;split at he
   · rename_i e rows hl;obtain⟨x',cur,fz,h3,bX,h4,_,_,_,_,_,_,_,_,h6⟩:=h.row (by rw[←h.ar];exact hn) hl;rw[h1]at h3;cases h3;split at he
     · rename_i r hr;obtain⟨u,h8,h9⟩:=Dq (P:=X.P) (M:=X.M) (E:=E) (w:=w) (g:=g) (o:=i*y.sz+j) he (fun k c hj=>by
        simp only[bV,aT,wi]at hj;obtain⟨p,hp,rfl⟩:=hj;obtain⟨u,k1,k2⟩:=h6 i r (j+k) p hr hp;exact⟨u,by rw[cell_of_row w g _ cur e fz (h4 g hg),CQ];exact k1,k2,k2.ux⟩)
       refine⟨u,?_,h9⟩;rw[h2];simpa[Instr.loadAt,Instr.sureAddr]using h8
     · cases he
   · cases he
 · rename_i cells hx;obtain⟨⟨g,o,h1,h2⟩,_⟩:=h.bR hx;obtain⟨u,h8,h9⟩:=Dq (P:=X.P) (M:=X.M) (E:=E) (w:=w) (g:=g) (o:=o) he (fun j c hj=>by
     simp only[bV,aT]at hj;obtain⟨p,hp,rfl⟩:=hj;obtain⟨u,k1,k2,k3⟩:=h2 j p hp;exact⟨u,k1,k3,k3.ux⟩)
   refine⟨u,?_,h9⟩;rw[h1];simpa[Instr.loadAt,Instr.sureAddr]using h8
 · cases he
noncomputable def p6 (P:bB) (st:av) (t:a6) (x:bD) (f:Nat):Option V:=
 match st.arg x,BG P t f with
 |some (.v (.c (.ptr n off))),some k=>some (.c (.ptr n (off+k)))
 |some (.v (.c (.cE n i j))),some k=>some (.c (.cE n i (j+k)))
 |some (.v (.c (.ref cells))),some k=>some (.c (.ref (cells.drop k)))
 |_,_=>none
theorem LD {P} {t} {f k} (h:BG P t f=some k) (g o) (w):
   (Instr.fieldAt t (.pointer (some ⟨g,o,none⟩)) f).run P w= .ok (.pointer (some ⟨g,o+k,none⟩)) w:=by
 unfold BG at h;split at h
 · rename_i fs hu;split at h
   · rename_i fd hf;split at h
     · rename_i i hi;split at h
       · cases h
       · rename_i hsz;simp at h;subst h;simp[Instr.fieldAt,run_underlying hu,hf,Instr.sureAddr,fieldPlace,sizeOf,typeInfo,hi,hsz,nV]
     · cases h
   · cases h
 · cases h
theorem RC.Vt {M} {cells:List PV} {g o} (h:∀(j) (p),cells[j]? =some p→∃u,w.cell? ⟨g,o+j,none⟩=some u∧¬bad M E g∧RP (bad M E) w p u) (k):
  RC M E w (.ref (cells.drop k)) (.pointer (some ⟨g,o+k,none⟩)):=
 ⟨g,o+k,rfl,fun j p hj=>by grind⟩
theorem atx (h:Rel X E st a w) {t} {x} {f} {v}
   (he:p6 X.P st t x f=some v):∃u,(Instr.fieldAt t (a.eval x) f).run X.P w= .ok u w∧RV X.M E w v u:=by
 unfold p6 at he;split at he
 · rename_i n off k hx hk;obtain⟨y,h1,g,hg,h2⟩:=bO.get (h.bR hx).1 (h.gL hx (n:=n) (by simp[C.names]));simp at he;subst he;exact⟨_,by simp_all[LD],.inr ⟨y,h1,g,hg,rfl⟩⟩
 · rename_i n i j k hx hk;obtain⟨y,h1,h2,g,hg,h3⟩:=bO.get (h.bR hx).1 (h.gL hx (n:=n) (by simp[C.names]));simp at he;subst he;exact⟨_,by rw[h3];exact LD hk g _ w,.inr ⟨y,h1,h2,g,hg,by simp_all⟩⟩
 · rename_i cells k hx hk;obtain⟨⟨g,o,h1,h2⟩,_⟩:=h.bR hx;simp at he;subst he;exact⟨_,by simp_all[LD],RC.Vt h2 k⟩
 · cases he
theorem Gq {P} {t} {n} {e} (h:kT P t=some (n,e)):P.underlying t=some (.array n e)∧(P.info? e).isSome=true:=by
 unfold kT at h;grind
theorem pq {P} {t e} (h:eO P t=some e):P.underlying t=some (.slice e)∧(P.info? e).isSome=true:=by
 grind[eO]
theorem Je {P} {t} {n} {e} (h:kT P t=some (n,e)) (g o) (k) {i:Int} (hi:0≤i∧i<n) (w):
  (Instr.indexAt t (.pointer (some ⟨g,o,none⟩)) (.int k i)).run P w= .ok (.pointer (some ⟨g,o+i.toNat*da P e,none⟩)) w:=by
 obtain⟨h1,h2⟩:=Gq h;simp[Instr.indexAt,run_underlying h1,asIntOf,Instr.sureAddr,hi,run_sizeOf w h2,nV]
theorem M_ {P} {t e} (h:eO P t=some e) (g o n cap:Nat) (k) {i:Int} (hi:0≤i∧i<n) (w):
  (Instr.indexAt t (.slice (some ⟨g,o,none⟩) n cap) (.int k i)).run P w= .ok (.pointer (some ⟨g,o+i.toNat*da P e,none⟩)) w:=by
 obtain⟨h1,h2⟩:=pq h;simp[Instr.indexAt,run_underlying h1,asIntOf,hi,run_sizeOf w h2,nV]
def av.elem (st:av) (size i:Nat):C→Option C
 | .own n=>match st.heap.lookup n with
  |some (.row _ rows)=>match rows[i]? with
   |some r=>if r.length=size then some (.cE n i 0)else none
   |none=>none
  |_=>none
 | .sub n lo len=>match st.heap.lookup n with
  |some (.row _ rows)=>match rows[lo+i]? with
   |some r=>if r.length=size∧i<len then some (.cE n (lo+i) 0)else none
   |none=>none
  |_=>none
 | .p (.sl rows)=>match rows[i]? with
  |some r=>if r.length=size then some (.ref r)else none
  |none=>none
 |_=>none
noncomputable def mJ (P:bB) (st:av) (t:a6) (x i:bD):Option V:=
 match st.arg i with
 | some (.v (.c (.p (.sc (.int _ i)))))=>match st.arg x with
  |some (.v (.c (.ptr n off)))=>match kT P t with
   |some (m,e)=>ib (0≤i∧i<m) (some (.c (.ptr n (off+i.toNat*da P e))))
   |none=>none
  |some (.v (.c (.cE n r j)))=>match kT P t with
   |some (m,e)=>ib (0≤i∧i<m) (some (.c (.cE n r (j+i.toNat*da P e))))
   |none=>none
  |some (.v (.c (.ref cells)))=>match kT P t with
   |some (m,e)=>ib (0≤i∧i<m) (some (.c (.ref (cells.drop (i.toNat*da P e)))))
   |none=>none
  |some (.v (.c c))=>match eO P t with
   |some e=>ib (0≤i) ((st.elem (da P e) i.toNat c).map V.c)
   |none=>none
  |_=>none
 |_=>none
theorem aqA (h:Rel X E st a w) {t} {x i} {v}
   (he:mJ X.P st t x i=some v):∃u,(Instr.indexAt t (a.eval x) (a.eval i)).run X.P w= .ok u w∧RV X.M E w v u:=by
 unfold mJ ib at he;split at he
 · rename_i k i' hi;have h3:=RP.dy (h.bR hi).1;split at he
   · rename_i n off hx;obtain⟨y,h1,g,hg,h2⟩:=bO.get (h.bR hx).1 (h.gL hx (n:=n) (by simp[C.names]));split at he
     · rename_i m e ht;split at he
       · simp at he;subst he;exact⟨_,by grind[Je],.inr ⟨y,h1,g,hg,rfl⟩⟩
       · cases he
     · cases he
   · rename_i n r j hx;obtain⟨y,h1,h4,g,hg,h2⟩:=bO.get (h.bR hx).1 (h.gL hx (n:=n) (by simp[C.names]));split at he
     · rename_i m e ht;split at he
       · simp at he;subst he;exact⟨_,by rw[h2,h3];exact Je ht g _ k (by assumption) w,.inr ⟨y,h1,h4,g,hg,by simp_all⟩⟩
       · cases he
     · cases he
   · rename_i cells hx;obtain⟨⟨g,o,h1,h2⟩,_⟩:=h.bR hx;split at he
     · rename_i m e ht;split at he
       · simp at he;subst he;exact⟨_,by grind[Je],RC.Vt h2 _⟩
       · cases he
     · cases he
   · rename_i c _ _ _ hx;have hc:=(h.bR hx).1;split at he
     · rename_i e ht;split at he
       · simp only[aT]at he;obtain⟨c',he,rfl⟩:=he
         cases c with
         | own n =>
           simp only[av.elem]at he;have hn:=h.gL hx (n:=n) (by simp[C.names]);obtain⟨y,h1,h2⟩:=bO.get hc hn;split at he
           · rename_i e' rows hl;obtain⟨x',cur,fz,k3,bX,k4,k5,k6,k7,k8,_,k9,i_,ly,_⟩:=h.row (by rw[←h.ar];exact hn) hl;rw[h1]at k3;cases k3;split at he
             · rename_i r hr;split at he
               · rename_i gP;simp at he;subst he;have hlt:=(dr.1 hr).1;have hsz:y.sz=da X.P e:=by rw[←gP];exact(i_ r (dn hr)).symm
                 cases hg:y.g with
                 |none=>simp_all
                 |some g=>
                  rw[hg]at h2;refine⟨_,by rw[h2,h3];exact M_ ht g 0 y.len y.cap k om w,.inr ⟨y,h1,om,g,hg,by rw[hsz];simp⟩⟩
               · cases he
             · cases he
           · cases he
         | sub n lo len=>
           simp only[av.elem]at he;have hn:=h.gL hx (n:=n) (by simp[C.names]);obtain⟨y,h1,h2,A,h4,h5⟩:=bO.get hc hn;split at he
           · rename_i e' rows hl;obtain⟨x',cur,fz,k3,bX,k4,k5,k6,k7,k8,_,k9,i_,ly,_⟩:=h.row (by rw[←h.ar];exact hn) hl;rw[h1]at k3;cases k3;split at he
             · rename_i r hr;split at he
               · rename_i gP;simp at he;subst he;have hsz:y.sz=da X.P e:=by rw[←gP.1];exact(i_ r (dn hr)).symm
                 have jB:y.cap≠lo:=om
                 cases hg:y.g with
                 |none=>simp_all
                 |some g=>
                 rw[h5 (.inl jB),hg]at h4;refine⟨_,by rw[h4,h3];exact M_ ht g (lo*y.sz) len (y.cap-lo) k om w,.inr ⟨y,h1,om,g,hg,by grind⟩⟩
               · cases he
             · cases he
           · cases he
         | p q =>
          cases q with
          |sc=>cases he
          | sl rows=>
           simp only[av.elem]at he;split at he
           · rename_i r hr;split at he
             · rename_i gP;simp at he;subst he;have hlt:=(dr.1 hr).1;generalize a.eval x=u at hc
               cases hc with
               |nil=>simp at hr
               | @row _ g o cap sz f Z9 hl hm hs hcc vH=>
                 have hsz:sz=da X.P e:=by grind
                 refine⟨_,by rw[h3];exact M_ ht g o _ cap k om w,g,_,rfl,fun j p hj=> ?_⟩;grind
             · cases he
           · cases he
         |_=>cases he
       · cases he
     · cases he
   · cases he
 · cases he
end
theorem ZS {P} (isSlice) (len cap:Nat) (lo hi) {l h:Int} (cg:lo=none∧l=0∨∃k,lo=some (.int k l)) (gD:hi=none∧h=len∨∃k,hi=some (.int k h))
   (h0:0≤l) (h1:l≤h) (h2:h≤cap) (w):(Instr.sliceBounds isSlice len cap lo hi none).run P w= .ok (l.toNat,h.toNat,cap) w:=by
 have e1:∀(k:dZ) (y:Nat) (c:BoundsCode) (i:Int),0≤i→i≤y→(Instr.sliceBound (.int k i) y c).run P w= .ok i.toNat w:=by
   intro k y c i hi0 eR;simp[Instr.sliceBound,asIntOf,hi0,eR]
 rcases cg with⟨rfl,rfl⟩| ⟨k,rfl⟩<;>rcases gD with⟨rfl,rfl⟩| ⟨k',rfl⟩
 · rfl
 · simp[Instr.sliceBounds,e1 k' cap _ h om h2]
 · simp[Instr.sliceBounds,e1 k len _ l h0 h1]
 · simp[Instr.sliceBounds,e1 k' cap _ h om h2,e1 k h.toNat _ l h0 om]
noncomputable def av.part (st:av) (size l h:Nat):C→Option C
 | .own n=>match st.heap.lookup n with
  |some (.row _ rows)=>if h≤rows.length∧(∀r,rows[0]? =some r→r.length=size)then some (.sub n l (h-l))else none
  |_=>none
 | .sub n lo len=>match st.heap.lookup n with
  |some (.row _ rows)=>if h≤len∧(∀r,rows[0]? =some r→r.length=size)then some (.sub n (lo+l) (h-l))else none
  |_=>none
 | .p (.sl rows)=>if h≤rows.length∧eI size rows then some (.p (.sl ((rows.take h).drop l)))else none
 | .nil=>if h=0 then some .nil else none
 |_=>none
def av.num (st:av) (o:Option bD) (d:Int):Option Int:=match o with
 |none=>some d
 |some o=>match st.arg o with
  |some (.v (.c (.p (.sc (.int _ i)))))=>some i
  |_=>none
def av.mY (st:av):C→Option Nat
 | .sub _ _ len=>some len
 |c=> (st.view c).map (·.length)
noncomputable def lj (P:bB) (st:av) (t:a6) (x:bD) (lo hi:Option bD):Option V:=
 match st.arg x with
 |some (.v (.c (.p (.sc (.string s)))))=>match st.num lo 0,st.num hi s.size,P.underlying t with
  |some l,some h,some .string=>ib (0≤l∧l≤h∧h≤s.size) (some (.sc (.string (s.extract l.toNat h.toNat))))
  |_,_,_=>none
 | some (.v (.c c))=>match st.mY c,eO P t with
  |some n,some e=>match st.num lo 0,st.num hi n with
   |some l,some h=>ib (0≤l∧l≤h) ((st.part (da P e) l.toNat h.toNat c).map V.c)
   |_,_=>none
  |_,_=>none
 |_=>none
theorem RP.slice {M} {w} {rows} {A} {n cap size} (hr:RP M w (.sl rows) (.slice A n cap)) (hR:eI size rows) {l h} (h1:l≤h) (h2:h≤rows.length):
   RP M w (.sl ((rows.take h).drop l)) (.slice (if cap=l then A else A.map (·.add (l*size))) (h-l) (cap-l)):=by
 by_cases N5:l=h
 · subst N5;have:(rows.take l).drop l=[]:=by simp
   rw[this,wj];exact .nil
 · cases hr with
   |nil=>simp at h2;omega
   | @row _ g o cap sz f h0 hl hm hs hcc vH=>
    have hlen:((rows.take h).drop l).length=h-l:=by simp;omega
    have hsz:∀r∈rows,sz=size:=fun r hr=>by rw[←hs r hr];exact hR r hr
    have hne:cap≠l:=om;rw[aC hne,←hlen];simp only[aV,nV];have hg:∀(i:Nat) (r:List PV),((rows.take h).drop l)[i]? =some r→rows[l+i]? =some r:=by
      grind
    have dh:∀(i:Nat) (r:List PV) (j:Nat),((rows.take h).drop l)[i]? =some r→o+l*size+i*sz+j=o+(l+i)*sz+j:=by
      intro i r j hi;have:=hsz r (dn (hg i r hi));grind
    refine RP.row (sz:=sz) (f:=fun i j=>f (l+i) j) (by grind) om om (fun r hr=>hs r (mf (wh hr))) ?_ ?_
    · grind
    simp_all
section
variable {X:Fx} {E:Env} {st:av} {a:Act} {w:a7}
theorem zF (h:Rel X E st a w) {o} {d l} (he:st.num o d=some l):o.map a.eval=none∧l=d∨∃k,o.map a.eval=some (.int k l):=by
 cases o with
 |none=>simp_all[av.num]
 |some o=>
  simp only[av.num]at he;split at he
  · rename_i k i hx;simp at he;subst he;exact .inr ⟨k,by simp[RP.dy (h.bR hx).1]⟩
  · cases he
theorem arn (h:Rel X E st a w) {t} {x} {lo hi} {v}
   (he:lj X.P st t x lo hi=some v):∃u,(Instr.sliceAt t (a.eval x) (lo.map a.eval) (hi.map a.eval) none).run X.P w= .ok u w∧RV X.M E w v u:=by
 unfold lj ib at he;split at he
 · rename_i s hx;have h3:=RP.dy (h.bR hx).1;split at he
   · rename_i l hh cg gD hu;split at he
     · rename_i hb;simp at he;subst he;have h4:=ZS (P:=X.P) false s.size s.size (lo.map a.eval) (hi.map a.eval) (zF h cg) (zF h gD) hb.1 hb.2.1 hb.2.2 w;refine⟨_,?_,.sc rfl⟩;rw[h3];simp[Instr.sliceAt,Instr.slice,run_underlying hu,h4]
     · cases he
   · cases he
 · rename_i c _ hx;have hc:=(h.bR hx).1;split at he
   · rename_i n e hp ht;obtain⟨hu,kP⟩:=pq ht;split at he
     · rename_i l hh cg gD;split at he
       · rename_i hb;simp only[aT]at he;obtain⟨c',he,rfl⟩:=he;have key:∀(A:Option Addr) (m cap:Nat),a.eval x= .slice A m cap→(hi=none→(m:Int)=n)→hh≤cap→
             (Instr.sliceAt t (a.eval x) (lo.map a.eval) (hi.map a.eval) none).run X.P w= .ok (.slice (if cap=l.toNat then A else A.map (·.add (l.toNat*da X.P e))) (hh.toNat-l.toNat) (cap-l.toNat)) w:=by
           intro A m cap hx' hm jB;have h4:=ZS (P:=X.P) true m cap (lo.map a.eval) (hi.map a.eval) (zF h cg) (by
             rcases zF h gD with⟨k1,k2⟩|k1
             · simp_all
             · exact .inr k1) hb.1 hb.2 jB w
           rw[hx'];simp[Instr.sliceAt,Instr.slice,run_underlying hu,h4,run_sizeOf w kP,da]
         cases c with
         | own nn =>
           simp only[av.part]at he;have hn:=h.gL hx (n:=nn) (by simp[C.names]);obtain⟨y,k1,k2⟩:=bO.get hc hn;split at he
           · rename_i e' rows hl;obtain⟨x',cur,fz,k3,bX,k4,k5,k6,k7,k8,_,k9,i_,ly,_⟩:=h.row (by rw[←h.ar];exact hn) hl;rw[k1]at k3;cases k3;split at he
             · rename_i kc;simp at he;subst he;have gC:n=rows.length:=by simp_all[av.mY,av.view]
               refine⟨_,key _ _ _ k2 (fun _=>by omega) om,.inr ⟨y,k1,om,_,rfl,fun jB=> ?_⟩⟩;by_cases hc0:y.cap=l.toNat
               · grind
               · rw [aC hc0];have hsz:l.toNat*da X.P e=l.toNat*y.sz:=by
                  by_cases N6:rows=[]
                  · grind
                  · obtain⟨r,rs,rfl⟩:=Pk N6;rw[←kc.2 r rfl,i_ r (by simp)]
                 cases y.g<;>simp[nV,hsz]
             · cases he
           · cases he
         | sub nn l0 len=>
           simp only[av.part]at he;have hn:=h.gL hx (n:=nn) (by simp[C.names]);obtain⟨y,k1,k13,A,k2,k12⟩:=bO.get hc hn;split at he
           · rename_i e' rows hl;obtain⟨x',cur,fz,k3,bX,k4,k5,k6,k7,k8,_,k9,i_,ly,_⟩:=h.row (by rw[←h.ar];exact hn) hl;rw[k1]at k3;cases k3;split at he
             · rename_i kc;simp at he;subst he;have gC:n=len:=by simp_all[av.mY]
               refine⟨_,key _ _ _ k2 (fun _=>by omega) om,.inr ⟨y,k1,om,_,by rw[Nat.sub_sub],fun jB=> ?_⟩⟩;have hA:=k12 om;subst hA;by_cases hc0:y.cap-l0=l.toNat
               · have hl0:l0=0∧l.toNat=0:=om;grind
               · rw [aC hc0];have hsz:l.toNat*da X.P e=l.toNat*y.sz:=by
                  by_cases N6:rows=[]
                  · grind
                  · obtain⟨r,rs,rfl⟩:=Pk N6;rw[←kc.2 r rfl,i_ r (by simp)]
                 cases y.g<;>simp[nV,hsz,kl]
             · cases he
           · cases he
         | p q =>
          cases q with
          |sc=>cases he
          | sl rows=>
           simp only[av.part]at he;split at he
           · rename_i kc;simp at he;subst he;have gC:n=rows.length:=by simp_all[av.mY,av.view]
             have hx2:∃A cap,a.eval x= .slice A rows.length cap∧rows.length≤cap:=by
               generalize a.eval x=u at hc
               cases hc with
               |nil=>simp_all
               |row h0 hl=>grind
             obtain⟨A,cap,hx',jB⟩:=hx2;rw[hx']at hc;exact⟨_,key _ _ _ hx' (fun _=>by omega) om,RP.slice hc kc.2 om kc.1⟩
           · cases he
         | nil=>
           simp only[av.part]at he;split at he
           · rename_i h0;simp at he;subst he;have gC:n=0:=by simp_all[av.mY,av.view]
             refine⟨_,key _ _ _ hc (fun _=>by omega) om,?_⟩;show _=_;grind
           · cases he
         |_=>cases he
       · cases he
     · cases he
   · cases he
 · cases he
end
end
end
end Go.Proofs.YtndegphojkiblaaGreatDoor
