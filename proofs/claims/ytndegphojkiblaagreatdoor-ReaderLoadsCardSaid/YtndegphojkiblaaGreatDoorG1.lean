/- Towards the last file's theorem: part 1. -/
import Derived.WalkKit
import Derived.WalkSpells
import Derived.WalkLawsBesides
import Derived.Below
import Derived.IntWalk
import Derived.Laws.AppendOwn
import Derived.Laws.MakeOwn
import Derived.Laws.OwnMore
set_option linter.all false
set_option maxHeartbeats 4000000
set_option maxRecDepth 100000
namespace Go.Proofs.YtndegphojkiblaaGreatDoor
noncomputable section
abbrev au:=@if_pos
abbrev av:=World
abbrev aw:=TypeId
abbrev ax:=@List.length_map
abbrev aD:=Value
abbrev aE:=@if_neg
abbrev aJ:=@Option.map_some
abbrev aM:=Operand
abbrev aQ:=Program
abbrev aW:=@Option.map_eq_some_iff
abbrev bk:=@List.all_eq_true
abbrev bt:=@Bool.and_eq_true
abbrev bC:=@List.map_cons
abbrev bO:=@List.getElem?_map
abbrev bS:=IntKind
abbrev bX:=@List.getElem?_eq_getElem
abbrev b9:=@List.getElem_mem
abbrev cg:=@decide_eq_true_eq
abbrev cj:=@List.map_nil
abbrev cn:=ByteArray
abbrev cH:=@List.mem_of_getElem?
abbrev cI:=@congrArg
abbrev cN:=@List.getElem?_eq_some_iff
abbrev cT:=@Nat.le_refl
abbrev cU:=@List.mem_cons
abbrev dy:=@List.mem_map
abbrev dz:=@of_decide_eq_true
abbrev dL:=@List.length_append
abbrev dX:=@List.length_take
abbrev dY:=@Array.getElem?_eq_some_iff
abbrev ei:=@List.mem_append
abbrev ej:=@List.map_append
abbrev ek:=@List.mem_cons_self
abbrev eo:=@of_decide_eq_false
abbrev eN:=@Option.getD_some
abbrev eR:=@List.lookup_cons
abbrev eS:=@List.mem_singleton
abbrev e_:=@List.append_assoc
abbrev fa:=@List.nil_append
abbrev fb:=@List.mem_cons_of_mem
abbrev fv:=@List.cons_append
abbrev fw:=@List.length_drop
abbrev fx:=@Nat.mul_le_mul_right
abbrev gb:=@Nat.add_zero
abbrev gd:=@Int.toNat_natCast
abbrev gE:=@Option.bind_eq_some_iff
abbrev gO:=@List.map_congr_left
abbrev gP:=@Classical.not_not
abbrev hU:=@List.mem_of_mem_take
abbrev im:=@Option.some.injEq
abbrev iq:=@List.eq_nil_of_length_eq_zero
abbrev ir:=@List.take_of_length_le
abbrev iN:=@Bool.eq_iff_iff
abbrev iO:=@Nat.add_mul
abbrev iP:=@List.map_map
abbrev iQ:=@List.take_succ_eq_append_getElem
abbrev je:=@List.mapM_cons
abbrev jg:=@List.take_length
abbrev jD:=@List.getElem?_take
abbrev ki:=@List.getElem?_append
abbrev kj:=@List.append_nil
abbrev kl:=@Nat.succ_mul
abbrev km:=@List.length_cons
abbrev ko:=@List.mem_range
abbrev kP:=@List.getElem?_drop
abbrev lO:=@Bool.not_eq_true'
abbrev lP:=@Bool.false_eq_true
abbrev lQ:=@List.getElem_of_mem
abbrev lR:=@List.getElem?_append_right
abbrev lS:=@List.not_mem_nil
abbrev mL:=@List.getElem?_cons_zero
abbrev nP:=@Nat.lt_of_lt_of_le
abbrev nQ:=@Array.toList_inj
abbrev nS:=@List.getElem?_append_left
abbrev oQ:=@List.lookup_nil
abbrev oR:=@List.mem_of_mem_drop
abbrev oT:=@List.length_nil
abbrev oU:=@Array.getElem?_append
abbrev pW:=@Array.getElem?_eq_getElem
abbrev pX:=@Nat.lt_or_ge
abbrev pY:=@List.getElem?_range
abbrev pZ:=@List.length_replicate
abbrev p6:=@Nat.zero_le
abbrev p7:=@List.map_drop
abbrev p8:=@List.map_take
abbrev p9:=@Option.some.inj
abbrev p_:=@Nat.eq_of_beq_eq_true
abbrev qa:=@List.mem_filter
abbrev qb:=@Nat.not_lt_zero
abbrev rQ:=@Nat.add_assoc
abbrev rR:=@List.mem_append_right
abbrev rS:=@decide_eq_false_iff_not
abbrev rT:=@List.size_toArray
abbrev rU:=@List.mem_filterMap
abbrev rV:=@Bool.or_eq_true
abbrev rW:=@List.drop_zero
abbrev rX:=@List.getD_eq_getElem?_getD
abbrev uf:=@Nat.le_trans
abbrev ug:=@Array.getD_eq_getD_getElem?
abbrev uh:=@List.mem_flatMap
abbrev ui:=@List.mem_append_left
abbrev uj:=@List.ext_getElem?
abbrev uk:=@List.drop_eq_nil_of_le
abbrev um:=@List.length_singleton
abbrev wJ:=@Option.bind_some
abbrev wK:=@Nat.le_succ
abbrev wL:=@BitVec.toNat_ofInt
abbrev zu:=@Option.isSome_iff_exists
abbrev zv:=@List.getElem?_toArray
abbrev zw:=@Array.size_append
abbrev zA:=@Int.natCast_mul
abbrev zB:=@List.getElem?_cons_succ
abbrev zC:=@List.getElem?_eq_none
abbrev zD:=@List.contains_eq_mem
abbrev zE:=@Nat.lt_succ_self
abbrev zF:=@List.drop_eq_getElem_cons
abbrev zG:=@Int.toNat_zero
abbrev zH:=@Nat.lt_succ_of_lt
abbrev zI:=@List.length_set
abbrev zJ:=@Nat.shiftLeft_eq
abbrev zK:=@Nat.xor_lt_two_pow
abbrev Dd:=@Nat.zero_add
abbrev De:=@Nat.min_eq_left
abbrev Df:=@Int.toNat_of_nonneg
abbrev Dg:=@List.mem_replicate
abbrev Dh:=@List.any_eq_true
abbrev Di:=@Int.tdiv_eq_ediv_of_nonneg
abbrev Dj:=@Classical.byContradiction
abbrev IG:=@List.getElem?_set
abbrev IH:=@Array.getElem?_toList
abbrev II:=@Nat.sub_self
abbrev IJ:=@Option.map_map
abbrev IK:=@Nat.mul_one
abbrev IL:=@Int.le_refl
abbrev IM:=@Nat.mod_eq_of_lt
abbrev IN:=@Nat.lt_trichotomy
abbrev IP:=@Nat.add_comm
abbrev IQ:=@List.cons.injEq
abbrev IS:=@Int.tmod_lt_of_pos
abbrev IT:=@Int.tmod_eq_emod_of_nonneg
abbrev IU:=@List.map_replicate
abbrev IV:=@Nat.mul_le_mul
abbrev IW:=@List.pairwise_cons
abbrev IX:=@Bool.eq_false_iff
abbrev IY:=@Nat.pow_le_pow_right
abbrev IZ:=@Nat.le_of_ble_eq_true
abbrev SA:=@Array.getElem?_setIfInBounds
abbrev SD:=@Array.mem_of_getElem?
abbrev SE:=@List.exists_cons_of_ne_nil
abbrev SF:=@Array.length_toList
abbrev SG:=@List.mem_or_eq_of_mem_set
abbrev SH:=@Nat.mul_comm
abbrev SI:=@List.pairwise_iff_getElem
abbrev SJ:=@Nat.ne_of_gt
abbrev SK:=@Nat.mul_pos
abbrev SL:=@Array.getElem?_replicate
abbrev SM:=@List.all_cons
abbrev SN:=@Int.ediv_nonneg
abbrev SO:=@Int.fdiv_eq_ediv_of_nonneg
abbrev SP:=@List.range_succ
abbrev SQ:=@Array.replicate_succ
abbrev SR:=@Array.replicate_zero
abbrev SS:=@List.push_toArray
abbrev SU:=@List.append_toArray
abbrev SW:=@List.foldl_append
abbrev SX:=@List.ext_getElem
abbrev SY:=@List.count_append
abbrev SZ:=@List.set_set
abbrev aiv:=@Array.mem_toList_iff
abbrev aiw:=@Array.eq_empty_of_size_eq_zero
abbrev aix:=@List.flatten_cons
abbrev aiy:=@Nat.eq_zero_or_pos
abbrev aiz:=@List.zipIdx_cons
abbrev aiA:=@List.foldl_cons
abbrev aiB:=@Array.toList_map
abbrev aiC:=@Nat.mul_add_mod
abbrev aiD:=@Nat.min_le_left
abbrev aiE:=@Nat.le_add_right
abbrev aiF:=@List.getElem?_replicate
abbrev aiG:=@List.take_succ_cons
abbrev aiH:=@List.mem_zipIdx_iff_getElem?
abbrev aiI:=@Option.ite_none_right_eq_some
abbrev aiJ:=@Option.bind_none
abbrev aiK:=@Int.ediv_le_ediv
abbrev aiL:=@Int.ediv_le_self
abbrev aiM:=@BitVec.toNat_and
abbrev aiN:=@Option.map_none
abbrev aiO:=@List.isEmpty_iff
abbrev aiP:=@Int.cast_ofNat_Int
abbrev aiQ:=@Int.emod_nonneg
abbrev aiR:=@BitVec.eq_of_toNat_eq
abbrev aiS:=@List.eq_of_mem_replicate
abbrev aiT:=@Nat.shiftRight_eq_div_pow
abbrev aiU:=@List.set_cons_zero
abbrev aiV:=@List.mem_reverse
abbrev aiW:=@Bool.eq_false_or_eq_true
abbrev aiX:=@List.length_range
section
open Go.RowKit
theorem om {P:Prop} (h:P:=by omega):P:=h
theorem dc {P:Prop} (h:P:=by decide):P:=h
theorem kr {P:Prop} (h:P:=by kernel_rfl):P:=h
inductive PV where
 |sc (v:aD)
 |sl (rows:List (List PV))
deriving Inhabited
def flat:aD→Bool
 | .bool _| .int _ _| .float _ _| .complex _ _ _| .string _| .pointer none| .map none| .nilFunc| .nilIface=>true
 |_=>false
abbrev bY:=Nat→Prop
def eA (n:Nat) (rows:List (List PV)):Prop:=∀r∈rows,r.length=n
inductive RP (M:bY) (w:av):PV→aD→Prop
 |sc {v:aD} (h:flat v=true):RP M w (.sc v) v
 |nil {A:Option Addr} {cap:Nat}:RP M w (.sl []) (.slice A 0 cap)
 |row {rows:List (List PV)} {g o cap sz:Nat} {f:Nat→Nat→aD} (h0:rows≠ []) (hl:rows.length≤cap) (hm:cap≤maxLen)
  (hs:∀r∈rows,r.length=sz)
  (hc:∀(i:Nat) (r:List PV) (j:Nat) (p:PV),rows[i]? =some r→r[j]? =some p→w.cell? ⟨g,o+i*sz+j,none⟩=some (f i j)∧¬M g)
  (hp:∀(i:Nat) (r:List PV) (j:Nat) (p:PV),rows[i]? =some r→r[j]? =some p→RP M w p (f i j)):
  RP M w (.sl rows) (.slice (some ⟨g,o,none⟩) rows.length cap)
theorem aCM {v:aD} (h:flat v=true):v.oneCell'=true:=by cases v<;>simp_all [flat,Value.oneCell']
theorem RP.tF {M:bY} {w:av} {p:PV} {v:aD} (h:RP M w p v):v.oneCell'=true:=by
 cases h with
 |sc h=>exact aCM h
 |nil=>rfl
 |row=>rfl
def iB (M M':bY) (w w':av):Prop:=∀g o u,w.cell? ⟨g,o,none⟩=some u→¬M g→w'.cell? ⟨g,o,none⟩=some u∧¬M' g
theorem RP.trans {M M':bY} {w w':av} {p:PV} {v:aD} (h:RP M w p v) (hk:iB M M' w w'):RP M' w' p v:=by
 induction h with
 |sc h=>exact .sc h
 |nil=>exact .nil
 |row h0 hl hm hs hc hp ih=>exact .row h0 hl hm hs (fun i r j p hi hj=>hk _ _ _ (hc i r j p hi hj).1 (hc i r j p hi hj).2) (fun i r j p hi hj=>ih i r j p hi hj)
theorem RP.dv {M:bY} {w:av} {u v:aD} (h:RP M w (.sc u) v):v=u:=by cases h;rfl
def Rows (M:bY) (w:av) (rows:List (List PV)) (v:aD):Prop:=
 (rows=[]∧∃A cap,v= .slice A 0 cap)∨∃(g o cap sz:Nat) (f:Nat→Nat→aD),v= .slice (some ⟨g,o,none⟩) rows.length cap∧rows≠ []∧rows.length≤cap∧cap≤maxLen∧eA sz rows∧
  ∀(i:Nat) (r:List PV) (j:Nat) (p:PV),rows[i]? =some r→r[j]? =some p→w.cell? ⟨g,o+i*sz+j,none⟩=some (f i j)∧RP M w p (f i j)
theorem RP.rows {M:bY} {w:av} {rows:List (List PV)} {v:aD} (h:RP M w (.sl rows) v):Rows M w rows v:=by
 cases h with
 |nil=>exact .inl ⟨rfl,_,_,rfl⟩
 |row h0 hl hm hs hc hp=>exact .inr ⟨_,_,_,_,_,rfl,h0,hl,hm,hs,fun i r j p hi hj=> ⟨(hc i r j p hi hj).1,hp i r j p hi hj⟩⟩
inductive C where
 |p (p:PV)
 |nil
 |own (n:Nat)
 |sub (n lo len:Nat)
 |ptr (n off:Nat)
 |cB (n i j:Nat)
 |ref (cells:List PV)
 |fn (f:FuncId) (cQ:List Nat)
 |mp (n:Nat)
 |dead
deriving Inhabited
inductive V1 where
 |c (c:C)
 |agg (cs:List C)
deriving Inhabited
inductive V where
 |v (x:V1)
 |aj (xs:List V1)
deriving Inhabited
inductive cO where
 |box (cs:List C)
 |row (e:aw) (rows:List (List PV))
 |map (es:List (aD×List PV))
deriving Inhabited
abbrev Hp:=List (Nat×cO)
structure Nm where
 g:Option Nat
 len:Nat
 cap:Nat
 sz:Nat
structure Env where
 N:Nat→Option Nm
 ao:List Nat
def bad (M:bY) (E:Env):bY:=fun g=>M g∨∃n x,E.N n=some x∧x.g=some g
def bT (E:Env) (n:Nat) (Q:Nm→Prop):Prop:=n∈E.ao∨∃x,E.N n=some x∧Q x
def RC (M:bY) (E:Env) (w:av):C→aD→Prop
 | .p p,v=>RP (bad M E) w p v
 | .nil,v=>v= .slice none 0 0
 | .own n,v=>bT E n fun x=>v= .slice (x.g.map fun g=> ⟨g,0,none⟩) x.len x.cap
 | .sub n lo len,v=>bT E n fun x=>lo+len≤x.len∧∃A,v= .slice A len (x.cap-lo)∧(x.cap≠lo∨lo=0→A=x.g.map fun g=> ⟨g,lo*x.sz,none⟩)
 | .ptr n off,v=>bT E n fun x=>∃g,x.g=some g∧v= .pointer (some ⟨g,off,none⟩)
 | .cB n i j,v=>bT E n fun x=>i<x.len∧∃g,x.g=some g∧v= .pointer (some ⟨g,i*x.sz+j,none⟩)
 | .ref cells,v=>∃g o,v= .pointer (some ⟨g,o,none⟩)∧∀(j:Nat) (p:PV),cells[j]? =some p→∃u,w.cell? ⟨g,o+j,none⟩=some u∧¬bad M E g∧RP (bad M E) w p u
 | .fn f cQ,v=>∃us:Array aD,v= .func (.func f) #[] us∧us.size=cQ.length∧∀(i n:Nat),cQ[i]? =some n→∃u,us[i]? =some u∧bT E n fun x=>∃g,x.g=some g∧u= .pointer (some ⟨g,0,none⟩)
 | .mp n,v=>bT E n fun x=>∃g,x.g=some g∧v= .map (some g)
 | .dead,_=>True
def dq (M:bY) (E:Env) (w:av):V1→aD→Prop
 | .c c,v=>RC M E w c v
 | .agg cs,v=>∃us:Array aD,v= .agg us∧us.size=cs.length∧∀(i:Nat) (c:C),cs[i]? =some c→∃u,us[i]? =some u∧RC M E w c u∧u.oneCell'=true
def RV (M:bY) (E:Env) (w:av):V→aD→Prop
 | .v x,v=>dq M E w x v
 | .aj xs,v=>∃us:Array aD,v= .tuple us∧us.size=xs.length∧∀(i:Nat) (x:V1),xs[i]? =some x→∃u,us[i]? =some u∧dq M E w x u
def nc (n:Nat) (fz:Nat×Nat):Prop:=fz=(0,0)∨n≤fz.1
def RB (P:aQ) (M:bY) (E:Env) (w:av) (n:Nat):cO→Prop
 | .box cs=>∃x g cur e,E.N n=some x∧x.g=some g∧w.heap[g]? =some (.cells cur e (0,0))∧cur.size=cs.length∧
  ∀(i:Nat) (c:C),cs[i]? =some c→∃u,cur[i]? =some u∧RC M E w c u∧u.oneCell'=true
 | .row e rows=>∃x cur fz,E.N n=some x∧nc cur.size fz∧(∀g,x.g=some g→w.heap[g]? =some (.cells cur e fz))∧x.len=rows.length∧x.len≤x.cap∧x.cap≤maxLen∧0<x.sz∧x.sz=P.cellsOf e∧cur.size=x.cap*x.sz∧eA x.sz rows∧(x.g=none→x.cap=0)∧
  ∀(i:Nat) (r:List PV) (j:Nat) (p:PV),rows[i]? =some r→r[j]? =some p→∃u,cur[i*x.sz+j]? =some u∧RP (bad M E) w p u
 | .map _=>∃x g en clock,E.N n=some x∧x.g=some g∧w.heap[g]? =some (.map en clock)∧∀m∈en.toList,∃z,m.key= .int .u64 z
structure gk (M:bY) (E E':Env) (w w':av):Prop where
 cell:iB (bad M E) (bad M E') w w'
 name:∀n x,E.N n=some x→n∈E'.ao∨E'.N n=some x
 ao:∀n,n∈E.ao→n∈E'.ao
section
variable {M:bY} {E E':Env} {w w':av}
theorem RP.goes (hG:gk M E E' w w') {p:PV} {v:aD} (h:RP (bad M E) w p v):RP (bad M E') w' p v:=h.trans hG.cell
theorem bT.goes (hG:gk M E E' w w') {n:Nat} {Q:Nm→Prop} (h:bT E n Q):bT E' n Q:=by
 rcases h with h| ⟨x,h1,h2⟩
 · exact .inl (hG.ao n h)
 · rcases hG.name n x h1 with h3|h3
   · exact .inl h3
   · exact .inr ⟨x,h3,h2⟩
theorem RC.goes (hG:gk M E E' w w') {c:C} {v:aD} (h:RC M E w c v):RC M E' w' c v:=by
 cases c with
 |p p=>exact RP.goes hG h
 |nil=>exact h
 |own n=>exact bT.goes hG h
 |sub n lo len=>exact bT.goes hG h
 |ptr n off=>exact bT.goes hG h
 |cB n i j=>exact bT.goes hG h
 |ref cells=>
  obtain⟨g,o,h1,h2⟩:=h;refine⟨g,o,h1,fun j p hj=> ?_⟩;obtain⟨u,h3,h4,h5⟩:=h2 j p hj;exact⟨u,(hG.cell _ _ _ h3 h4).1,(hG.cell _ _ _ h3 h4).2,RP.goes hG h5⟩
 |fn f cQ=>
  obtain⟨us,h1,h2,h3⟩:=h;exact⟨us,h1,h2,fun i n hi=>let⟨u,h4,h5⟩:=h3 i n hi; ⟨u,h4,h5.goes hG⟩⟩
 |mp n=>exact bT.goes hG h
 |dead=>trivial
theorem dq.goes (hG:gk M E E' w w') {x:V1} {v:aD} (h:dq M E w x v):dq M E' w' x v:=by
 cases x with
 |c c=>exact RC.goes hG h
 |agg cs=>
  obtain⟨us,h1,h2,h3⟩:=h;exact⟨us,h1,h2,fun i c hi=>let⟨u,h4,h5,h6⟩:=h3 i c hi; ⟨u,h4,h5.goes hG,h6⟩⟩
theorem RV.goes (hG:gk M E E' w w') {x:V} {v:aD} (h:RV M E w x v):RV M E' w' x v:=by
 cases x with
 |v x=>exact dq.goes hG h
 |aj xs=>
  obtain⟨us,h1,h2,h3⟩:=h;exact⟨us,h1,h2,fun i c hi=>let⟨u,h4,h5⟩:=h3 i c hi; ⟨u,h4,h5.goes hG⟩⟩
theorem RB.goes {P:aQ} (hG:gk M E E' w w') {n:Nat} (hn:n∉E'.ao) (hb:∀x g,E.N n=some x→x.g=some g→w'.heap[g]? =w.heap[g]?) {b:cO} (h:RB P M E w n b):RB P M E' w' n b:=by
 have hN:∀x,E.N n=some x→E'.N n=some x:=fun x hx=> (hG.name n x hx).resolve_left hn
 cases b with
 |box cs=>
  obtain⟨x,g,cur,e,h1,h0,h2,h3,h4⟩:=h;exact⟨x,g,cur,e,hN x h1,h0,(hb x g h1 h0).trans h2,h3,fun i c hi=>let⟨u,h5,h6,h7⟩:=h4 i c hi; ⟨u,h5,h6.goes hG,h7⟩⟩
 |row e rows=>
  obtain⟨x,cur,fz,h1,ca,h2,h3,h4,h5,h6,h11,h7,h8,h10,h9⟩:=h;exact⟨x,cur,fz,hN x h1,ca,fun g hg=> (hb x g h1 hg).trans (h2 g hg),h3,h4,h5,h6,h11,h7,h8,h10,fun i r j p hi hj=>let⟨u,k1,k2⟩:=h9 i r j p hi hj; ⟨u,k1,k2.goes hG⟩⟩
 |map es=>
  obtain⟨x,g,en,clock,h1,h0,h2,h3⟩:=h;exact⟨x,g,en,clock,hN x h1,h0,(hb x g h1 h0).trans h2,h3⟩
end
structure Frame (K:bY) (w w':av):Prop where
 os:w'.os=w.os
 tape:w'.tape=w.tape
 output:w'.output=w.output
 size:w.heap.size≤w'.heap.size
 block:∀g,g<w.heap.size→¬K g→w'.heap[g]? =w.heap[g]?
theorem Frame.refl (K:bY) (w:av):Frame K w w:=⟨rfl,rfl,rfl,cT _,fun _ _ _=>rfl⟩
theorem Frame.trans {K K':bY} {a b c:av} (h:Frame K a b) (k:Frame K' b c) (hK:∀g,g<a.heap.size→K' g→K g):Frame K a c:=
 ⟨k.os.trans h.os,k.tape.trans h.tape,k.output.trans h.output,uf h.size k.size,fun g hg hn=>
  (k.block g (nP hg h.size) fun hk=>hn (hK g hg hk)).trans (h.block g hg hn)⟩
theorem Frame.En {K:bY} {w w':av} (h:Below w.heap.size w w'):Frame K w w':=⟨h.os,h.tape,h.output,h.size,fun g hg _=>h.block g hg⟩
structure ak where
 tmps:List V
 heap:Hp
 ao:List Nat
 next:Nat
structure Fx where
 P:aQ
 M:bY
 K:bY
 w0:av
 N0:Nat→Option Nm
 k0:Nat
 D:List Deferred
structure Rel (X:Fx) (E:Env) (st:ak) (a:Act) (w:av):Prop where
 defers:a.defers=X.D
 ao:E.ao=st.ao
 frame:Frame X.K X.w0 w
 mlt:∀g,X.M g→g<X.w0.heap.size
 cR:∀n x,E.N n=some x→n<st.next
 names:∀n x g,E.N n=some x→x.g=some g→g<w.heap.size∧(X.K g∨X.w0.heap.size≤g)∧¬X.M g
 inj:∀n m x y g,E.N n=some x→E.N m=some y→x.g=some g→y.g=some g→n=m
 dw:∀m,m<X.k0→E.N m=none∨E.N m=X.N0 m
 fh:X.k0≤st.next
 fe:∀n∈st.ao,n<st.next
 size:a.tmps.size=st.tmps.length
 tmps:∀(i:Nat) (v:V),st.tmps[i]? =some v→∃u,a.tmps[i]? =some u∧RV X.M E w v u
 heap:∀n b,st.heap.lookup n=some b→n∈st.ao∨RB X.P X.M E w n b
def ak.put (st:ak) (d:Option Nat) (v:V):ak:=
 match d with
 |some d=> {st with tmps:=st.tmps.set d v}
 |none=>st
theorem Rel.put {X:Fx} {E:Env} {st:ak} {a:Act} {w:av} (h:Rel X E st a w) (d:Option Nat) {v:V} {u:aD} (hv:RV X.M E w v u):Rel X E (st.put d v) (a.put d u) w:=by
 cases d with
 |none=>exact h
 |some d=>
  refine{h with size:=by simp[Act.put,ak.put,h.size],tmps:= ?_,defers:=h.defers,heap:=h.heap,ao:=h.ao};intro i x hi;simp only[ak.put,IG]at hi;simp only[Act.put,SA];split at hi
  · rename_i v_;subst v_;split at hi
    · rename_i hl;simp at hi;subst hi;exact⟨u,by simp[h.size,hl],hv⟩
    · cases hi
  · rename_i v_;obtain⟨u',h1,h2⟩:=h.tmps i x hi;exact⟨u',by simp[v_,h1],h2⟩
structure dB where
 jk:Hp
 ao:List Nat
def ak.cq (st:ak) (e:dB):ak:={st with heap:=e.jk++st.heap,ao:=e.ao++st.ao}
theorem Xu (n:Nat) (a b:Hp):List.lookup n (a++b)=(List.lookup n a).or (List.lookup n b):=by
 induction a with
 |nil=>simp
 |cons x a ih=>
  obtain⟨k,c⟩:=x;simp only[fv,eR];split<;>simp[ih]
theorem Rel.step {X:Fx} {E E':Env} {st:ak} {a:Act} {w w':av} (h:Rel X E st a w) (e:dB) {nx:Nat} (dI:st.next≤nx) (hG:gk X.M E E' w w') (hg:E'.ao=e.ao++st.ao) (hF:Frame X.K X.w0 w')
  (eW:∀n x,E'.N n=some x→n<nx)
  (kF:∀n x g,E'.N n=some x→x.g=some g→g<w'.heap.size∧(X.K g∨X.w0.heap.size≤g)∧¬X.M g)
  (aGg:∀n m x y g,E'.N n=some x→E'.N m=some y→x.g=some g→y.g=some g→n=m)
  (wa:∀m,m<X.k0→E'.N m=none∨E'.N m=E.N m)
  (hgn:∀n∈e.ao,n<nx)
  (hold:∀n x g,E.N n=some x→x.g=some g→n∉E'.ao→e.jk.lookup n=none→w'.heap[g]? =w.heap[g]?)
  (gw:∀n b,e.jk.lookup n=some b→n∈E'.ao∨RB X.P X.M E' w' n b):Rel X E' {st.cq e with next:=nx} a w' := {
 defers:=h.defers
 ao:=hg
 frame:=hF
 mlt:=h.mlt
 cR:=eW
 names:=kF
 inj:=aGg
 dw:=fun m hm=>by
  rcases wa m hm with h1|h1
  · exact .inl h1
  · rw[h1];exact h.dw m hm
 fh:=uf h.fh dI
 fe:=fun n hn=>by
  rcases ei.1 hn with h1|h1
  · exact hgn n h1
  · exact nP (h.fe n h1) dI
 size:=h.size
 tmps:=fun i v hi=>let⟨u,h1,h2⟩:=h.tmps i v hi; ⟨u,h1,h2.goes hG⟩
 heap :=fun n b hl=>by
  simp only[ak.cq,Xu]at hl;show n∈e.ao++st.ao∨_;rw[←hg]
  cases hu:e.jk.lookup n with
  | some b'=>
    rw[hu]at hl;simp at hl;subst hl;exact gw n b' hu
  | none=>
    rw[hu]at hl;simp at hl;by_cases hn:n∈E'.ao
    · exact .inl hn
    · rcases h.heap n b hl with h1|h1
      · exact absurd (hG.ao n (by rw[h.ao];exact h1)) hn
      · exact .inr (h1.goes hG hn (fun x g hx hg=>hold n x g hx hg hn hu))
 }
theorem Zr {M:bY} {E E':Env} {w w':av} (hB:∀g,g<w.heap.size→w'.heap[g]? =w.heap[g]?) (hM:∀g,g<w.heap.size→bad M E' g→bad M E g)
  (hN:∀n x,E.N n=some x→n∈E'.ao∨E'.N n=some x) (hg:∀n,n∈E.ao→n∈E'.ao):gk M E E' w w' := {
 cell:=fun g o u h1 h2=>by
  have hlt:=World.block_lt_of_cell? w ⟨g,o,none⟩ h1;exact⟨(World.cell?_of_block (w:=w) (a:=⟨g,o,none⟩) (hB g hlt)).trans h1,fun h3=>h2 (hM g hlt h3)⟩
 name:=hN
 ao:=hg
 }
theorem Rel.drew {X:Fx} {E:Env} {st:ak} {a:Act} {w:av} (h:Rel X E st a w):Rel X E st a w.drew:=by
 have hG:gk X.M E E w w.drew:=Zr (fun _ _=>rfl) (fun _ _ h=>h) (fun _ _ h=> .inr h) (fun _ h=>h)
 exact{h with
  frame:=⟨h.frame.os,h.frame.tape,h.frame.output,h.frame.size,h.frame.block⟩
  defers:=h.defers
  ao:=h.ao
  size:=h.size
  names:=h.names
  cR:=h.cR
  tmps:=fun i v hi=>let⟨u,h1,h2⟩:=h.tmps i v hi; ⟨u,h1,h2.goes hG⟩
  heap:=fun n b hl=>by
   rcases h.heap n b hl with h1|h1
   · exact .inl h1
   · by_cases hn:n∈E.ao
     · exact .inl (by rw[←h.ao];exact hn)
     · exact .inr (h1.goes hG hn (fun _ _ _ _=>rfl))}
def Env.add (E:Env) (d:Nat) (x:Nm):Env:={E with N:=fun n=>if n=d then some x else E.N n}
theorem Rel.fresh {X:Fx} {E:Env} {st:ak} {a:Act} {w w':av} (h:Rel X E st a w) (d:Nat) (hd:E.N d=none) (eM:X.k0≤d) (dJ:d<st.next)
   (hB:Below w.heap.size w w') {x:Nm} (hx:x.g=none∨x.g=some w.heap.size∧w.heap.size<w'.heap.size) (b:cO) (hb:gk X.M E (E.add d x) w w'→RB X.P X.M (E.add d x) w' d b):
   gk X.M E (E.add d x) w w'∧Rel X (E.add d x) (st.cq ⟨[(d,b)],[]⟩) a w':=by
 have hlt:∀n y g,E.N n=some y→y.g=some g→g<w.heap.size:=fun n y g hy hg=> (h.names n y g hy hg).1
 have gZ:∀g,x.g=some g→g=w.heap.size∧w.heap.size<w'.heap.size:=fun g hg=>by
   rcases hx with h1|h1
   · rw[h1]at hg;cases hg
   · rw[h1.1]at hg;cases hg;exact⟨rfl,h1.2⟩
 have hG:gk X.M E (E.add d x) w w':=Zr hB.block (fun g hg hm=>by
     rcases hm with h1| ⟨n,y,h1,h2⟩
     · exact .inl h1
     · simp only[Env.add]at h1;split at h1
       · cases h1;have:=gZ g h2;omega
       · exact .inr ⟨n,y,h1,h2⟩) (fun n y hy=>by
     right;simp only[Env.add];split
     · subst n;rw[hd]at hy;cases hy
     · exact hy) (fun _ h=>h)
 refine⟨hG,h.step ⟨[(d,b)],[]⟩ (nx:=st.next) (cT _) hG h.ao (h.frame.trans (Frame.En (K:=fun _=>False) hB) (fun _ _ h=>h.elim)) ?_ ?_ ?_ ?_ (by simp) ?_ ?_⟩
 · intro n y hy;simp only[Env.add]at hy;split at hy
   · omega
   · exact h.cR n y hy
 · intro n y g hy hg;simp only[Env.add]at hy;split at hy
   · cases hy;obtain⟨h1,h2⟩:=gZ g hg;subst h1;exact⟨h2,.inr h.frame.size,fun hM=>by have:=h.mlt _ hM;have:=h.frame.size;omega⟩
   · obtain⟨h1,h2,h3⟩:=h.names n y g hy hg;exact⟨by have:=hB.size;omega,h2,h3⟩
 · intro n m y z g hy hz oB Ri;simp only[Env.add]at hy hz;split at hy<;>split at hz
   · omega
   · cases hy;have:=hlt m z g hz Ri;have:=gZ g oB;omega
   · cases hz;have:=hlt n y g hy oB;have:=gZ g Ri;omega
   · exact h.inj n m y z g hy hz oB Ri
 · intro m hm;right;simp only[Env.add];rw[aE om]
 · intro n y g hy hg _ _;exact hB.block _ (hlt n y g hy hg)
 · intro n b' hl;simp only[eR,oQ]at hl;split at hl
   · rename_i heq;simp at heq;subst heq;cases hl;exact .inr (hb hG)
   · cases hl
open Classical in
noncomputable def gK {α:Type} (c:Prop) (x:Option α):Option α:=if c then x else none
theorem jr {α:Type} {c:Prop} (h:c) (x:Option α):gK c x=x:=au h
def bitsOf (k:bS) (r:BitVec k.bits):aD:= .int k (k.wrap r.toNat)
noncomputable def jM (tb:Bool) (op:BinOp):aD→aD→Option aD
 | .int k a,.int k' b=>
  match op with
  | .shl=>gK (0≤b) (some (.int k (k.wrap (a*2^ (min b.toNat k.bits)))))
  | .shr=>gK (0≤b) (some (.int k (a.fdiv (2^ (min b.toNat k.bits)))))
  | .add=>if k=k' then some (.int k (k.wrap (a+b)))else none
  | .sub=>if k=k' then some (.int k (k.wrap (a-b)))else none
  | .mul=>if k=k' then some (.int k (k.wrap (a*b)))else none
  | .quo=>gK (k=k'∧b≠0) (some (.int k (k.wrap (a.tdiv b))))
  | .rem=>gK (k=k'∧b≠0) (some (.int k (a.tmod b)))
  | .and=>if k=k' then some (bitsOf k (BitVec.ofInt k.bits a&&&BitVec.ofInt k.bits b))else none
  | .or=>if k=k' then some (bitsOf k (BitVec.ofInt k.bits a|||BitVec.ofInt k.bits b))else none
  | .xor=>if k=k' then some (bitsOf k (BitVec.ofInt k.bits a^^^BitVec.ofInt k.bits b))else none
  | .andNot=>if k=k' then some (bitsOf k (BitVec.ofInt k.bits a&&& ~~~ BitVec.ofInt k.bits b))else none
  | .eql=>if k=k' then some (.bool (decide (a=b)))else none
  | .neq=>if k=k' then some (.bool (decide (a≠b)))else none
  | .lss=>if k=k' then some (.bool (decide (a<b)))else none
  | .leq=>if k=k' then some (.bool (decide (a≤b)))else none
  | .gtr=>if k=k' then some (.bool (decide (b<a)))else none
  | .geq=>if k=k' then some (.bool (decide (b≤a)))else none
 | .string a,.string b=>
  match op with
  | .add=>gK (((a.size+b.size:Nat):Int)≤9223372036854775807) (some (.string (a++b)))
  | .eql=>some (.bool (a.toList==b.toList))
  | .neq=>some (.bool (!(a.toList==b.toList)))
  | .lss=>some (.bool (Op.bytesLess a.toList b.toList))
  | .leq=>some (.bool (Op.bytesLess a.toList b.toList||a.toList==b.toList))
  | .gtr=>some (.bool (!(Op.bytesLess a.toList b.toList||a.toList==b.toList)))
  | .geq=>some (.bool (!(Op.bytesLess a.toList b.toList)))
  |_=>none
 | .bool a,.bool b=>
  match op with
  | .eql=>if tb then some (.bool (a==b))else none
  | .neq=>if tb then some (.bool (!(a==b)))else none
  |_=>none
 |_,_=>none
def rb (P:aQ) (t:aw):Bool:=match P.underlying t with|some .bool=>true|_=>false
theorem abT {P:aQ} {t:aw} (h:rb P t=true):P.underlying t=some .bool:=by
 unfold rb at h;split at h<;>simp_all
theorem axW (a b:Int):(a==b)=decide (a=b):=by rw[iN];simp
theorem apm (a b:Int):(a !=b)=decide (a≠b):=by rw[iN];simp
theorem aDi {tb:Bool} {op:BinOp} {u v r:aD} (h:jM tb op u v=some r):flat r=true:=by
 unfold jM at h;cases u<;>cases v<;>simp only[]at h<;>first| (cases h;done)| (cases op<;>simp[bitsOf,gK]at h<;>first| (obtain⟨_,rfl⟩:=h;rfl)| (subst h;rfl))
theorem aBh {P:aQ} {op:BinOp} {u v r:aD} (t:aw) (x y:aM) (h:jM (rb P t) op u v=some r) (w:av):
   (do eqGuard op t x y u v;binOp op t u v).run P w= .ok r w:=by
 have hg:(eqGuard op t x y u v).run P w= .ok () w:=by
   unfold eqGuard;unfold jM at h;cases u<;>cases v<;>simp only[]at h<;>first| (cases h;done)| (cases op<;>simp)
 simp only[Sem.run_bind,hg,Result.andThen_ok];cases u<;>cases v<;>first
   | (simp[jM]at h;done)
   | (cases op<;>simp[jM,bitsOf,gK]at h<;>obtain⟨h1,rfl⟩:=h<;>simp_all [binOp,Op.shift,Op.intArith,Op.intDiv,Op.intBits,Op.intCmp,bitsOf,axW,apm]<;> (try omega);done)
   |skip
 · cases op<;>simp only[jM,gK,im]at h<;>first
    | (cases h;done)
    | (split at h<;>simp at h;subst h;first|exact run_eql_bool w _ _ _ (abT (by assumption))|exact run_neq_bool w _ _ _ (abT (by assumption)))
 · cases op<;>simp only[jM,gK,im]at h<;>first
    | (cases h;done)
    | (split at h<;>simp at h;subst h;simp only[binOp];exact run_string_add_sum w _ _ om)
    | (subst h;simp[binOp,Op.stringOp];done)
end
section
open Go.RowKit
open Classical
def jS:aD→C
 | .slice none 0 0=> .nil
 |v=>if flat v then .p (.sc v)else .dead
def ofValue:aD→V1
 | .agg us=>if us.toList.all (·.oneCell')then .agg (us.toList.map jS)else .c .dead
 | .func (.func f) first captured=>if first.size=0∧captured.size=0 then .c (.fn f [])else .c .dead
 |v=> .c (jS v)
section
variable (M:bY) (E:Env) (w:av)
theorem MI (v:aD):RC M E w (jS v) v:=by
 unfold jS;split
 · rfl
 · split
   · exact .sc (by assumption)
   · trivial
theorem anh (v:aD):dq M E w (ofValue v) v:=by
 unfold ofValue;split
 · split
   · rename_i us hall;refine⟨us,rfl,by simp,fun i c hi=> ?_⟩;simp only[bO,aW,IH]at hi;obtain⟨u,h1,rfl⟩:=hi;exact⟨u,h1,MI M E w u,by simp only[bk]at hall;exact hall u (aiv.2 (SD h1))⟩
   · trivial
 · split
   · rename_i f first captured hc
     have h1:first= #[]:=aiw hc.1
     exact⟨captured,by rw[h1],hc.2,fun i n hi=>by simp at hi⟩
   · trivial
 · exact MI M E w v
end
def C.names:C→List Nat
 | .own n=> [n]| .sub n _ _=> [n]| .ptr n _=> [n]| .cB n _ _=> [n]| .mp n=> [n]| .fn _ cQ=>cQ|_=> []
def V1.names:V1→List Nat
 | .c x=>x.names
 | .agg xs=>xs.flatMap C.names
def V.names:V→List Nat
 | .v x=>x.names
 | .aj xs=>xs.flatMap V1.names
def C.nX:C→Bool
 | .dead=>true
 |_=>false
def V.nX:V→Bool
 | .v (.c c)=>c.nX
 |_=>false
def V.live (ao:List Nat) (v:V):Bool:= !v.nX&&v.names.all fun n=> !ao.contains n
def ak.arg (st:ak):aM→Option V
 | .tmp t=>match st.tmps[t]? with
  |some x=>if x.live st.ao then some x else none
  |none=>none
 | .const v=>if(V.v (ofValue v)).live st.ao then some (.v (ofValue v))else none
 | .func f=>some (.v (.c (.fn f [])))
 | .global _=>none
theorem Rel.arg {X:Fx} {E:Env} {st:ak} {a:Act} {w:av} (h:Rel X E st a w) {x:aM} {v:V} (hx:st.arg x=some v):RV X.M E w v (a.eval x)∧v.live st.ao=true:=by
 cases x with
 |tmp t=>
  simp only[ak.arg]at hx;split at hx
  · rename_i y hy;split at hx
    · simp at hx;subst hx;obtain⟨u,h1,h2⟩:=h.tmps t y hy;refine⟨?_,by assumption⟩;simp only[Act.eval,ug,h1,eN];exact h2
    · cases hx
  · cases hx
 |const v'=>
  simp only[ak.arg]at hx;split at hx
  · simp at hx;subst hx;exact⟨anh X.M E w v',by assumption⟩
  · cases hx
 |global g=>cases hx
 |func f=>
  simp only[ak.arg,im]at hx;subst hx;exact⟨⟨#[],by simp[Act.eval],rfl,fun i n hi=>by simp at hi⟩,by rfl⟩
theorem MX {ao:List Nat} {c:C} (h:(V.v (.c c)).live ao=true):c.nX=false∧∀n∈c.names,n∉ao:=by
 simp only[V.live,bt,lO,bk,V.nX]at h;exact⟨h.1,fun n hn hg=>by have:=h.2 n hn;simp[hg]at this⟩
theorem atJ {ao:List Nat} {cs:List C} (h:(V.v (.agg cs)).live ao=true):∀c∈cs,∀n∈c.names,n∉ao:=by
 simp only[V.live,bt,lO,bk]at h;exact fun c hc n hn hg=>by have:=h.2 n (uh.2 ⟨c,hc,hn⟩);simp[hg]at this
theorem bT.get {E:Env} {n:Nat} {Q:Nm→Prop} (h:bT E n Q) (hn:n∉E.ao):∃x,E.N n=some x∧Q x:=h.resolve_left hn
theorem RC.tF {M:bY} {E:Env} {w:av} {c:C} {v:aD} (h:RC M E w c v) (hd:c.nX=false) (hn:∀n∈c.names,n∉E.ao):v.oneCell'=true:=by
 cases c with
 |p q=>exact RP.tF h
 |nil=>cases h;rfl
 |own n=>obtain⟨x,_,rfl⟩:=bT.get h (hn n (by simp[C.names]));rfl
 |sub n lo len=>
  obtain⟨x,_,_,A,rfl,_⟩:=bT.get h (hn n (by simp[C.names]));rfl
 |ptr n off=>obtain⟨x,_,g,_,rfl⟩:=bT.get h (hn n (by simp[C.names]));rfl
 |cB n i j=>obtain⟨x,_,_,g,_,rfl⟩:=bT.get h (hn n (by simp[C.names]));rfl
 |ref cells=>obtain⟨g,o,rfl,_⟩:=h;rfl
 |fn f cQ=>obtain⟨us,rfl,_⟩:=h;rfl
 |mp n=>obtain⟨x,_,g,_,rfl⟩:=bT.get h (hn n (by simp[C.names]));rfl
 |dead=>cases hd
def V1.cells:V1→List C
 | .c x=> [x]
 | .agg xs=>xs
theorem amS {v:aD} (h:v.oneCell'=true):v.cells= #[v]:=by cases v<;>simp_all [Value.cells,Value.oneCell']
theorem dq.cells {M:bY} {E:Env} {w:av} {x:V1} {v:aD} (h:dq M E w x v) (hl:(V.v x).live E.ao=true):
  v.cells.size=x.cells.length∧∀(i:Nat) (c:C),x.cells[i]? =some c→∃u,v.cells[i]? =some u∧RC M E w c u∧u.oneCell'=true:=by
 cases x with
 |c c=>
  obtain⟨h2,h3⟩:=MX hl;have h1:=RC.tF h h2 h3;rw[amS h1];refine⟨rfl,fun i c' hi=> ?_⟩
  cases i with
  |zero=>simp[V1.cells]at hi;subst hi;exact⟨v,rfl,h,h1⟩
  |succ i=>simp[V1.cells]at hi
 |agg cs=>
  obtain⟨us,rfl,h2,h3⟩:=h;exact⟨h2,h3⟩
def ak.view (st:ak):C→Option (List (List PV))
 | .p (.sl rows)=>some rows
 | .nil=>some []
 | .own n=>match st.heap.lookup n with
  |some (.row _ rows)=>some rows
  |_=>none
 | .sub n lo len=>match st.heap.lookup n with
  |some (.row _ rows)=>some ((rows.drop lo).take len)
  |_=>none
 |_=>none
theorem Rel.row {X:Fx} {E:Env} {st:ak} {a:Act} {w:av} (h:Rel X E st a w) {n:Nat} (hn:n∉st.ao) {b:cO} (hl:st.heap.lookup n=some b):RB X.P X.M E w n b:=(h.heap n b hl).resolve_left hn
theorem N8 {M:bY} {w:av} {g o cap sz:Nat} {cur:Array aD} {e:aw} {fz:Nat×Nat} {rows:List (List PV)} (hg:w.heap[g]? =some (.cells cur e fz)) (hl:rows.length≤cap) (hm:cap≤maxLen) (hR:eA sz rows)
   (hc:∀(i:Nat) (r:List PV) (j:Nat) (p:PV),rows[i]? =some r→r[j]? =some p→∃u,cur[o+i*sz+j]? =some u∧RP M w p u):Rows M w rows (.slice (some ⟨g,o,none⟩) rows.length cap):=by
 by_cases h0:rows=[]
 · subst h0;exact .inl ⟨rfl,_,_,rfl⟩
 · refine .inr ⟨g,o,cap,sz,fun i j=> (cur[o+i*sz+j]?).getD undef,rfl,h0,hl,hm,hR,fun i r j p hi hj=> ?_⟩;obtain⟨u,h1,h2⟩:=hc i r j p hi hj;simp only[cell_of_row w g _ cur e fz hg,h1,eN];simp_all
theorem Rel.view {X:Fx} {E:Env} {st:ak} {a:Act} {w:av} (h:Rel X E st a w) {c:C} {v:aD} {rows:List (List PV)} (hc:RC X.M E w c v) (hn:∀n∈c.names,n∉st.ao) (hv:st.view c=some rows):
  Rows (bad X.M E) w rows v:=by
 cases c with
 |p q=>
  cases q with
  |sc u=>simp[ak.view]at hv
  |sl rs=>simp[ak.view]at hv;subst hv;exact RP.rows hc
 |nil=>simp[ak.view]at hv;subst hv;cases hc;exact .inl ⟨rfl,_,_,rfl⟩
 |own n=>
  have cZ:=hn n (by simp[C.names]);simp only[ak.view]at hv;split at hv
  · rename_i e rs hl;simp at hv;subst hv;obtain⟨x,cur,fz,h1,ca,h2,h3,h4,h5,h6,_,h7,h8,h10,h9⟩:=h.row cZ hl;obtain⟨y,k1,rfl⟩:=bT.get hc (by rw[h.ao];exact cZ);rw[h1]at k1;cases k1
    cases hg:x.g with
    | none=>
      have:=h10 hg;have h0:x.len=0:=om;rw[h0];exact .inl ⟨iq om,_,_,rfl⟩
    | some g=>
      rw[h3];exact N8 (h2 g hg) om h5 h8 (fun i r j p hi hj=>by simp_all)
  · cases hv
 |sub n lo len=>
  have cZ:=hn n (by simp[C.names]);simp only[ak.view]at hv;split at hv
  · rename_i e rs hl;simp at hv;subst hv;obtain⟨x,cur,fz,h1,ca,h2,h3,h4,h5,h6,_,h7,h8,h10,h9⟩:=h.row cZ hl;obtain⟨y,k1,k2,A,rfl,k4⟩:=bT.get hc (by rw[h.ao];exact cZ);rw[h1]at k1;cases k1;have hlen:((rs.drop lo).take len).length=len:=by simp;omega
    by_cases h0:len=0
    · subst h0;exact .inl ⟨by simp,_,_,rfl⟩
    · cases hg:x.g with
      |none=>simp_all
      |some g=>
      rw[k4 (.inl om),hg];simp only[aJ]
      conv=>rhs;rw[←hlen]
      refine N8 (h2 g hg) om om (fun r hr=>h8 r (oR (hU hr))) (fun i r j p hi hj=> ?_);rw[jD]at hi;split at hi
      · rw[kP]at hi;have:=h9 _ r j p hi hj;rw[iO]at this;simpa using this
      · cases hi
  · cases hv
 |ptr=>cases hv
 |cB=>cases hv
 |ref=>cases hv
 |fn=>cases hv
 |mp=>cases hv
 |dead=>cases hv
def db (P:aQ) (t:aw):Nat:=P.cellsOf t
def oi (P:aQ) (t:aw):Bool:=match P.underlying t with|some (.struct _)|some (.array _ _)=>true|_=>false
def A_ (P:aQ) (t:aw) (f:Nat):Option Nat:=
 match P.underlying t with
 | some (.struct fs)=>match fs[f]? with
  |some fd=>match P.info? fd.type with
   |some i=>if i.size=0 then none else some fd.offset
   |none=>none
  |none=>none
 |_=>none
def eL (P:aQ) (t:aw):Option aw:=match P.underlying t with|some (.slice e)=>if(P.info? e).isSome then some e else none|_=>none
def la (P:aQ) (t:aw):Option (Nat×aw):=match P.underlying t with|some (.array n e)=>if(P.info? e).isSome then some (n,e)else none|_=>none
def GQ (P:aQ) (t:aw):Option bS:=match P.underlying t with|some (.int k)=>some k|_=>none
def qg (P:aQ) (t:aw):Option (List C):=match P.info? t with
 |some i=>match i.zero with
  |some z=>if z.cells.toList.all (·.oneCell')then some (z.cells.toList.map jS)else none
  |none=>none
 |none=>none
def Bh (P:aQ) (t:aw):Bool:=(P.underlying t).isSome
def mU (P:aQ) (t:aw):Bool:=(P.info? t).isSome
def kq (P:aQ) (t:aw) (cs:List C):Option V:=
 if oi P t then(if db P t≤cs.length∧mU P t=true then some (.v (.agg (cs.take (db P t))))else none)
 else match Bh P t,cs with
  |true,c::_=>some (.v (.c c))
  |_,_=>none
theorem Hy {P:aQ} {t:aw} (w:av) {d:TypeDesc} (h:P.underlying t=some d):(isAgg t).run P w= .ok (oi P t) w:=by
 unfold isAgg oi;rw[h];simp only[Sem.run_bind,run_underlying h,Result.andThen_ok];cases d<;>rfl
theorem run_sizeOf {P:aQ} {t:aw} (w:av) (h:(P.info? t).isSome=true):(sizeOf t).run P w= .ok (db P t) w:=by
 obtain⟨i,hi⟩:=zu.1 h;simp[sizeOf,typeInfo,hi,db,Program.cellsOf]
theorem ox (g o k:Nat):(⟨g,o,none⟩:Addr).add k=⟨g,o+k,none⟩:=by unfold Addr.add;simp_all
theorem ZQ {P:aQ} {t:aw} (h:oi P t=true):∃d,P.underlying t=some d:=by
 unfold oi at h
 cases hd:P.underlying t with
 |none=>rw[hd]at h;cases h
 |some d=>exact⟨d,rfl⟩
theorem awB {P:aQ} {M:bY} {E:Env} {w:av} {t:aw} {off:Nat} {cs:List C} {us:Array aD} {v:V} (hr:kq P t (cs.drop off)=some v) (hs:us.size=cs.length)
   (hc:∀(i:Nat) (c:C),cs[i]? =some c→∃u,us[i]? =some u∧RC M E w c u∧u.oneCell'=true):
   ∃u,(part t us off).run P w= .ok u w∧RV M E w v u:=by
 unfold kq at hr;split at hr
 · rename_i hagg;split at hr
   · rename_i bj;cases hr;obtain⟨d,hd⟩:=ZQ hagg;have hlen:off+db P t≤us.size∨db P t=0:=by
       have:=bj.1;rw[fw]at this;omega
     refine⟨.agg (us.extract off (off+db P t)),?_,_,rfl,?_,?_⟩
     · unfold part;simp only[Sem.run_bind,Hy w hd,hagg,Result.andThen_ok,if_true,run_sizeOf w bj.2,Sem.run_pure]
     · have:=bj.1;rw[fw]at this;simp only[Array.size_extract,dX,fw];omega
     · intro i c hi;rw[jD]at hi;split at hi
       · rename_i hlt;rw[kP]at hi;obtain⟨u,h1,h2⟩:=hc _ c hi;refine⟨u,?_,h2⟩;rw[Array.getElem?_extract];obtain⟨h3,_⟩:=dY.1 h1;rw[au om];exact h1
       · cases hi
   · cases hr
 · rename_i hagg;split at hr
   · rename_i c l hd hcs;cases hr;obtain⟨d,hd⟩:=zu.1 hd;have h0:cs[off]? =some c:=by
       have:(cs.drop off)[0]? =some c:=by rw[hcs];rfl
       rw[kP]at this;simpa using this
     obtain⟨u,h1,h2,_⟩:=hc off c h0;refine⟨u,?_,h2⟩;unfold part;simp_all[oi,Hy,lP,if_false]
   · cases hr
theorem G8 {P:aQ} {M:bY} {E:Env} {w:av} {t:aw} {g o:Nat} {cs:List C} {v:V} (hr:kq P t cs=some v)
   (hc:∀(j:Nat) (c:C),cs[j]? =some c→∃u,w.cell? ⟨g,o+j,none⟩=some u∧RC M E w c u∧u.oneCell'=true):
   ∃u,(loadVar t ⟨g,o,none⟩).run P w= .ok u w∧RV M E w v u:=by
 unfold kq at hr;split at hr
 · rename_i hagg;split at hr
   · rename_i bj;simp at hr;subst hr;obtain⟨d,hd⟩:=ZQ hagg;have hex:∀j,j<db P t→∃u,w.cell? ⟨g,o+j,none⟩=some u∧∀c,cs[j]? =some c→RC M E w c u∧u.oneCell'=true:=by
       intro j hj;obtain⟨u,h1,h2,h3⟩:=hc j _ (bX (nP hj bj.1));exact⟨u,h1,fun c hcc=>by rw[bX (nP hj bj.1)]at hcc;cases hcc;exact⟨h2,h3⟩⟩
     have hrun:=run_loadCells (P:=P) w ⟨g,o,none⟩ (db P t) (fun j=> (w.cell? ⟨g,o+j,none⟩).getD undef) (fun j hj=>by
       obtain⟨u,h1,_⟩:=hex j hj;rw[ox];simp[h1])
     refine⟨.agg ((List.range (db P t)).map fun j=> (w.cell? ⟨g,o+j,none⟩).getD undef).toArray,?_,_,rfl,?_,?_⟩
     · unfold loadVar;simp only[Sem.run_bind,Hy w hd,hagg,Result.andThen_ok,if_true,run_sizeOf w bj.2,hrun,Sem.run_pure]
     · simp;omega
     · intro i c hi;rw[jD]at hi;split at hi
       · rename_i hlt;obtain⟨u,h1,h2⟩:=hex i hlt;exact⟨u,by simp[hlt,h1],h2 c hi⟩
       · cases hi
   · cases hr
 · rename_i hagg;split at hr
   · rename_i c l hd;simp at hr;subst hr;obtain⟨d,hd⟩:=zu.1 hd;obtain⟨u,h1,h2,_⟩:=hc 0 c rfl;refine⟨u,?_,h2⟩;unfold loadVar;simp_all[oi,Hy,lP,if_false]
   · cases hr
abbrev V.sc (v:aD):V:= .v (.c (.p (.sc v)))
abbrev V.c (c:C):V:= .v (.c c)
noncomputable def qF (P:aQ) (st:ak) (t:aw) (x:aM):Option V:=
 match st.arg x with
 |some (.v (.c (.ptr n off)))=>match st.heap.lookup n with
  |some (.box cs)=>kq P t (cs.drop off)
  |_=>none
 | some (.v (.c (.cB n i j)))=>match st.heap.lookup n with
  |some (.row _ rows)=>match rows[i]? with
   |some r=>kq P t ((r.drop j).map .p)
   |none=>none
  |_=>none
 |some (.v (.c (.ref cells)))=>kq P t (cells.map .p)
 |_=>none
section
variable {X:Fx} {E:Env} {st:ak} {a:Act} {w:av}
theorem Rel.bU (h:Rel X E st a w) {x:aM} {c:C} (hx:st.arg x=some (.v (.c c))):RC X.M E w c (a.eval x)∧c.nX=false∧∀n∈c.names,n∉st.ao:=⟨(h.arg hx).1,MX (h.arg hx).2⟩
theorem Rel.gQ (h:Rel X E st a w) {x:aM} {c:C} (hx:st.arg x=some (.v (.c c))) {n:Nat} (hn:n∈c.names):n∉E.ao:=by rw[h.ao];exact(h.bU hx).2.2 n hn
theorem avE (h:Rel X E st a w) {t:aw} {x:aM} {v:V}
   (he:qF X.P st t x=some v):∃u,(Instr.loadAt t (a.eval x)).run X.P w= .ok u w∧RV X.M E w v u:=by
 unfold qF at he;split at he
 · rename_i n off hx;have hn:=h.gQ hx (n:=n) (by simp[C.names]);obtain⟨y,h1,g,hg,h2⟩:=bT.get (h.bU hx).1 hn;split at he
   · rename_i cs hl;obtain⟨x',g',cur,e,h3,Cy,h4,h5,h6⟩:=h.row (by rw[←h.ao];exact hn) hl;rw[h1]at h3;cases h3;rw[hg]at Cy;cases Cy;obtain⟨u,h8,h9⟩:=G8 (P:=X.P) (M:=X.M) (E:=E) (w:=w) (g:=g) (o:=off) he (fun j c hj=>by
       rw[kP]at hj;obtain⟨u,k1,k2,k3⟩:=h6 _ c hj;exact⟨u,by rw[cell_of_row w g _ cur e (0,0) h4];exact k1,k2,k3⟩)
     refine⟨u,?_,h9⟩;rw[h2];simpa[Instr.loadAt,Instr.sureAddr]using h8
   · cases he
 · rename_i n i j hx;have hn:=h.gQ hx (n:=n) (by simp[C.names]);obtain⟨y,h1,hi,g,hg,h2⟩:=bT.get (h.bU hx).1 hn;split at he
   · rename_i e rows hl;obtain⟨x',cur,fz,h3,ca,h4,_,_,_,_,_,_,_,_,h6⟩:=h.row (by rw[←h.ao];exact hn) hl;rw[h1]at h3;cases h3;split at he
     · rename_i r hr;obtain⟨u,h8,h9⟩:=G8 (P:=X.P) (M:=X.M) (E:=E) (w:=w) (g:=g) (o:=i*y.sz+j) he (fun k c hj=>by
        simp only[bO,aW,kP]at hj;obtain⟨p,hp,rfl⟩:=hj;obtain⟨u,k1,k2⟩:=h6 i r (j+k) p hr hp;exact⟨u,by rw[cell_of_row w g _ cur e fz (h4 g hg),rQ];exact k1,k2,k2.tF⟩)
       refine⟨u,?_,h9⟩;rw[h2];simpa[Instr.loadAt,Instr.sureAddr]using h8
     · cases he
   · cases he
 · rename_i cells hx;obtain⟨⟨g,o,h1,h2⟩,_⟩:=h.bU hx;obtain⟨u,h8,h9⟩:=G8 (P:=X.P) (M:=X.M) (E:=E) (w:=w) (g:=g) (o:=o) he (fun j c hj=>by
     simp only[bO,aW]at hj;obtain⟨p,hp,rfl⟩:=hj;obtain⟨u,k1,k2,k3⟩:=h2 j p hp;exact⟨u,k1,k3,k3.tF⟩)
   refine⟨u,?_,h9⟩;rw[h1];simpa[Instr.loadAt,Instr.sureAddr]using h8
 · cases he
noncomputable def qS (P:aQ) (st:ak) (t:aw) (x:aM) (f:Nat):Option V:=
 match st.arg x,A_ P t f with
 |some (.v (.c (.ptr n off))),some k=>some (.c (.ptr n (off+k)))
 |some (.v (.c (.cB n i j))),some k=>some (.c (.cB n i (j+k)))
 |some (.v (.c (.ref cells))),some k=>some (.c (.ref (cells.drop k)))
 |_,_=>none
theorem Re {P:aQ} {t:aw} {f k:Nat} (h:A_ P t f=some k) (g o:Nat) (w:av):
   (Instr.fieldAt t (.pointer (some ⟨g,o,none⟩)) f).run P w= .ok (.pointer (some ⟨g,o+k,none⟩)) w:=by
 unfold A_ at h;split at h
 · rename_i fs hu;split at h
   · rename_i fd hf;split at h
     · rename_i i hi;split at h
       · cases h
       · rename_i bj;simp at h;subst h;simp[Instr.fieldAt,run_underlying hu,hf,Instr.sureAddr,fieldPlace,sizeOf,typeInfo,hi,bj,ox]
     · cases h
   · cases h
 · cases h
theorem RC.YT {M:bY} {cells:List PV} {g o:Nat} (h:∀(j:Nat) (p:PV),cells[j]? =some p→∃u,w.cell? ⟨g,o+j,none⟩=some u∧¬bad M E g∧RP (bad M E) w p u) (k:Nat):
  RC M E w (.ref (cells.drop k)) (.pointer (some ⟨g,o+k,none⟩)):=
 ⟨g,o+k,rfl,fun j p hj=>by rw[kP]at hj;rw[rQ];exact h _ p hj⟩
theorem avc (h:Rel X E st a w) {t:aw} {x:aM} {f:Nat} {v:V}
   (he:qS X.P st t x f=some v):∃u,(Instr.fieldAt t (a.eval x) f).run X.P w= .ok u w∧RV X.M E w v u:=by
 unfold qS at he;split at he
 · rename_i n off k hx hk;obtain⟨y,h1,g,hg,h2⟩:=bT.get (h.bU hx).1 (h.gQ hx (n:=n) (by simp[C.names]));simp at he;subst he;exact⟨_,by simp_all[Re],.inr ⟨y,h1,g,hg,rfl⟩⟩
 · rename_i n i j k hx hk;obtain⟨y,h1,h2,g,hg,h3⟩:=bT.get (h.bU hx).1 (h.gQ hx (n:=n) (by simp[C.names]));simp at he;subst he;exact⟨_,by rw[h3];exact Re hk g _ w,.inr ⟨y,h1,h2,g,hg,by simp_all⟩⟩
 · rename_i cells k hx hk;obtain⟨⟨g,o,h1,h2⟩,_⟩:=h.bU hx;simp at he;subst he;exact⟨_,by simp_all[Re],RC.YT h2 k⟩
 · cases he
theorem D0 {P:aQ} {t:aw} {n:Nat} {e:aw} (h:la P t=some (n,e)):P.underlying t=some (.array n e)∧(P.info? e).isSome=true:=by
 unfold la at h;split at h
 · split at h
   · simp at h;obtain⟨rfl,rfl⟩:=h;exact⟨by assumption,by assumption⟩
   · cases h
 · cases h
theorem ph {P:aQ} {t e:aw} (h:eL P t=some e):P.underlying t=some (.slice e)∧(P.info? e).isSome=true:=by
 unfold eL at h;split at h
 · split at h
   · simp at h;subst h;exact⟨by assumption,by assumption⟩
   · cases h
 · cases h
theorem K7 {P:aQ} {t:aw} {n:Nat} {e:aw} (h:la P t=some (n,e)) (g o:Nat) (k:bS) {i:Int} (hi:0≤i∧i<n) (w:av):
  (Instr.indexAt t (.pointer (some ⟨g,o,none⟩)) (.int k i)).run P w= .ok (.pointer (some ⟨g,o+i.toNat*db P e,none⟩)) w:=by
 obtain⟨h1,h2⟩:=D0 h;simp[Instr.indexAt,run_underlying h1,asIntOf,Instr.sureAddr,hi,run_sizeOf w h2,ox]
theorem Ml {P:aQ} {t e:aw} (h:eL P t=some e) (g o n cap:Nat) (k:bS) {i:Int} (hi:0≤i∧i<n) (w:av):
  (Instr.indexAt t (.slice (some ⟨g,o,none⟩) n cap) (.int k i)).run P w= .ok (.pointer (some ⟨g,o+i.toNat*db P e,none⟩)) w:=by
 obtain⟨h1,h2⟩:=ph h;simp[Instr.indexAt,run_underlying h1,asIntOf,hi,run_sizeOf w h2,ox]
def ak.elem (st:ak) (size i:Nat):C→Option C
 | .own n=>match st.heap.lookup n with
  |some (.row _ rows)=>match rows[i]? with
   |some r=>if r.length=size then some (.cB n i 0)else none
   |none=>none
  |_=>none
 | .sub n lo len=>match st.heap.lookup n with
  |some (.row _ rows)=>match rows[lo+i]? with
   |some r=>if r.length=size∧i<len then some (.cB n (lo+i) 0)else none
   |none=>none
  |_=>none
 | .p (.sl rows)=>match rows[i]? with
  |some r=>if r.length=size then some (.ref r)else none
  |none=>none
 |_=>none
noncomputable def nF (P:aQ) (st:ak) (t:aw) (x i:aM):Option V:=
 match st.arg i with
 | some (.v (.c (.p (.sc (.int _ i)))))=>match st.arg x with
  |some (.v (.c (.ptr n off)))=>match la P t with
   |some (m,e)=>gK (0≤i∧i<m) (some (.c (.ptr n (off+i.toNat*db P e))))
   |none=>none
  |some (.v (.c (.cB n r j)))=>match la P t with
   |some (m,e)=>gK (0≤i∧i<m) (some (.c (.cB n r (j+i.toNat*db P e))))
   |none=>none
  |some (.v (.c (.ref cells)))=>match la P t with
   |some (m,e)=>gK (0≤i∧i<m) (some (.c (.ref (cells.drop (i.toNat*db P e)))))
   |none=>none
  |some (.v (.c c))=>match eL P t with
   |some e=>gK (0≤i) ((st.elem (db P e) i.toNat c).map V.c)
   |none=>none
  |_=>none
 |_=>none
theorem aEB (h:Rel X E st a w) {t:aw} {x i:aM} {v:V}
   (he:nF X.P st t x i=some v):∃u,(Instr.indexAt t (a.eval x) (a.eval i)).run X.P w= .ok u w∧RV X.M E w v u:=by
 unfold nF gK at he;split at he
 · rename_i k i' hi;have h3:=RP.dv (h.bU hi).1;split at he
   · rename_i n off hx;obtain⟨y,h1,g,hg,h2⟩:=bT.get (h.bU hx).1 (h.gQ hx (n:=n) (by simp[C.names]));split at he
     · rename_i m e ht;split at he
       · simp at he;subst he;exact⟨_,by rw[h2,h3];exact K7 ht g off k (by assumption) w,.inr ⟨y,h1,g,hg,rfl⟩⟩
       · cases he
     · cases he
   · rename_i n r j hx;obtain⟨y,h1,h4,g,hg,h2⟩:=bT.get (h.bU hx).1 (h.gQ hx (n:=n) (by simp[C.names]));split at he
     · rename_i m e ht;split at he
       · simp at he;subst he;exact⟨_,by rw[h2,h3];exact K7 ht g _ k (by assumption) w,.inr ⟨y,h1,h4,g,hg,by simp_all⟩⟩
       · cases he
     · cases he
   · rename_i cells hx;obtain⟨⟨g,o,h1,h2⟩,_⟩:=h.bU hx;split at he
     · rename_i m e ht;split at he
       · simp at he;subst he;exact⟨_,by rw[h1,h3];exact K7 ht g o k (by assumption) w,RC.YT h2 _⟩
       · cases he
     · cases he
   · rename_i c _ _ _ hx;have hc:=(h.bU hx).1;split at he
     · rename_i e ht;split at he
       · rename_i h0;simp only[aW]at he;obtain⟨c',he,rfl⟩:=he
         cases c with
         | own n =>
           simp only[ak.elem]at he;have hn:=h.gQ hx (n:=n) (by simp[C.names]);obtain⟨y,h1,h2⟩:=bT.get hc hn;split at he
           · rename_i e' rows hl;obtain⟨x',cur,fz,k3,ca,k4,k5,k6,k7,k8,_,k9,ik,lE,_⟩:=h.row (by rw[←h.ao];exact hn) hl;rw[h1]at k3;cases k3;split at he
             · rename_i r hr;split at he
               · rename_i hrl;simp at he;subst he;have hlt:=(cN.1 hr).1;have bj:y.sz=db X.P e:=by rw[←hrl];exact(ik r (cH hr)).symm
                 cases hg:y.g with
                 |none=>simp_all
                 |some g=>
                  rw[hg]at h2;refine⟨_,by rw[h2,h3];exact Ml ht g 0 y.len y.cap k om w,.inr ⟨y,h1,om,g,hg,by rw[bj];simp⟩⟩
               · cases he
             · cases he
           · cases he
         | sub n lo len=>
           simp only[ak.elem]at he;have hn:=h.gQ hx (n:=n) (by simp[C.names]);obtain⟨y,h1,h2,A,h4,h5⟩:=bT.get hc hn;split at he
           · rename_i e' rows hl;obtain⟨x',cur,fz,k3,ca,k4,k5,k6,k7,k8,_,k9,ik,lE,_⟩:=h.row (by rw[←h.ao];exact hn) hl;rw[h1]at k3;cases k3;split at he
             · rename_i r hr;split at he
               · rename_i hrl;simp at he;subst he;have hlt:=(cN.1 hr).1;have bj:y.sz=db X.P e:=by rw[←hrl.1];exact(ik r (cH hr)).symm
                 have lF:y.cap≠lo:=om
                 cases hg:y.g with
                 |none=>simp_all
                 |some g=>
                 rw[h5 (.inl lF),hg]at h4;refine⟨_,by rw[h4,h3];exact Ml ht g (lo*y.sz) len (y.cap-lo) k om w,.inr ⟨y,h1,om,g,hg,by rw[bj,iO];simp⟩⟩
               · cases he
             · cases he
           · cases he
         | p q =>
          cases q with
          |sc=>cases he
          | sl rows=>
           simp only[ak.elem]at he;split at he
           · rename_i r hr;split at he
             · rename_i hrl;simp at he;subst he;have hlt:=(cN.1 hr).1;generalize a.eval x=u at hc
               cases hc with
               |nil=>simp at hr
               | @row _ g o cap sz f oC hl hm hs hcc tI=>
                 have bj:sz=db X.P e:=by rw[←hrl];exact(hs r (cH hr)).symm
                 refine⟨_,by rw[h3];exact Ml ht g o _ cap k om w,g,_,rfl,fun j p hj=> ?_⟩;rw[←bj];exact⟨_,(hcc _ r j p hr hj).1,(hcc _ r j p hr hj).2,tI _ r j p hr hj⟩
             · cases he
           · cases he
         |_=>cases he
       · cases he
     · cases he
   · cases he
 · cases he
end
theorem aeD {P:aQ} (isSlice:Bool) (len cap:Nat) (lo hi:Option aD) {l h:Int} (dr:lo=none∧l=0∨∃k,lo=some (.int k l)) (eC:hi=none∧h=len∨∃k,hi=some (.int k h))
   (h0:0≤l) (h1:l≤h) (h2:h≤cap) (w:av):(Instr.sliceBounds isSlice len cap lo hi none).run P w= .ok (l.toNat,h.toNat,cap) w:=by
 have e1:∀(k:bS) (y:Nat) (c:BoundsCode) (i:Int),0≤i→i≤y→(Instr.sliceBound (.int k i) y c).run P w= .ok i.toNat w:=by
   intro k y c i hi0 il;simp[Instr.sliceBound,asIntOf,hi0,il]
 rcases dr with⟨rfl,rfl⟩| ⟨k,rfl⟩<;>rcases eC with⟨rfl,rfl⟩| ⟨k',rfl⟩
 · rfl
 · simp[Instr.sliceBounds,e1 k' cap _ h om h2]
 · simp[Instr.sliceBounds,e1 k len _ l h0 h1]
 · simp[Instr.sliceBounds,e1 k' cap _ h om h2,e1 k h.toNat _ l h0 om]
noncomputable def ak.part (st:ak) (size l h:Nat):C→Option C
 | .own n=>match st.heap.lookup n with
  |some (.row _ rows)=>if h≤rows.length∧(∀r,rows[0]? =some r→r.length=size)then some (.sub n l (h-l))else none
  |_=>none
 | .sub n lo len=>match st.heap.lookup n with
  |some (.row _ rows)=>if h≤len∧(∀r,rows[0]? =some r→r.length=size)then some (.sub n (lo+l) (h-l))else none
  |_=>none
 | .p (.sl rows)=>if h≤rows.length∧eA size rows then some (.p (.sl ((rows.take h).drop l)))else none
 | .nil=>if h=0 then some .nil else none
 |_=>none
def ak.num (st:ak) (o:Option aM) (d:Int):Option Int:=match o with
 |none=>some d
 |some o=>match st.arg o with
  |some (.v (.c (.p (.sc (.int _ i)))))=>some i
  |_=>none
def ak.nw (st:ak):C→Option Nat
 | .sub _ _ len=>some len
 |c=> (st.view c).map (·.length)
noncomputable def lq (P:aQ) (st:ak) (t:aw) (x:aM) (lo hi:Option aM):Option V:=
 match st.arg x with
 |some (.v (.c (.p (.sc (.string s)))))=>match st.num lo 0,st.num hi s.size,P.underlying t with
  |some l,some h,some .string=>gK (0≤l∧l≤h∧h≤s.size) (some (.sc (.string (s.extract l.toNat h.toNat))))
  |_,_,_=>none
 | some (.v (.c c))=>match st.nw c,eL P t with
  |some n,some e=>match st.num lo 0,st.num hi n with
   |some l,some h=>gK (0≤l∧l≤h) ((st.part (db P e) l.toNat h.toNat c).map V.c)
   |_,_=>none
  |_,_=>none
 |_=>none
theorem RP.slice {M:bY} {w:av} {rows:List (List PV)} {A:Option Addr} {n cap size:Nat} (hr:RP M w (.sl rows) (.slice A n cap)) (hR:eA size rows) {l h:Nat} (h1:l≤h) (h2:h≤rows.length):
   RP M w (.sl ((rows.take h).drop l)) (.slice (if cap=l then A else A.map (·.add (l*size))) (h-l) (cap-l)):=by
 by_cases Rj:l=h
 · subst Rj;have:(rows.take l).drop l=[]:=by simp
   rw[this,II];exact .nil
 · cases hr with
   |nil=>simp at h2;omega
   | @row _ g o cap sz f h0 hl hm hs hcc tI=>
    have hlen:((rows.take h).drop l).length=h-l:=by simp;omega
    have bj:∀r∈rows,sz=size:=fun r hr=>by rw[←hs r hr];exact hR r hr
    have hne:cap≠l:=om;rw[aE hne,←hlen];simp only[aJ,ox];have hg:∀(i:Nat) (r:List PV),((rows.take h).drop l)[i]? =some r→rows[l+i]? =some r:=by
      intro i r hi;rw[kP,jD]at hi;split at hi
      · exact hi
      · cases hi
    have df:∀(i:Nat) (r:List PV) (j:Nat),((rows.take h).drop l)[i]? =some r→o+l*size+i*sz+j=o+(l+i)*sz+j:=by
      intro i r j hi;have:=bj r (cH (hg i r hi));subst this;rw[iO];omega
    refine RP.row (sz:=sz) (f:=fun i j=>f (l+i) j) (by intro h3;rw[h3]at hlen;simp at hlen;omega) (by rw[hlen];omega) om (fun r hr=>hs r (hU (oR hr))) ?_ ?_
    · intro i r j p hi hj;rw[df i r j hi];exact hcc (l+i) r j p (hg i r hi) hj
    simp_all
section
variable {X:Fx} {E:Env} {st:ak} {a:Act} {w:av}
theorem Bi (h:Rel X E st a w) {o:Option aM} {d l:Int} (he:st.num o d=some l):o.map a.eval=none∧l=d∨∃k,o.map a.eval=some (.int k l):=by
 cases o with
 |none=>simp[ak.num]at he;simp_all
 |some o=>
  simp only[ak.num]at he;split at he
  · rename_i k i hx;simp at he;subst he;exact .inr ⟨k,by simp[RP.dv (h.bU hx).1]⟩
  · cases he
theorem akl (h:Rel X E st a w) {t:aw} {x:aM} {lo hi:Option aM} {v:V}
   (he:lq X.P st t x lo hi=some v):∃u,(Instr.sliceAt t (a.eval x) (lo.map a.eval) (hi.map a.eval) none).run X.P w= .ok u w∧RV X.M E w v u:=by
 unfold lq gK at he;split at he
 · rename_i s hx;have h3:=RP.dv (h.bU hx).1;split at he
   · rename_i l hh dr eC hu;split at he
     · rename_i hb;simp at he;subst he;have h4:=aeD (P:=X.P) false s.size s.size (lo.map a.eval) (hi.map a.eval) (Bi h dr) (Bi h eC) hb.1 hb.2.1 hb.2.2 w;refine⟨_,?_,.sc rfl⟩;rw[h3];simp[Instr.sliceAt,Instr.slice,run_underlying hu,h4]
     · cases he
   · cases he
 · rename_i c _ hx;have hc:=(h.bU hx).1;split at he
   · rename_i n e hp ht;obtain⟨hu,kG⟩:=ph ht;split at he
     · rename_i l hh dr eC;split at he
       · rename_i hb;simp only[aW]at he;obtain⟨c',he,rfl⟩:=he;have key:∀(A:Option Addr) (m cap:Nat),a.eval x= .slice A m cap→(hi=none→(m:Int)=n)→hh≤cap→
             (Instr.sliceAt t (a.eval x) (lo.map a.eval) (hi.map a.eval) none).run X.P w= .ok (.slice (if cap=l.toNat then A else A.map (·.add (l.toNat*db X.P e))) (hh.toNat-l.toNat) (cap-l.toNat)) w:=by
           intro A m cap bG hm lF;have h4:=aeD (P:=X.P) true m cap (lo.map a.eval) (hi.map a.eval) (Bi h dr) (by
             rcases Bi h eC with⟨k1,k2⟩|k1
             · simp_all
             · exact .inr k1) hb.1 hb.2 lF w
           rw[bG];simp[Instr.sliceAt,Instr.slice,run_underlying hu,h4,run_sizeOf w kG,db]
         cases c with
         | own nn =>
           simp only[ak.part]at he;have hn:=h.gQ hx (n:=nn) (by simp[C.names]);obtain⟨y,k1,k2⟩:=bT.get hc hn;split at he
           · rename_i e' rows hl;obtain⟨x',cur,fz,k3,ca,k4,k5,k6,k7,k8,_,k9,ik,lE,_⟩:=h.row (by rw[←h.ao];exact hn) hl;rw[k1]at k3;cases k3;split at he
             · rename_i jA;simp at he;subst he;have eW:n=rows.length:=by simp[ak.nw,ak.view,hl]at hp;exact hp.symm
               refine⟨_,key _ _ _ k2 (fun _=>by omega) om,.inr ⟨y,k1,om,_,rfl,fun lF=> ?_⟩⟩;by_cases hc0:y.cap=l.toNat
               · have hl0:l.toNat=0:=om;rw[au hc0,hl0];simp
               · rw [aE hc0];have bj:l.toNat*db X.P e=l.toNat*y.sz:=by
                  by_cases Cz:rows=[]
                  · subst Cz;have:l.toNat=0:=by simp at jA;omega
                    rw[this];simp
                  · obtain⟨r,rs,rfl⟩:=SE Cz;rw[←jA.2 r rfl,ik r (by simp)]
                 cases y.g<;>simp[ox,bj]
             · cases he
           · cases he
         | sub nn l0 len=>
           simp only[ak.part]at he;have hn:=h.gQ hx (n:=nn) (by simp[C.names]);obtain⟨y,k1,k13,A,k2,k12⟩:=bT.get hc hn;split at he
           · rename_i e' rows hl;obtain⟨x',cur,fz,k3,ca,k4,k5,k6,k7,k8,_,k9,ik,lE,_⟩:=h.row (by rw[←h.ao];exact hn) hl;rw[k1]at k3;cases k3;split at he
             · rename_i jA;simp at he;subst he;have eW:n=len:=by simp[ak.nw]at hp;exact hp.symm
               refine⟨_,key _ _ _ k2 (fun _=>by omega) om,.inr ⟨y,k1,om,_,by rw[Nat.sub_sub],fun lF=> ?_⟩⟩;have hA:=k12 om;subst hA;by_cases hc0:y.cap-l0=l.toNat
               · have hl0:l0=0∧l.toNat=0:=om;rw[au hc0,hl0.1,hl0.2]
               · rw [aE hc0];have bj:l.toNat*db X.P e=l.toNat*y.sz:=by
                  by_cases Cz:rows=[]
                  · subst Cz;have:l.toNat=0:=by simp at k5;omega
                    rw[this];simp
                  · obtain⟨r,rs,rfl⟩:=SE Cz;rw[←jA.2 r rfl,ik r (by simp)]
                 cases y.g<;>simp[ox,bj,iO]
             · cases he
           · cases he
         | p q =>
          cases q with
          |sc=>cases he
          | sl rows=>
           simp only[ak.part]at he;split at he
           · rename_i jA;simp at he;subst he;have eW:n=rows.length:=by simp[ak.nw,ak.view]at hp;exact hp.symm
             have hx2:∃A cap,a.eval x= .slice A rows.length cap∧rows.length≤cap:=by
               generalize a.eval x=u at hc
               cases hc with
               |nil=>exact⟨_,_,rfl,by simp⟩
               |row h0 hl=>exact⟨_,_,rfl,hl⟩
             obtain⟨A,cap,bG,lF⟩:=hx2;rw[bG]at hc;exact⟨_,key _ _ _ bG (fun _=>by omega) om,RP.slice hc jA.2 om jA.1⟩
           · cases he
         | nil=>
           simp only[ak.part]at he;split at he
           · rename_i h0;simp at he;subst he;have eW:n=0:=by simp[ak.nw,ak.view]at hp;exact hp.symm
             refine⟨_,key _ _ _ hc (fun _=>by omega) om,?_⟩;show _=_;have:l.toNat=0:=om;simp[this,h0]
           · cases he
         |_=>cases he
       · cases he
     · cases he
   · cases he
 · cases he
end
end
end
end Go.Proofs.YtndegphojkiblaaGreatDoor
