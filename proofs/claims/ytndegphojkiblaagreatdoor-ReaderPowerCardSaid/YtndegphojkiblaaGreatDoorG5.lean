/- Towards the last file's theorem: part 5. -/
import Derived.Test.YtndegphojkiblaaGreatDoorG4
set_option linter.unusedSimpArgs false
set_option linter.unusedVariables false
namespace Go.Proofs.YtndegphojkiblaaGreatDoor
section
open Go.RowKit
open Classical
def bys (l : List Int) : List (List PV) := l.map fun n => [.sc (.int .u8 n)]
def byI : List PV → Option Int
 | [.sc (.int .u8 n)] => some n
 | _ => none
def byIs (rows : List (List PV)) : Option (List Int) := rows.mapM byI
theorem byIs_bys (l : List Int) : byIs (bys l) = some l := by
 unfold byIs bys
 induction l with
 | nil => rfl
 | cons n l ih => simp [List.mapM_cons,byI,ih]
theorem Rect_bys (l : List Int) : Rect 1 (bys l) := by intro r hr; simp [bys] at hr; obtain ⟨n,_,rfl⟩ := hr; rfl
theorem length_bys (l : List Int) : (bys l).length = l.length := by simp [bys]
theorem bys_get (l : List Int) (n : Nat) : (bys l)[n]? = (l[n]?).map fun n => [.sc (.int .u8 n)] := by simp [bys]
def evConv (P : Program) (st : ASt) (s d : TypeId) (x : Operand) : Option V :=
 match st.arg x with
 | some (.v (.c (.p (.sc (.int _ n))))) => match P.underlying s,P.underlying d with
  | some _,some (.int k) => some (.sc (.int k (k.wrap n)))
  | _,_ => none
 | some (.v (.c (.p (.sc (.string b))))) => match P.underlying s,P.underlying d with
  | some .string,some .string => some (.sc (.string b))
  | _,_ => none
 | some (.v (.c c)) => match st.view c,P.underlying s,P.underlying d with
  | some rows,some (.slice e),some .string => match P.underlying e,byIs rows with
   | some (.int .u8),some l => some (.sc (.string (strOfNums l)))
   | _,_ => none
  | _,_,_ => none
 | _ => none
section
variable {X : Fx} {E : Env} {st : ASt} {a : Act} {w : World}
theorem Rel.views (h : Rel X E st a w) {x : Operand} {c : C} {rows : List (List PV)} (hx : st.arg x = some (.v (.c c))) (hv : st.view c = some rows) : Rows (bad X.M E) w rows (a.eval x) :=
 h.view (h.argc hx).1 (h.argc hx).2.2 hv
theorem snd_conv (h : Rel X E st a w) {s d : TypeId} {x : Operand} {v : V}
   (he : evConv X.P st s d x = some v) : ∃ u,(convert s d (a.eval x)).run X.P w = .ok u w ∧ RV X.M E w v u := by
 unfold evConv at he
 split at he
 · rename_i k n hx
   have h3 := RP.sc_eq (h.argc hx).1
   split at he
   · rename_i ds k' hs hd
     simp at he; subst he
     refine ⟨_,?_,.sc rfl⟩
     rw [h3]
     simp [convert,run_underlying hs,run_underlying hd,Conv.intToInt]
   · cases he
 · rename_i b hx
   have h3 := RP.sc_eq (h.argc hx).1
   split at he
   · rename_i hs hd
     simp at he; subst he
     refine ⟨_,?_,.sc rfl⟩
     rw [h3]
     simp [convert,run_underlying hs,run_underlying hd]
   · cases he
 · rename_i c _ _ hx
   split at he
   · rename_i rows e hp hs hd
     split at he
     · rename_i l hee hl
       simp at he; subst he
       refine ⟨_,?_,.sc rfl⟩
       have hp' := h.views hx hp
       obtain ⟨hl1,hl2⟩ := mapM_get hl
       rcases hp' with ⟨rfl,A,cap,hxe⟩ | ⟨g,o,cap,sz,f,hxe,h0,hlc,hm,hss,hcc⟩
       · rw [hxe]
         simp [byIs] at hl; subst hl
         cases A with
         | none => exact run_convert_bytes_nil w s e hs hee 0 cap d hd
         | some A =>
          rw [run_convert_bytes_string w s d e _ 0 cap hs hee hd]
          rw [run_bytesToString w A 0 cap [] (by simp [loadCells,loadCellsFrom])]
          rfl
       · rw [hxe]
         have key : ∀ (i : Nat) (r : List PV),rows[i]? = some r → ∃ n,l[i]? = some n ∧ r = [.sc (.int .u8 n)] := by
          intro i r hi
          have hil : i < l.length := by rw [hl1]; exact (List.getElem?_eq_some_iff.1 hi).1
          obtain ⟨r',h4,h5⟩ := hl2 i _ (List.getElem?_eq_getElem hil)
          rw [hi] at h4; cases h4
          refine ⟨_,List.getElem?_eq_getElem hil,?_⟩
          unfold byI at h5
          split at h5
          · simp at h5; rw [h5]
          · cases h5
         have hsz : sz = 1 := by
          cases rows with
          | nil => exact absurd rfl h0
          | cons r rs =>
            obtain ⟨n,_,hr⟩ := key 0 r rfl
            have := hss r (by simp)
            rw [hr] at this; simpa using this.symm
         subst hsz
         refine run_convert_bytes_arg w s e hs hee g o rows.length cap l hl1 (fun i hi => ?_) d hd
         obtain ⟨n,h4,h5⟩ := key i _ (List.getElem?_eq_getElem hi)
         obtain ⟨h6,h7⟩ := hcc i _ 0 (.sc (.int .u8 n)) (List.getElem?_eq_getElem hi) (by rw [h5]; rfl)
         have h7 := RP.sc_eq h7
         rw [h7] at h6
         simp only [Nat.mul_one,Nat.add_zero] at h6
         rw [h6]
         simp [List.getD,h4]
     · cases he
   · cases he
 · cases he
def evLen (P : Program) (st : ASt) (t : TypeId) (x : Operand) : Option V :=
 match st.arg x with
 | some (.v (.c (.p (.sc (.string b))))) => match P.underlying t with
  | some .string => some (.sc (.int .i64 b.size))
  | _ => none
 | some (.v (.c c)) => match st.view c,P.underlying t with
  | some rows,some (.slice _) => some (.sc (.int .i64 rows.length))
  | _,_ => none
 | _ => none
theorem Rows.len {M : Bad} {w : World} {rows : List (List PV)} {v : Value} (h : Rows M w rows v) : ∃ A cap,v = .slice A rows.length cap ∧ (rows ≠ [] → rows.length ≤ cap ∧ ∃ g o,A = some ⟨g,o,none⟩) := by
 rcases h with ⟨rfl,A,cap,rfl⟩ | ⟨g,o,cap,sz,f,rfl,h0,hl,_⟩
 · exact ⟨A,cap,rfl,fun h => absurd rfl h⟩
 · exact ⟨_,cap,rfl,fun _ => ⟨hl,g,o,rfl⟩⟩
theorem snd_len (h : Rel X E st a w) {t ty : TypeId} {x : Operand} {v : V}
   (he : evLen X.P st t x = some v) : ∃ u,(Builtin.len_ #[t] ty #[a.eval x]).run X.P w = .ok u w ∧ RV X.M E w v u := by
 unfold evLen at he
 split at he
 · rename_i b hx
   have h3 := RP.sc_eq (h.argc hx).1
   split at he
   · rename_i hu
     simp at he; subst he
     refine ⟨_,?_,.sc rfl⟩
     rw [h3]
     simp [Builtin.len_,run_underlying hu,goInt]
   · cases he
 · rename_i c _ hx
   split at he
   · rename_i rows e hp hu
     simp at he; subst he
     refine ⟨_,?_,.sc rfl⟩
     obtain ⟨A,cap,hv,_⟩ := (h.views hx hp).len
     rw [hv]
     simp [Builtin.len_,run_underlying hu,goInt]
   · cases he
 · cases he
def scUn : UnOp → Value → Option Value
 | .not,.bool b => some (.bool (!b))
 | .neg,.int k n => some (.int k (k.wrap (0 - n)))
 | .xor,.int k n => some (bitsOf k (BitVec.ofInt k.bits (if k.signed then -1 else k.max) ^^^ BitVec.ofInt k.bits n))
 | _,_ => none
theorem snd_un {P : Program} {op : UnOp} {u v : Value} (h : scUn op u = some v) (w : World) : (Op.unary op u).run P w = .ok v w ∧ flat v = true := by
 unfold scUn at h
 split at h
 · simp at h; subst h; exact ⟨rfl,rfl⟩
 · simp at h; subst h; exact ⟨by simp [Op.unary,Op.intArith],rfl⟩
 · simp at h; subst h; exact ⟨by simp [Op.unary,Op.intBits,bitsOf],rfl⟩
 · cases h
def C.pv : C → Option PV
 | .p q => some q
 | .nil => some (.sl [])
 | _ => none
theorem RC.pv {M : Bad} {E : Env} {w : World} {c : C} {v : Value} {p : PV} (h : RC M E w c v) (hp : c.pv = some p) : RP (bad M E) w p v := by
 cases c with
 | p q => simp [C.pv] at hp; subst hp; exact h
 | nil => simp [C.pv] at hp; subst hp; cases h; exact .nil
 | _ => cases hp
def pvs (cs : List C) : Option (List PV) := cs.mapM C.pv
def evMake (P : Program) (st : ASt) (d : Nat) (t : TypeId) (l c : Operand) : Option (V × Eff) :=
 match tyElem P t,st.arg l,st.arg c with
 | some e,some (.v (.c (.p (.sc (.int _ n))))),some (.v (.c (.p (.sc (.int _ m))))) => match tyApp P e,tyZero P e with
  | some (_,b),some zs => match pvs zs with
   | some z => if n = m ∧ 0 ≤ n ∧ n ≤ 9223372036854775807 ∧ b * n.toNat ≤ 281474976710656 then some (.c (.own d),⟨[(d,.row e (List.replicate n.toNat z))],[]⟩) else none
   | none => none
  | _,_ => none
 | _,_,_ => none
theorem snd_make (h : Rel X E st a w) {d : Nat} (hd : E.N d = none) (hdk : X.k0 ≤ d) (hdn : d < st.next) {t : TypeId} {l c : Operand} {v : V} {ef : Eff}
   (he : evMake X.P st d t l c = some (v,ef)) :
   ∃ u w' E',(Instr.makeSlice t (a.eval l) (a.eval c)).run X.P w = .ok u w' ∧ (∀ n,n ≠ d → E.N n = none → E'.N n = none) ∧ Rel X E' (st.eff ef) a w' ∧ RV X.M E' w' v u := by
 unfold evMake at he
 split at he
 · rename_i e k1 n k2 m ht hl hc
   obtain ⟨hu,hie⟩ := tyElem_eq ht
   have h3 := RP.sc_eq (h.argc hl).1
   have h4 := RP.sc_eq (h.argc hc).1
   split at he
   · rename_i k b zs happ hz
     obtain ⟨i,z,hi,hzz,hzs,hpos,hin,hib,hcn⟩ := tyApp_eq happ
     obtain ⟨i',z',hi',hzz',hzr⟩ := tyZero_told (M := X.M) (E := E) (w := w) hz
     rw [hi] at hi'; cases hi'
     rw [hzz] at hzz'; cases hzz'
     split at he
     · rename_i zp hzp
       split at he
       · rename_i hcond
         obtain ⟨rfl,h0,hm',hb⟩ := hcond
         have hm : n.toNat ≤ maxLen := by simp only [maxLen]; omega
         cases he
         obtain ⟨hl1,hl2⟩ := mapM_get hzp
         have hzl : zp.length = k := by rw [hl1,← hzr.1,hzs]
         have hmx : n ≤ 9223372036854775807 := hm'
         have hbb : (i.bytes : Int) * n ≤ 281474976710656 := by
          rw [hib]
          have : ((b * n.toNat : Nat) : Int) ≤ 281474976710656 := by omega
          rwa [Int.natCast_mul,Int.toNat_of_nonneg h0] at this
         have hr := run_make (P := X.P) w t e i z hu hi hzz k1 k2 n n h0 (Int.le_refl _) hbb hmx
         rw [hin] at hr
         have hR : Rect k (List.replicate n.toNat zp) := fun r hr => by rw [(List.mem_replicate.1 hr).2]; exact hzl
         have hf := h.fresh_row hd hdk hdn (e := e) hpos hcn.symm (rows := List.replicate n.toNat zp) hR (cap := n.toNat) (by simp) hm (us := madeCells z.cells (n.toNat * k)) (by rw [size_madeCells]) (fun i' r j' p h5 h6 => by
          have hr' : r = zp := (List.mem_replicate.1 (List.mem_of_getElem? h5)).2
          subst hr'
          have hi2 : i' < n.toNat := by have := (List.getElem?_eq_some_iff.1 h5).1; simpa using this
          have hj' : j' < k := by rw [← hzl]; exact (List.getElem?_eq_some_iff.1 h6).1
          obtain ⟨cc,h7,h8⟩ := hl2 j' p h6
          obtain ⟨u',h9,h10,_⟩ := hzr.2 j' cc h7
          have hlt : i' * k + j' < n.toNat * k := by
           have : (i' + 1) * k ≤ n.toNat * k := Nat.mul_le_mul_right _ hi2
           rw [Nat.succ_mul] at this; omega
          refine ⟨u',?_,RC.pv h10 h8⟩
          simp only [madeCells,Array.getElem?_map,Array.getElem?_range,hlt,if_true,Option.map_some,Option.some.injEq]
          rw [hzs,show (i' * k + j') % k = j' by rw [Nat.mul_comm,Nat.mul_add_mod,Nat.mod_eq_of_lt hj']]
          obtain ⟨q,hq⟩ := Array.getElem?_eq_some_iff.1 h9
          rw [getElem!_pos z.cells j' q]; exact hq) (wd := w) (.inl rfl)
         simp only [List.length_replicate] at hf
         exact ⟨_,_,_,by rw [h3,h4]; exact hr,fun k hk hkn => by rw [Env.add_other hk]; exact hkn,hf.1,hf.2⟩
       · cases he
     · cases he
   · cases he
 · cases he
def evCopy (P : Program) (st : ASt) (t : TypeId) (x y : Operand) : Option (V × Eff) :=
 match tyElem P t,st.arg x,st.arg y with
 | some e,some (.v (.c cx)),some (.v (.c cy)) => match st.view cx,st.view cy with
  | some _,some src => match cx with
   | .own n => match st.heap.lookup n with
    | some (.row e' rows) => let m := min src.length rows.length
     if e' = e ∧ rectB (tySize P e) src = true then some (.sc (.int .i64 m),⟨[(n,.row e (src.take m ++ rows.drop m))],[]⟩) else none
    | _ => none
   | .sub n lo len => match st.heap.lookup n with
    | some (.row e' rows) => let m := min src.length len
     if e' = e ∧ rectB (tySize P e) src = true ∧ lo + len ≤ rows.length then some (.sc (.int .i64 m),⟨[(n,.row e (rows.take lo ++ src.take m ++ rows.drop (lo + m)))],[]⟩) else none
    | _ => none
   | _ => none
  | _,_ => none
 | _,_,_ => none
theorem snd_copy (h : Rel X E st a w) {t t2 ty : TypeId} {x y : Operand} {v : V} {ef : Eff} (he : evCopy X.P st t x y = some (v,ef)) :
   ∃ u w',(Builtin.copy_ #[t,t2] ty #[a.eval x,a.eval y]).run X.P w = .ok u w' ∧ Rel X E (st.eff ef) a w' ∧ RV X.M E w' v u := by
 unfold evCopy at he
 split at he
 · rename_i e cx cy ht hx hy
   obtain ⟨hu,hie⟩ := tyElem_eq ht
   split at he
   · rename_i rowsx src hvx hvy
     have hys := h.views hy hvy
     have key : ∀ (n lo len : Nat) (e' : TypeId) (rows : List (List PV)),n ∉ st.gone → st.heap.lookup n = some (.row e' rows) → e' = e → rectB (tySize X.P e) src = true → lo + len ≤ rows.length →
         (∃ z A c,E.N n = some z ∧ a.eval x = .slice A len c ∧ (0 < len → ∃ g,z.g = some g ∧ A = some ⟨g,lo * z.sz,none⟩)) →
         ∃ u w',(Builtin.copy_ #[t,t2] ty #[a.eval x,a.eval y]).run X.P w = .ok u w' ∧ Rel X E (st.eff ⟨[(n,.row e (rows.take lo ++ src.take (min src.length len) ++ rows.drop (lo + min src.length len)))],[]⟩) a w' ∧ RV X.M E w' (.sc (.int .i64 (min src.length len : Nat))) u := by
       rintro n lo len e' rows hng hl rfl hR hlen ⟨z,A,c,hN,hxe,hA⟩
       rw [rectB_iff] at hR
       obtain ⟨z',cur,fz,k1,hfz,k2,k3,k4,k5,k6,k7,k8,k9,k10,k11⟩ := h.row hng hl
       rw [hN] at k1; cases k1
       have hsz : tySize X.P e' = z.sz := k7.symm
       rw [hsz] at hR
       have hms : (src.take (min src.length len)).length = min src.length len := by simp
       have hRr : Rect z.sz (rows.take lo ++ src.take (min src.length len) ++ rows.drop (lo + min src.length len)) := ((k9.take _).app (hR.take _)).app (fun r hr => k9 r (List.mem_of_mem_drop hr))
       rw [hxe]
       by_cases h0 : min src.length len = 0
       ·
         have hrow : rows.take lo ++ src.take 0 ++ rows.drop (lo + 0) = rows := by simp
         have hres : (Builtin.copy_ #[t,t2] ty #[.slice A len c,a.eval y]).run X.P w = .ok (.int .i64 0) w := by
           obtain ⟨B,cap,hv,hB⟩ := hys.len
           have h0' : Nat.min src.length len = 0 := h0
           rw [hv]
           obtain ⟨i,hi⟩ := Option.isSome_iff_exists.1 hie
           cases A <;> cases B <;> simp [Builtin.copy_,run_underlying hu,Builtin.lenOf,Builtin.firstCells,sizeOf,typeInfo,hi,h0',loadCells,loadCellsFrom,storeCells,goInt]
         refine ⟨_,w,hres,?_,?_⟩
         · have hself := h.step ⟨[(n,.row e' rows)],[]⟩ (E' := E) (w' := w) (nx := st.next) (Nat.le_refl _) ⟨fun _ _ _ h1 h2 => ⟨h1,h2⟩,fun _ _ h => .inr h,fun _ h => h⟩ (by simp [h.gone]) h.frame h.nlt h.names h.inj (fun _ _ => .inr rfl) (by simp) (fun _ _ _ _ _ _ _ => rfl) (fun m b hb => by
            simp only [List.lookup_cons,List.lookup_nil] at hb
            split at hb
            · rename_i heq; simp at heq; subst heq; cases hb; exact .inr (h.row hng hl)
            · cases hb)
           rw [h0,hrow]; exact hself
         · rw [h0]; exact .sc rfl
       · have hlen0 : 0 < len := by omega
         obtain ⟨g,hg,hA⟩ := hA hlen0
         subst hA
         have hblk := k2 g hg
         have hsrc0 : src ≠ [] := by rintro rfl; simp at h0
         rcases hys.src hR with ⟨h1,_⟩ | ⟨gs,os,cap,news,hye,hne,hnl,hcell,hone,hval⟩
         · exact absurd h1 hsrc0
         · have hcur : lo * z.sz + (min src.length len) * z.sz ≤ cur.size := by
            rw [k8,← Nat.add_mul]; exact Nat.mul_le_mul_right _ (by omega)
           have hnews : (news.take (min src.length len * z.sz)).length = min src.length len * z.sz := by
            rw [List.length_take,hnl]
            exact Nat.min_eq_left (Nat.mul_le_mul_right _ (Nat.min_le_left _ _))
           have hload := run_loadCells (P := X.P) w ⟨gs,os,none⟩ (min src.length len * z.sz) (fun j => (news[j]?).getD undef) (fun j hj => by
            have hj' : j < news.length := by rw [hnl]; exact Nat.lt_of_lt_of_le hj (Nat.mul_le_mul_right _ (Nat.min_le_left _ _))
            rw [hcell j _ (List.getElem?_eq_getElem hj')]; simp [hj'])
           have hlist : (List.range (min src.length len * z.sz)).map (fun j => (news[j]?).getD undef) = news.take (min src.length len * z.sz) := by
            apply List.ext_getElem?
            intro j
            rw [List.getElem?_map,List.getElem?_take]
            split
            · rename_i hj
              have hj' : j < news.length := by rw [hnl]; exact Nat.lt_of_lt_of_le hj (Nat.mul_le_mul_right _ (Nat.min_le_left _ _))
              simp [List.getElem?_range hj,hj']
            · rename_i hj
              simp; omega
           have hstore := run_storeCells_fz X.P g (lo * z.sz) e' fz (news.take (min src.length len * z.sz)) 0 cur w hfz hblk (by rw [hnews]; omega) (fun u hu => hone u (List.mem_of_mem_take hu))
           simp only [Nat.add_zero] at hstore
           have hn : Nat.min src.length len = min src.length len := rfl
           have hw := (h.write hN hg hblk ((cur.toList.take (lo * z.sz) ++ news.take (min src.length len * z.sz) ++ cur.toList.drop (lo * z.sz + (news.take (min src.length len * z.sz)).length)).toArray) [] (by simp) (.row e' (rows.take lo ++ src.take (min src.length len) ++ rows.drop (lo + min src.length len))) (fun hG hnew _ => by
            refine ⟨z,_,fz,by rw [drop_nil]; exact hN,(by
              have e1 : (cur.toList.take (lo * z.sz) ++ news.take (min src.length len * z.sz) ++ cur.toList.drop (lo * z.sz + (news.take (min src.length len * z.sz)).length)).toArray.size = cur.size := by simp [hnews]; omega
              rw [e1]; exact hfz),fun g' hg' => by rw [hg] at hg'; cases hg'; exact hnew,by simp; omega,k4,k5,k6,k7,by rw [← k8]; simp; omega,hRr,k10,fun i r j p hi hj => ?_⟩
            have hjz : j < z.sz := by rw [← hRr r (List.mem_of_getElem? hi)]; exact (List.getElem?_eq_some_iff.1 hj).1
            rw [hnews] at hG
            rw [List.getElem?_toArray,get_splice (by rw [hnews]; simp; omega),hnews]
            have hsp := get_splice (l := rows) (ys := src.take (min src.length len)) (off := lo) (k := i) (by rw [hms]; omega)
            rw [hms] at hsp
            rw [hsp] at hi
            split at hi
            · rename_i hc
              have hlt : (i - lo + 1) * z.sz ≤ min src.length len * z.sz := Nat.mul_le_mul_right _ (by omega)
              have e1 : i * z.sz = lo * z.sz + (i - lo) * z.sz := by rw [← Nat.add_mul]; congr 1; omega
              rw [Nat.succ_mul] at hlt
              rw [if_pos (by omega),List.getElem?_take,if_pos (by omega)]
              obtain ⟨u,q1,q2⟩ := hval _ r j p (take_get hi).1 hj
              exact ⟨u,by rw [← q1]; congr 1; omega,q2.goes hG⟩
            · rename_i hc
              have hno : ¬ (lo * z.sz ≤ i * z.sz + j ∧ i * z.sz + j < lo * z.sz + min src.length len * z.sz) := by
               rintro ⟨q1,q2⟩
               apply hc
               rw [← Nat.add_mul] at q2
               refine ⟨?_,?_⟩
               · rcases Nat.lt_or_ge i lo with h7 | h7
                 · have : (i + 1) * z.sz ≤ lo * z.sz := Nat.mul_le_mul_right _ h7
                   rw [Nat.succ_mul] at this; omega
                 · exact h7
               · rcases Nat.lt_or_ge i (lo + min src.length len) with h7 | h7
                 · exact h7
                 · have : (lo + min src.length len) * z.sz ≤ i * z.sz := Nat.mul_le_mul_right _ h7
                   omega
              rw [if_neg hno]
              obtain ⟨u,q1,q2⟩ := k11 i r j p hi hj
              exact ⟨u,by simpa using q1,q2.goes hG⟩)).2
           rw [drop_nil] at hw
           refine ⟨.int .i64 (min src.length len : Nat),_,?_,hw,.sc rfl⟩
           rw [hye]
           rw [hlist] at hload
           generalize w.setRow g _ = W at hstore ⊢
           simp [Builtin.copy_,run_underlying hu,Builtin.lenOf,Builtin.firstCells,run_sizeOf w hie,hsz,hn,hload,goInt]
           rw [hstore]; rfl
     split at he
     · rename_i n
       have hng := (h.argc hx).2.2 n (by simp [C.names])
       split at he
       · rename_i e' rows hl
         split at he
         · rename_i hc
           cases he
           obtain ⟨z,k1,k2⟩ := Nmd.get (h.argc hx).1 (h.argn hx (n := n) (by simp [C.names]))
           obtain ⟨z',cur,fz,j1,hfz,j2,j3,j4,j5,j6,j7,j8,j9,j10,j11⟩ := h.row hng hl
           rw [k1] at j1; cases j1
           have := key n 0 rows.length e' rows hng hl hc.1 hc.2 (by omega) ⟨z,_,_,k1,by rw [← j3]; exact k2,fun h0 => by
            cases hg : z.g with
            | none => have := j10 hg; omega
            | some g => exact ⟨g,rfl,by simp⟩⟩
           simpa using this
         · cases he
       · cases he
     · rename_i n lo len
       have hng := (h.argc hx).2.2 n (by simp [C.names])
       split at he
       · rename_i e' rows hl
         split at he
         · rename_i hc
           cases he
           obtain ⟨z,k1,k2,A,k3,k4⟩ := Nmd.get (h.argc hx).1 (h.argn hx (n := n) (by simp [C.names]))
           obtain ⟨z',cur,fz,j1,hfz,j2,j3,j4,j5,j6,j7,j8,j9,j10,j11⟩ := h.row hng hl
           rw [k1] at j1; cases j1
           exact key n lo len e' rows hng hl hc.1 hc.2.1 hc.2.2 ⟨z,_,_,k1,k3,fun h0 => by
            cases hg : z.g with
            | none => have := j10 hg; omega
            | some g => exact ⟨g,rfl,by rw [k4 (.inl (by omega)),hg]; rfl⟩⟩
         · cases he
       · cases he
     · cases he
   · cases he
 · cases he
end
end
section
open Go.RowKit
open Classical
structure Own (P : Program) (f : FuncId) : Prop where
 fn : ∃ fn,P.funcs[f]? = some fn ∧ (fn.name == "runtime.NumGoroutine") = false ∧ fn.body.isNone = false
def hp (H : List Blk) : Hp := H.zipIdx.map fun x => (x.2,x.1)
theorem lookup_zip : ∀ (H : List Blk) (k n : Nat),List.lookup n ((H.zipIdx k).map fun x => (x.2,x.1)) = if k ≤ n then H[n - k]? else none
 | [],k,n => by simp
 | b :: H,k,n => by
  simp only [List.zipIdx_cons,List.map_cons,List.lookup_cons,lookup_zip H (k + 1) n]
  by_cases h : n = k
  · subst h; simp
  · rw [beq_eq_false_iff_ne.2 h]
    by_cases h2 : k ≤ n
    · rw [if_pos h2,if_pos (by omega)]
      obtain ⟨m,rfl⟩ : ∃ m,n = k + 1 + m := ⟨n - (k + 1),by omega⟩
      simp [show k + 1 + m - k = m + 1 by omega]
    · rw [if_neg h2,if_neg (by omega)]
theorem lookup_hp (H : List Blk) (n : Nat) : (hp H).lookup n = H[n]? := by simp [hp,lookup_zip]
structure Back (N : Nat → Option Nm) (k : Nat) (w w' : World) (E' : Env) : Prop where
 gone : E'.gone = []
 names : ∀ n x g,E'.N n = some x → x.g = some g → g < w'.heap.size ∧ ((∃ m y,N m = some y ∧ y.g = some g) ∨ w.heap.size ≤ g)
 inj : ∀ n m x y g,E'.N n = some x → E'.N m = some y → x.g = some g → y.g = some g → n = m
 keep : ∀ m,m < k → E'.N m = none ∨ E'.N m = N m
structure ACalls (P : Program) (f : FuncId) (args : List V1) (H : List Blk) (r : V) (H' : Hp) : Prop where
 own : Own P f
 call : ∀ (w : World) (M : Bad) (N : Nat → Option Nm) (vals : Array Value),(∀ g,M g → g < w.heap.size) → (∀ n x,N n = some x → n < H.length) →
  (∀ n x g,N n = some x → x.g = some g → g < w.heap.size ∧ ¬ M g) → (∀ n m x y g,N n = some x → N m = some y → x.g = some g → y.g = some g → n = m) →
  (∀ n b,H[n]? = some b → RB P M ⟨N,[]⟩ w n b) → vals.size = args.length →
  (∀ (i : Nat) (x : V1),args[i]? = some x → ∃ u,vals[i]? = some u ∧ RV1 M ⟨N,[]⟩ w x u) →
  Calls P f vals w fun e w' => ∃ v E',e = .returned v ∧ Frame (fun g => ∃ n x,N n = some x ∧ x.g = some g) w w' ∧ Back N H.length w w' E' ∧
   (∀ n b,H'.lookup n = some b → RB P M E' w' n b) ∧ RV M E' w' r v
def C.ren (ρ : Nat → Nat) : C → C
 | .own n => .own (ρ n) | .sub n lo len => .sub (ρ n) lo len | .ptr n off => .ptr (ρ n) off | .eptr n i j => .eptr (ρ n) i j | .mp n => .mp (ρ n) | .fn f caps => .fn f (caps.map ρ) | c => c
def V1.on (f : C → C) : V1 → V1
 | .c x => .c (f x)
 | .agg xs => .agg (xs.map f)
def V.on (f : C → C) : V → V
 | .v x => .v (x.on f)
 | .tup xs => .tup (xs.map (V1.on f))
def Blk.on (f : C → C) : Blk → Blk
 | .box cs => .box (cs.map f)
 | b => b
def Blk.names : Blk → List Nat
 | .box cs => cs.flatMap C.names
 | _ => []
def Hp.ren (ρ : Nat → Nat) (H : Hp) : Hp := H.map fun x => (ρ x.1,x.2.on (C.ren ρ))
def PV.bare : PV → Bool
 | .sc _ => true
 | .sl rows => rows.isEmpty
def C.bare : C → Bool
 | .p q => q.bare
 | .ref _ => false
 | _ => true
def V1.bare : V1 → Bool
 | .c x => x.bare
 | .agg xs => xs.all C.bare
def V.bare : V → Bool
 | .v x => x.bare
 | .tup xs => xs.all V1.bare
def Blk.bare : Blk → Bool
 | .box cs => cs.all C.bare
 | .row _ rows => rows.all (·.all PV.bare)
 | .map es => es.all (·.2.all PV.bare)
theorem RP.bare {M M' : Bad} {w : World} {q : PV} {v : Value} (hb : q.bare = true) (h : RP M w q v) : RP M' w q v := by
 cases h with
 | sc h => exact .sc h
 | nil => exact .nil
 | row h0 => simp [PV.bare] at hb; exact absurd hb h0
section
variable {M M' : Bad} {E E' : Env} {w : World} {f : C → C}
theorem RV1.on (hf : ∀ c v,RC M E w c v → RC M' E' w (f c) v) {x : V1} {v : Value} (h : RV1 M E w x v) : RV1 M' E' w (x.on f) v := by
 cases x with
 | c c => exact hf c v h
 | agg cs =>
  obtain ⟨us,h1,h2,h3⟩ := h
  refine ⟨us,h1,by simp [h2],fun i c hi => ?_⟩
  simp only [List.getElem?_map,Option.map_eq_some_iff] at hi
  obtain ⟨c',hc',rfl⟩ := hi
  obtain ⟨u,h4,h5,h6⟩ := h3 i c' hc'
  exact ⟨u,h4,hf c' u h5,h6⟩
theorem RV.on (hf : ∀ c v,RC M E w c v → RC M' E' w (f c) v) {x : V} {v : Value} (h : RV M E w x v) : RV M' E' w (x.on f) v := by
 cases x with
 | v x => exact RV1.on hf h
 | tup xs =>
  obtain ⟨us,h1,h2,h3⟩ := h
  refine ⟨us,h1,by simp [h2],fun i c hi => ?_⟩
  simp only [List.getElem?_map,Option.map_eq_some_iff] at hi
  obtain ⟨c',hc',rfl⟩ := hi
  obtain ⟨u,h4,h5⟩ := h3 i c' hc'
  exact ⟨u,h4,RV1.on hf h5⟩
theorem RC.ren {ρ : Nat → Nat} {c : C} {v : Value} (hs : Stay (bad M E) (bad M' E') w w ∨ c.bare = true) (hN : ∀ n ∈ c.names,n ∉ E.gone ∧ ∀ x,E.N n = some x → E'.N (ρ n) = some x) (h : RC M E w c v) : RC M' E' w (c.ren ρ) v := by
 have nm : ∀ n (Q : Nm → Prop),n ∈ c.names → Nmd E n Q → Nmd E' (ρ n) Q := by
  intro n Q hn hq
  obtain ⟨x,h1,h2⟩ := Nmd.get hq (hN n hn).1
  exact .inr ⟨x,(hN n hn).2 x h1,h2⟩
 cases c with
 | p q => exact hs.elim (fun hs => RP.trans h hs) (fun hb => RP.bare hb h)
 | nil => exact h
 | own n => exact nm n _ (by simp [C.names]) h
 | sub n lo len => exact nm n _ (by simp [C.names]) h
 | ptr n off => exact nm n _ (by simp [C.names]) h
 | eptr n i j => exact nm n _ (by simp [C.names]) h
 | ref cells =>
  rcases hs with hs | hs
  · obtain ⟨g,o,h1,h2⟩ := h
    refine ⟨g,o,h1,fun j p hj => ?_⟩
    obtain ⟨u,h3,h4,h5⟩ := h2 j p hj
    exact ⟨u,h3,(hs _ _ _ h3 h4).2,h5.trans hs⟩
  · cases hs
 | fn f caps =>
  obtain ⟨us,h1,h2,h3⟩ := h
  refine ⟨us,h1,by simp [h2],fun i n hi => ?_⟩
  simp only [List.getElem?_map,Option.map_eq_some_iff] at hi
  obtain ⟨m,hm,rfl⟩ := hi
  obtain ⟨u,h4,h5⟩ := h3 i m hm
  exact ⟨u,h4,nm m _ (by simp only [C.names]; exact List.mem_of_getElem? hm) h5⟩
 | mp n => exact nm n _ (by simp [C.names]) h
 | dead => trivial
theorem RB.ren {P : Program} {ρ : Nat → Nat} {n : Nat} {b : Blk} (hs : Stay (bad M E) (bad M' E') w w ∨ b.bare = true) (hn : ∀ x,E.N n = some x → E'.N (ρ n) = some x) (hN : ∀ n ∈ b.names,n ∉ E.gone ∧ ∀ x,E.N n = some x → E'.N (ρ n) = some x) (h : RB P M E w n b) :
  RB P M' E' w (ρ n) (b.on (C.ren ρ)) := by
 have rp : ∀ {q : PV} {v : Value},(b.bare = true → q.bare = true) → RP (bad M E) w q v → RP (bad M' E') w q v := fun hb hq => hs.elim (fun hs => hq.trans hs) (fun h => RP.bare (hb h) hq)
 cases b with
 | box cs =>
  obtain ⟨x,g,cur,e,h1,h0,h2,h3,h4⟩ := h
  refine ⟨x,g,cur,e,hn x h1,h0,h2,by simp [h3],fun i c hi => ?_⟩
  simp only [List.getElem?_map,Option.map_eq_some_iff] at hi
  obtain ⟨c',hc',rfl⟩ := hi
  obtain ⟨u,h5,h6,h7⟩ := h4 i c' hc'
  have hm := List.mem_of_getElem? hc'
  refine ⟨u,h5,RC.ren (hs.imp id fun hb => ?_) (fun m hm' => hN m (List.mem_flatMap.2 ⟨c',hm,hm'⟩)) h6,h7⟩
  simp only [Blk.bare,List.all_eq_true] at hb
  exact hb c' hm
 | row e rows =>
  obtain ⟨x,cur,fz,h1,hfz,h2,h3,h4,h5,h6,h11,h7,h8,h10,h9⟩ := h
  refine ⟨x,cur,fz,hn x h1,hfz,h2,h3,h4,h5,h6,h11,h7,h8,h10,fun i r j p hi hj => ?_⟩
  obtain ⟨u,k1,k2⟩ := h9 i r j p hi hj
  refine ⟨u,k1,rp (fun hb => ?_) k2⟩
  simp only [Blk.bare,List.all_eq_true] at hb
  exact hb r (List.mem_of_getElem? hi) p (List.mem_of_getElem? hj)
 | map es =>
  obtain ⟨x,g,en,clock,h1,h0,h2,h3⟩ := h
  exact ⟨x,g,en,clock,hn x h1,h0,h2,h3⟩
end
theorem lookup_ren {ρ : Nat → Nat} : ∀ {H : Hp} {n : Nat} {b' : Blk},(Hp.ren ρ H).lookup n = some b' → ∃ m b,H.lookup m = some b ∧ ρ m = n ∧ b' = b.on (C.ren ρ)
 | [],n,b',h => by simp [Hp.ren] at h
 | (m0,b0) :: H,n,b',h => by
  simp only [Hp.ren,List.map_cons,List.lookup_cons] at h
  split at h
  · rename_i heq
    simp at heq
    cases h
    exact ⟨m0,b0,by simp,heq.symm,rfl⟩
  · rename_i heq
    obtain ⟨m,b,h1,h2,h3⟩ := lookup_ren (H := H) h
    refine ⟨m,b,?_,h2,h3⟩
    rw [List.lookup_cons]
    have : (m == m0) = false := by
     rw [beq_eq_false_iff_ne]
     rintro rfl
     simp [h2] at heq
    rw [this]; exact h1
theorem lookup_ren_some {ρ : Nat → Nat} : ∀ {H : Hp} {m : Nat} {b : Blk},H.lookup m = some b → (Hp.ren ρ H).lookup (ρ m) ≠ none
 | [],m,b,h => by simp at h
 | (m0,b0) :: H,m,b,h => by
  simp only [Hp.ren,List.map_cons,List.lookup_cons]
  split
  · simp
  · rename_i heq
    rw [List.lookup_cons] at h
    split at h
    · rename_i he; simp at he; subst he; simp at heq
    · exact lookup_ren_some h
def fitC (st : ASt) (ι : List Nat) (L : List Nat) : C → C → Prop
 | .dead,_ => True
 | .p q,c => c = .p q ∨ ∃ rows,q = .sl rows ∧ st.view c = some rows ∧ ∀ n ∈ c.names,n ∈ L
 | c',c => c = c'.ren (fun m => (ι[m]?).getD 0) ∧ ∀ m ∈ c'.names,m < ι.length
def fitV (st : ASt) (ι : List Nat) (L : List Nat) : V1 → V1 → Prop
 | .c c',.c c => fitC st ι L c' c
 | .agg cs',.agg cs => cs.length = cs'.length ∧ ∀ (i : Nat) (c' : C),cs'[i]? = some c' → ∃ c,cs[i]? = some c ∧ fitC st ι L c' c
 | _,_ => False
def fitB (st : ASt) (ι : List Nat) (L : List Nat) : Blk → Blk → Prop
 | .box cs',.box cs => cs.length = cs'.length ∧ ∀ (i : Nat) (c' : C),cs'[i]? = some c' → ∃ c,cs[i]? = some c ∧ fitC st ι L c' c
 | .row e' rows',.row e rows => e' = e ∧ rows' = rows
 | .map es',.map es => es' = es
 | _,_ => False
def renO (ι : List Nat) (d : Nat) (m : Nat) : Nat := if m < ι.length then (ι[m]?).getD 0 else d + (m - ι.length)
structure CallOK (P : Program) (st : ASt) (d : Nat) (f : FuncId) (xs : List V1) (v : V) (ef : Eff) (rd : List Nat) : Prop where
 ex : ∃ (cargs : List V1) (H : List Blk) (r : V) (H' : Hp) (ι L : List Nat),ACalls P f cargs H r H' ∧ ι.length = H.length ∧ ι.Nodup ∧
  xs.length = cargs.length ∧ (∀ (i : Nat) (x' : V1),cargs[i]? = some x' → ∃ x,xs[i]? = some x ∧ fitV st ι L x' x) ∧
  (∀ (i : Nat) (b' : Blk),H[i]? = some b' → ∃ n b,ι[i]? = some n ∧ st.heap.lookup n = some b ∧ fitB st ι L b' b) ∧
  (∀ n ∈ ι,n ∉ st.gone ∧ n ∉ L) ∧ (∀ n ∈ L,n ∉ st.gone) ∧
  (∀ n ∈ r.names,n < ι.length + 8) ∧ (∀ n b,H'.lookup n = some b → n < ι.length + 8 ∧ ∀ m ∈ b.names,m < ι.length + 8) ∧
  (∀ n ∈ r.names,n < ι.length → H'.lookup n ≠ none) ∧ (∀ n b,H'.lookup n = some b → ∀ m ∈ b.names,m < ι.length → H'.lookup m ≠ none) ∧
  ((∀ n ∈ L,n ∈ ef.gone) ∨ (r.bare = true ∧ ∀ n b,H'.lookup n = some b → b.bare = true)) ∧
  (∀ (i n : Nat),ι[i]? = some n → (n ∈ ef.gone ↔ H'.lookup i = none)) ∧ (∀ n ∈ ef.gone,n ∈ ι ∨ n ∈ L) ∧
  (∀ n ∈ ef.gone,n < d) ∧ v = r.on (C.ren (renO ι d)) ∧ ef.upd = Hp.ren (renO ι d) H' ∧ rd = ι ++ L
theorem view_sink {st : ASt} {c : C} {rows : List (List PV)} (h : st.view c = some rows) : ∃ ns,st.sink c = some (.sl rows,ns) ∧ ∀ n ∈ ns,n ∈ c.names := by
 cases c with
 | p q =>
  cases q with
  | sc => cases h
  | sl => cases h; exact ⟨_,rfl,by simp⟩
 | nil => cases h; exact ⟨_,rfl,by simp⟩
 | own n =>
  simp only [ASt.view] at h
  split at h
  · rename_i hl; cases h; exact ⟨[n],by simp [ASt.sink,hl],by simp [C.names]⟩
  · cases h
 | sub n lo len =>
  simp only [ASt.view] at h
  split at h
  · rename_i hl; cases h; exact ⟨[n],by simp [ASt.sink,hl],by simp [C.names]⟩
  · cases h
 | _ => cases h
def callN (E : Env) (ι : List Nat) : Nat → Option Nm := fun m => match ι[m]? with | some n => E.N n | none => none
def callM (M : Bad) (E : Env) (ι L : List Nat) : Bad := fun g => M g ∨ ∃ n x,E.N n = some x ∧ x.g = some g ∧ n ∉ ι ∧ n ∉ L
section
variable {X : Fx} {E : Env} {st : ASt} {a : Act} {w : World} {ι L : List Nat}
theorem callN_some {m : Nat} {x : Nm} (h : callN E ι m = some x) : ∃ n,ι[m]? = some n ∧ E.N n = some x := by
 unfold callN at h
 split at h
 · exact ⟨_,by assumption,h⟩
 · cases h
theorem bad_call {M : Bad} {g : Nat} (h : bad (callM M E ι L) ⟨callN E ι,[]⟩ g) : bad M E g := by
 rcases h with (h | ⟨n,x,h1,h2,_⟩) | ⟨m,x,h1,h2⟩
 · exact .inl h
 · exact .inr ⟨n,x,h1,h2⟩
 · obtain ⟨n,h3,h4⟩ := callN_some h1
   exact .inr ⟨n,x,h4,h2⟩
theorem fit_rc (h : Rel X E st a w) (hι : ∀ n ∈ ι,n ∉ st.gone ∧ n ∉ L) (hL : ∀ n ∈ L,n ∉ st.gone) {c' c : C} {v : Value} (hf : fitC st ι L c' c) (hc : RC X.M E w c v) : RC (callM X.M E ι L) ⟨callN E ι,[]⟩ w c' v := by
 have hst : Stay (bad X.M E) (bad (callM X.M E ι L) ⟨callN E ι,[]⟩) w w := fun g o u h1 h2 => ⟨h1,fun h => h2 (bad_call h)⟩
 have nm : ∀ m (Q : Nm → Prop),m < ι.length → Nmd E ((ι[m]?).getD 0) Q → Nmd ⟨callN E ι,[]⟩ m Q := by
  intro m Q hm hq
  have hi : ι[m]? = some ι[m] := List.getElem?_eq_getElem hm
  rw [hi] at hq
  obtain ⟨x,h1,h2⟩ := Nmd.get hq (by rw [h.gone]; exact (hι _ (List.getElem_mem hm)).1)
  exact .inr ⟨x,by simp only [callN,hi]; exact h1,h2⟩
 cases c' with
 | dead => trivial
 | p q =>
  rcases hf with rfl | ⟨rows,rfl,hv,hn⟩
  · exact RP.trans hc hst
  · obtain ⟨ns,h1,h2⟩ := view_sink hv
    obtain ⟨_,_,h3⟩ := h.sink hc (fun n hn' => hL n (hn n hn')) h1
    refine RP.trans (h3 ns (fun _ h => h)) (fun g o u k1 k2 => ⟨k1,fun k3 => k2 ?_⟩)
    rcases k3 with (k3 | ⟨n,x,k4,k5,k6,k7⟩) | ⟨m,x,k4,k5⟩
    · exact .inl k3
    · refine .inr ⟨n,x,?_,k5⟩
      simp only [Env.drop]
      rw [if_neg fun hns => k7 (hn n (h2 n hns))]
      exact k4
    · obtain ⟨n,k6,k7⟩ := callN_some k4
      refine .inr ⟨n,x,?_,k5⟩
      simp only [Env.drop]
      rw [if_neg fun hns => (hι n (List.mem_of_getElem? k6)).2 (hn n (h2 n hns))]
      exact k7
 | nil => obtain ⟨rfl,_⟩ := hf; exact hc
 | own n => obtain ⟨rfl,hn⟩ := hf; exact nm n _ (hn n (by simp [C.names])) hc
 | sub n lo len => obtain ⟨rfl,hn⟩ := hf; exact nm n _ (hn n (by simp [C.names])) hc
 | ptr n off => obtain ⟨rfl,hn⟩ := hf; exact nm n _ (hn n (by simp [C.names])) hc
 | eptr n i j => obtain ⟨rfl,hn⟩ := hf; exact nm n _ (hn n (by simp [C.names])) hc
 | mp n => obtain ⟨rfl,hn⟩ := hf; exact nm n _ (hn n (by simp [C.names])) hc
 | ref cells =>
  obtain ⟨rfl,_⟩ := hf
  obtain ⟨g,o,h1,h2⟩ := hc
  refine ⟨g,o,h1,fun j p hj => ?_⟩
  obtain ⟨u,h3,h4,h5⟩ := h2 j p hj
  exact ⟨u,h3,(hst _ _ _ h3 h4).2,h5.trans hst⟩
 | fn f caps =>
  obtain ⟨rfl,hn⟩ := hf
  obtain ⟨us,h1,h2,h3⟩ := hc
  refine ⟨us,h1,by simpa using h2,fun i n hi => ?_⟩
  obtain ⟨u,h4,h5⟩ := h3 i _ (by rw [List.getElem?_map,hi]; rfl)
  exact ⟨u,h4,nm n _ (hn n (by simp only [C.names]; exact List.mem_of_getElem? hi)) h5⟩
theorem fit_rv (h : Rel X E st a w) (hι : ∀ n ∈ ι,n ∉ st.gone ∧ n ∉ L) (hL : ∀ n ∈ L,n ∉ st.gone) {x' x : V1} {v : Value} (hf : fitV st ι L x' x) (hc : RV1 X.M E w x v) : RV1 (callM X.M E ι L) ⟨callN E ι,[]⟩ w x' v := by
 cases x' with
 | c c' =>
  cases x with
  | c c => exact fit_rc h hι hL hf hc
  | agg => exact hf.elim
 | agg cs' =>
  cases x with
  | c => exact hf.elim
  | agg cs =>
   obtain ⟨us,h1,h2,h3⟩ := hc
   refine ⟨us,h1,by rw [h2,hf.1],fun i c' hi => ?_⟩
   obtain ⟨c,h4,h5⟩ := hf.2 i c' hi
   obtain ⟨u,h6,h7,h8⟩ := h3 i c h4
   exact ⟨u,h6,fit_rc h hι hL h5 h7,h8⟩
theorem fit_rb (h : Rel X E st a w) (hι : ∀ n ∈ ι,n ∉ st.gone ∧ n ∉ L) (hL : ∀ n ∈ L,n ∉ st.gone) {i n : Nat} {b' b : Blk} (hi : ι[i]? = some n) (hl : st.heap.lookup n = some b) (hf : fitB st ι L b' b) :
  RB X.P (callM X.M E ι L) ⟨callN E ι,[]⟩ w i b' := by
 have hst : Stay (bad X.M E) (bad (callM X.M E ι L) ⟨callN E ι,[]⟩) w w := fun g o u h1 h2 => ⟨h1,fun h => h2 (bad_call h)⟩
 have hb := h.row (hι n (List.mem_of_getElem? hi)).1 hl
 have hN : ∀ x,E.N n = some x → (⟨callN E ι,[]⟩ : Env).N i = some x := fun x hx => by simp only [callN,hi]; exact hx
 cases b' with
 | box cs' =>
  cases b with
  | box cs =>
   obtain ⟨x,g,cur,e,h1,h0,h2,h3,h4⟩ := hb
   refine ⟨x,g,cur,e,hN x h1,h0,h2,by rw [h3,hf.1],fun j c' hj => ?_⟩
   obtain ⟨c,k1,k2⟩ := hf.2 j c' hj
   obtain ⟨u,k3,k4,k5⟩ := h4 j c k1
   exact ⟨u,k3,fit_rc h hι hL k2 k4,k5⟩
  | _ => exact hf.elim
 | row e' rows' =>
  cases b with
  | row e rows =>
   obtain ⟨rfl,rfl⟩ := hf
   obtain ⟨x,cur,fz,h1,hfz,h2,h3,h4,h5,h6,h11,h7,h8,h10,h9⟩ := hb
   exact ⟨x,cur,fz,hN x h1,hfz,h2,h3,h4,h5,h6,h11,h7,h8,h10,fun i r j p hi hj => let ⟨u,k1,k2⟩ := h9 i r j p hi hj; ⟨u,k1,k2.trans hst⟩⟩
  | _ => exact hf.elim
 | map es' =>
  cases b with
  | map es =>
   cases hf
   obtain ⟨x,g,en,clock,h1,h0,h2,h3⟩ := hb
   exact ⟨x,g,en,clock,hN x h1,h0,h2,h3⟩
  | _ => exact hf.elim
end
end
end Go.Proofs.YtndegphojkiblaaGreatDoor
