/- Towards the last file's theorem: part 23. -/
import Derived.Test.YtndegphojkiblaaGreatDoorG22
set_option linter.unusedSimpArgs false
set_option linter.unusedVariables false
namespace Go.Proofs.YtndegphojkiblaaGreatDoor
section
open Go.RowKit
open Classical
section
variable {l n : Nat} {P : Program} {Q : Exit → Act → World → Prop}
theorem rows_in {m : Nat} {row : String} {args : Array Value} {w : World} {R : Value → World → Prop} (h : Go.Rows P row args w R) : RowsIn (Fence.wide.inRound l) m P row args w R := fun c cs _ => by
 obtain ⟨v,w',r,s⟩ := h c cs
 exact ⟨v,w',r,stepsIn_wide.2 s⟩
theorem oper_in {o : Oper} {a : Act} {w : World} {K : Act → World → Prop} (hd : ∀ c,o.op ≠ .defer c) (h : o.wp P a w K Q) : o.wpIn (Fence.wide.inRound l) n P a w K Q := by
 unfold Oper.wp at h
 unfold Oper.wpIn
 refine ⟨fun _ _ => trivial,?_⟩
 rw [show (Fence.wide.inRound l).round = some l from rfl,Oper.semAt_eq _ _ _ hd]
 generalize (execOp a.eval o).run P w = r at h
 cases r with
 | ok x w' =>
  cases x <;> simp only [Oper.upon,Oper.uponIn] at h ⊢ <;>
   first
    | exact h
    | exact ⟨fun e => (by cases e),callsIn_wide.2 h⟩
    | exact ⟨fun e => (by cases e),rows_in h⟩
 | halt x w' => cases x <;> simp only [Oper.upon,Oper.uponIn] at h ⊢ <;> exact h
end
def noDefer (ops : Array Oper) : Bool := ops.toList.all fun o => match o.op with | .defer _ => false | _ => true
theorem noDefer_get {ops : Array Oper} (h : noDefer ops = true) (j : Nat) (o : Oper) (c : Call) (ho : ops[j]? = some o) : o.op ≠ .defer c := by
 simp only [noDefer,List.all_eq_true] at h
 have hm : o ∈ ops.toList := Array.mem_toList_iff.2 (Array.mem_of_getElem? ho)
 intro he
 have := h o hm
 rw [he] at this
 cases this
theorem snd_listIn {l n : Nat} {X : Fx} {Sp : Spec} {b : Nat} {ops : Array Oper} {Q : Exit → Act → World → Prop} (hd : noDefer ops = true) : ∀ (ls : List Oper) (k : Nat) {E : Env} {st st' : ASt} {rs : List (Option Res)} {ts : Feet} {a : Act} {w : World},
  (∀ j,ls[j]? = ops[k + j]?) → Rel X E st a w → (∀ j,k ≤ j → j < ops.size → Free X E st (b + 8 * j)) → evD X.P Sp b ops ls k st = some (rs,ts,st') → seqOk b k ts = true →
  (∀ a' w' E',Rel X E' st' a' w' → Q .normal a' w') → wpOpsIn (Fence.wide.inRound l) n X.P ops Q (List.range' k ls.length) a w
 | [],k,E,st,st',rs,ts,a,w,_,h,_,he,_,hq => by
  cases he
  exact hq a w E h
 | o :: ls,k,E,st,st',rs,ts,a,w,hl,h,hF,he,hsq,hq => by
  have h0 : ops[k]? = some o := by simpa using (hl 0).symm
  have hk : k < ops.size := (Array.getElem?_eq_some_iff.1 h0).1
  simp only [evD] at he
  split at he
  · rename_i r hr
    split at he
    · rename_i rs1 ts1 st1 he1
      cases he
      simp only [seqOk,Bool.and_eq_true,List.all_eq_true,decide_eq_true_eq] at hsq
      simp only [List.length_cons,List.range'_succ,wpOpsIn,h0]
      have := snd_step h (hF k (Nat.le_refl _) hk) (ops := ops) hr (next := wpOpsIn (Fence.wide.inRound l) n X.P ops Q (List.range' (k + 1) ls.length)) (Q := Q) (fun v w' E' k1 k2 => by
        refine snd_listIn hd ls (k + 1) (fun j => by have := hl (j + 1); simpa [Nat.add_assoc,Nat.add_comm 1 j] using this) k2 ?_ he1 hsq.2 hq
        intro j hj hjs n h1 h2
        obtain ⟨f1,f2,f3,f4⟩ := hF j (by omega) hjs n h1 h2
        refine ⟨k1 n (by omega) f1,?_,by rw [apply1_next]; exact f3,f4⟩
        rw [apply1_gone]
        rintro (h3 | h3)
        · have := hsq.1 n (List.mem_append_right _ h3); omega
        · exact f2 h3)
      split
      · rename_i hw; rw [if_pos hw] at this; exact oper_in (fun c => noDefer_get hd k o c h0) this
      · rename_i hw; rw [if_neg hw] at this; exact ⟨fun _ _ => trivial,this⟩
    · cases he
  · cases he
def AwIn (l n : Nat) (X : Fx) (c : Code) (Q : Exit → ASt → Prop) (st : ASt) : Prop :=
 ∀ a w,Told X st a w → c.wpIn (Fence.wide.inRound l) n X.P (fun e a' w' => ∃ st',Q e st' ∧ Told X st' a' w') a w
section
variable {l n : Nat} {X : Fx} {Sp : Spec} {Q : Exit → ASt → Prop} {st : ASt}
theorem awIn_region {id : Nat} {ops : List Oper} {rs : List (Option Res)} {ts : Feet} {st' : ASt} (hd : noDefer ops.toArray = true) (he : evD X.P Sp st.next ops.toArray ops 0 (st.bump ops.length) = some (rs,ts,st')) (hs : seqOk st.next 0 ts = true) (h : Q .normal st'.settle) :
  AwIn l n X (.region id ops.toArray false) Q st := fun a w ht => by
 obtain ⟨E,hR,hg⟩ := ht
 refine wpIn_region ?_
 have := snd_listIn (l := l) (n := n) (X := X) (ops := ops.toArray) (Q := fun e a' w' => ∃ st',Q e st' ∧ Told X st' a' w') hd ops 0 (fun j => by simp) (hR.bump ops.length) (fun j _ hj => hR.free hg (by simpa using hj)) he hs (fun a' w' E' k1 => by
  obtain ⟨E2,k3,k4⟩ := k1.settle
  exact ⟨_,h,E2,k3,k4⟩)
 rw [← List.range_eq_range'] at this
 simpa using this
theorem awIn_seq {x y : Code} (h : AwIn l n X x (thenA (AwIn l n X y Q) Q) st) : AwIn l n X (.seq x y) Q st := fun a w ht => by
 refine wpIn_seq (wpIn_mono (h a w ht) ?_)
 rintro e a' w' ⟨st',h1,h2⟩
 cases e <;> first | exact h1 a' w' h2 | exact ⟨st',h1,h2⟩
theorem awIn_cond {c : Operand} {x y : Code} {t : Bool} (hc : st.arg c = some (.sc (.bool t))) (h1 : t = true → AwIn l n X x Q st) (h2 : t = false → AwIn l n X y Q st) : AwIn l n X (.cond c x y) Q st := fun a w ht => by
 obtain ⟨E,hR,hg⟩ := ht
 have k1 := RP.sc_eq (hR.argc hc).1
 exact wpIn_cond_split k1 (fun h => h1 h a w ⟨E,hR,hg⟩) (fun h => h2 h a w ⟨E,hR,hg⟩)
theorem awIn_block {id : Nat} {c : Code} (h : AwIn l n X c (inBlockA id Q) st) : AwIn l n X (.block id c) Q st := fun a w ht => by
 refine wpIn_block (wpIn_mono (h a w ht) ?_)
 rintro e a' w' ⟨st',h1,h2⟩
 cases e with
 | exit id' =>
  simp only [inBlockA] at h1
  simp only [Exit.inBlock]
  split
  · rename_i he; rw [if_pos he] at h1; exact ⟨st',h1,h2⟩
  · rename_i he; rw [if_neg he] at h1; exact ⟨st',h1,h2⟩
 | _ => exact ⟨st',h1,h2⟩
theorem awIn_skip (h : Q .normal st) : AwIn l n X .skip Q st := fun _ _ ht => wpIn_skip ⟨st,h,ht⟩
end
theorem execRegionIn_ok {P : Program} {T : TTab} {C : CTab} {k0 : Nat} (hT : TTab.ok P T) (hC : CTab.ok P C) {id : Nat} {ops : Array Oper} {S : SSt} {u : Fir} {ρ ρ' : List L} {x : Lf} (hnd : noDefer ops = true)
   (h : execRegion T C ops false S = some u) (hl : ρ.length = S.nv) (hd : u.den ρ = some (x,ρ')) {l n : Nat} :
   ∃ S',x = .st .normal S' ∧ S'.nv = ρ'.length ∧ (∃ ys,ρ' = ρ ++ ys) ∧ S'.gone = [] ∧ ∀ X : Fx,X.P = P → ∀ Q : Exit → ASt → Prop,Q .normal (S'.den ρ') → AwIn l n X (.region id ops false) Q (S.den ρ) := by
 unfold execRegion at h
 split at h
 · rename_i hc
   obtain ⟨hin,hg,hf⟩ := hc
   simp only [Option.bind_eq_some_iff] at h
   obtain ⟨t,ht,h⟩ := h
   obtain ⟨S1,ts,ρ1,v,k1,k2,k3⟩ := toFir_den h hd
   replace k2 : (if (if false then pairsOk ops ts && freshOk S.next ops ts else seqOk S.next 0 ts) = true then some (Fir.leaf (Lf.st Ex.normal S1.settle)) else none) = some v := k2
   have hok : (if false then pairsOk ops ts && freshOk S.next ops ts else seqOk S.next 0 ts) = true := by
     apply Classical.byContradiction; intro hn; rw [if_neg hn] at k2; cases k2
   rw [if_pos hok] at k2
   · cases k2
     cases k3
     obtain ⟨e1,⟨ys,e2⟩,rs,ts',Sp,e3,e4⟩ := symReg_ok hT hC ht (by exact hl) k1
     simp only [List.reverse_nil,List.nil_append] at e4
     subst e4
     refine ⟨S1.settle,rfl,by rw [settle_nv]; exact e1,⟨ys,e2⟩,settle_gone S1,fun X hXP Q hQ => ?_⟩
     have hden : S.den ρ' = S.den ρ := by rw [e2]; exact SSt.in_den hin (by omega)
     have hb : SSt.den ρ' { S with next := S.next + 8 * ops.size } = (S.den ρ).bump ops.toList.length := by
      rw [← hden]; simp [SSt.den,ASt.bump]
     rw [hb] at e3
     rw [settle_den] at hQ
     have hops : ops.toList.toArray = ops := by simp
     subst hXP
     simp only [Bool.false_eq_true,if_false] at hok
     have := awIn_region (l := l) (n := n) (X := X) (Sp := Sp) (Q := Q) (id := id) (ops := ops.toList) (st := S.den ρ) (rs := rs) (ts := ts) (by rw [hops]; exact hnd) (by rw [hops]; exact e3) hok hQ
     rw [hops] at this; exact this
 · cases h
theorem Rel.other {X : Fx} {E : Env} {st : ASt} {a : Act} {w w' : World} (h : Rel X E st a w) (hos : w'.os = w.os) (htp : w'.tape = w.tape) (hout : w'.output = w.output) (hsz : w.heap.size ≤ w'.heap.size)
  (hb : ∀ g o,w.heap[g]? = some o → (g < X.w0.heap.size ∨ o.isCells = true ∨ ∃ en c,o = .map en c) → w'.heap[g]? = w.heap[g]?) : Rel X E st a w' := by
 have hcell : ∀ g o u,w.cell? ⟨g,o,none⟩ = some u → w'.cell? ⟨g,o,none⟩ = some u := by
  intro g o u hc
  have hlt := World.block_lt_of_cell? w ⟨g,o,none⟩ hc
  have hg : w.heap[g]? = some w.heap[g] := Array.getElem?_eq_getElem hlt
  have hi : (w.heap[g]).isCells = true := by
   unfold World.cell? at hc
   rw [hg] at hc
   cases ho : w.heap[g] with
   | cells => rfl
   | _ => rw [ho] at hc; simp at hc
  exact (World.cell?_of_block (w := w) (a := ⟨g,o,none⟩) (hb g _ hg (.inr (.inl hi)))).trans hc
 have hG : Goes X.M E E w w' := ⟨fun g o u k1 k2 => ⟨hcell g o u k1,k2⟩,fun _ _ h => .inr h,fun _ h => h⟩
 have hblk : ∀ n x g o,E.N n = some x → x.g = some g → w.heap[g]? = some o → (o.isCells = true ∨ ∃ en c,o = .map en c) → w'.heap[g]? = some o := fun n x g o _ _ ho hi => (hb g o ho (.inr hi)).trans ho
 exact {
  defers := h.defers
  gone := h.gone
  frame := h.frame.trans (K' := fun g => X.w0.heap.size ≤ g) ⟨hos,htp,hout,hsz,fun g hg hn => by
     have ho : w.heap[g]? = some w.heap[g] := Array.getElem?_eq_getElem hg
     exact hb g _ ho (.inl (by omega))⟩ (fun g hg hK => by omega)
  mlt := h.mlt
  nlt := h.nlt
  names := fun n x g hx hg => by
   obtain ⟨h1,h2,h3⟩ := h.names n x g hx hg
   exact ⟨by omega,h2,h3⟩
  inj := h.inj
  keep := h.keep
  knext := h.knext
  gnext := h.gnext
  size := h.size
  tmps := fun i v hi => let ⟨u,h1,h2⟩ := h.tmps i v hi; ⟨u,h1,h2.goes hG⟩
  heap := fun m b hm => by
   rcases h.heap m b hm with h1 | h1
   · exact .inl h1
   · by_cases hn : m ∈ E.gone
     · exact .inl (by rw [← h.gone]; exact hn)
     · right
       cases b with
       | box cs =>
        obtain ⟨x,g,cur,e,k1,k0,k2,k3,k4⟩ := h1
        exact ⟨x,g,cur,e,k1,k0,hblk m x g _ k1 k0 k2 (.inl rfl),k3,fun i c hi => let ⟨u,h5,h6,h7⟩ := k4 i c hi; ⟨u,h5,h6.goes hG,h7⟩⟩
       | row e rows =>
        obtain ⟨x,cur,fz,k1,hfz,k2,k3,k4,k5,k6,k11,k7,k8,k10,k9⟩ := h1
        exact ⟨x,cur,fz,k1,hfz,fun g hg => hblk m x g _ k1 hg (k2 g hg) (.inl rfl),k3,k4,k5,k6,k11,k7,k8,k10,fun i r j p hi hj => let ⟨u,q1,q2⟩ := k9 i r j p hi hj; ⟨u,q1,q2.goes hG⟩⟩
       | map es =>
        obtain ⟨x,g,en,clock,k1,k0,k2,k3⟩ := h1
        exact ⟨x,g,en,clock,k1,k0,hblk m x g _ k1 k0 k2 (.inr ⟨en,clock,rfl⟩),k3⟩ }
end
section
open Go.RowKit
set_option maxRecDepth 100000
def dd : SV := .v (.c .dead)
def di (n : Nat) : SV := .v (.c (.p (.int .i64) (.v n)))
def ds (n : Nat) : SV := .v (.c (.p .sl (.v n)))
def aR0 : Array Oper := #[⟨some 2,.box 64 (.tmp 0),0,"slot.go:97",#[],none⟩,⟨some 3,.box 22 (.tmp 1),0,"slot.go:97",#[],none⟩,⟨some 4,.assign (.const (.slice none 0 0)),162,"slot.go:97",#[],none⟩]
def aR1 : Array Oper := #[⟨some 10,.load 64 (.tmp 2),64,"slot.go:98",#[],none⟩,⟨some 11,.call { callee := .value (.func 40),args := #[.tmp 10],argTypes := #[64] },4,"slot.go:98",#[⟨0,.data⟩],none⟩,⟨some 12,.unOp .not 4 (.tmp 11),4,"slot.go:98",#[⟨1,.data⟩],none⟩]
def aR2 : Array Oper := #[⟨some 4,.assign (.const (.slice none 0 0)),162,"slot.go:99",#[],none⟩]
def aR3 : Array Oper := #[⟨some 5,.alloc 162,0,"slot.go:101",#[],none⟩]
def aR4 : Array Oper := #[⟨some 13,.fieldAddr 64 (.tmp 2) 3,0,"slot.go:102",#[],none⟩,⟨some 14,.load 62 (.tmp 13),62,"slot.go:102",#[⟨0,.data⟩],none⟩,⟨some 15,.call { callee := .value (.func 112),args := #[.tmp 14],argTypes := #[62] },226,"slot.go:102",#[⟨1,.data⟩],none⟩]
def aR5 : Array Oper := #[⟨some 6,.assign (.tmp 16),3,"slot.go:102",#[],none⟩]
def aR6 : Array Oper := #[⟨some 7,.alloc 131,0,"slot.go:102",#[],none⟩,⟨none,.store 131 (.tmp 7) (.tmp 17),0,"slot.go:102",#[⟨0,.data⟩,⟨0,.phase⟩],none⟩]
def aR7 : Array Oper := #[⟨some 19,.fieldAddr 131 (.tmp 7) 4,0,"slot.go:103",#[],none⟩,⟨some 20,.load 129 (.tmp 19),129,"slot.go:103",#[⟨0,.data⟩],none⟩,⟨some 21,.load 22 (.tmp 3),22,"slot.go:103",#[],none⟩,⟨some 22,.call { callee := .value (.func 113),args := #[.tmp 20,.tmp 21],argTypes := #[129,22] },119,"slot.go:103",#[⟨1,.data⟩,⟨2,.data⟩],none⟩,⟨some 18,.move (.tmp 22),119,"slot.go:103",#[⟨3,.data⟩],none⟩,⟨some 23,.extract (.tmp 18) 0,25,"slot.go:103",#[⟨4,.data⟩],none⟩,⟨some 24,.extract (.tmp 18) 1,4,"slot.go:103",#[⟨4,.data⟩,{ on := 8,ground := Ground.gcOnly Departure.lateStores }],none⟩,⟨some 8,.alloc 25,0,"slot.go:103",#[],none⟩,⟨none,.store 25 (.tmp 8) (.tmp 23),0,"slot.go:103",#[⟨7,.data⟩,⟨5,.data⟩,⟨3,.chain⟩,⟨0,.phase⟩,⟨1,.phase⟩,⟨2,.phase⟩,⟨3,.phase⟩,⟨4,.phase⟩,⟨5,.phase⟩,{ on := 6,ground := Ground.textOnly Departure.lateStores },⟨7,.phase⟩],none⟩,⟨some 9,.assign (.tmp 24),4,"slot.go:103",#[⟨6,.data⟩,⟨8,.chain⟩,⟨0,.phase⟩,⟨1,.phase⟩,⟨2,.phase⟩,⟨3,.phase⟩,⟨4,.phase⟩,⟨5,.phase⟩,⟨6,.phase⟩,⟨7,.phase⟩,⟨8,.phase⟩],none⟩]
def aR8 : Array Oper := #[⟨some 25,.move (.tmp 9),4,"slot.go:103",#[],none⟩]
def aR9 : Array Oper := #[⟨some 26,.load 162 (.tmp 5),162,"slot.go:104",#[],none⟩,⟨some 27,.fieldAddr 131 (.tmp 7) 0,0,"slot.go:104",#[],none⟩,⟨some 28,.load 3 (.tmp 27),3,"slot.go:104",#[⟨1,.data⟩],none⟩,⟨some 29,.fieldAddr 131 (.tmp 7) 2,0,"slot.go:104",#[],none⟩,⟨some 30,.load 3 (.tmp 29),3,"slot.go:104",#[⟨3,.data⟩],none⟩,⟨some 31,.fieldAddr 131 (.tmp 7) 1,0,"slot.go:104",#[],none⟩,⟨some 32,.load 2 (.tmp 31),2,"slot.go:104",#[⟨5,.data⟩],none⟩,⟨some 33,.load 25 (.tmp 8),25,"slot.go:104",#[],none⟩,⟨some 34,.build 51 #[(0,.tmp 28),(1,.tmp 30),(2,.tmp 32),(3,.tmp 33)],51,"slot.go:104",#[⟨2,.data⟩,⟨4,.data⟩,⟨6,.data⟩,⟨7,.data⟩],none⟩,⟨some 35,.move (.tmp 6),3,"slot.go:104",#[],none⟩,⟨some 36,.build 165 #[(0,.tmp 34),(1,.tmp 35)],165,"slot.go:104",#[⟨8,.data⟩,⟨9,.data⟩],none⟩,⟨some 37,.buildSlice 162 1 #[(0,.tmp 36)],162,"slot.go:104",#[⟨10,.data⟩],none⟩,⟨some 38,.call { callee := .builtin .append,args := #[.tmp 26,.tmp 37],argTypes := #[162,162] },162,"slot.go:104",#[⟨0,.data⟩,⟨11,.data⟩],none⟩,⟨none,.store 162 (.tmp 5) (.tmp 38),0,"slot.go:104",#[⟨12,.data⟩,⟨12,.chain⟩,⟨0,.phase⟩,⟨1,.phase⟩,⟨2,.phase⟩,⟨3,.phase⟩,⟨4,.phase⟩,⟨5,.phase⟩,⟨6,.phase⟩,⟨7,.phase⟩,⟨8,.phase⟩,⟨9,.phase⟩,⟨10,.phase⟩,⟨11,.phase⟩,⟨12,.phase⟩],none⟩]
def aR10 : Array Oper := #[⟨some 39,.load 162 (.tmp 5),162,"slot.go:107",#[],none⟩,⟨some 4,.assign (.tmp 39),162,"slot.go:107",#[⟨0,.data⟩,⟨0,.phase⟩],none⟩]
def V58 : Code := ((Code.region 1 aR1 false).seq (.cond (.tmp 12) ((Code.region 2 aR2 false).seq .ret) .skip))
def rng58 : Code := .rangeFunc (.tmp 15) #[16,17] ((Code.region 5 aR5 false).seq (.region 6 aR6 false)) (.block 1 ((Code.region 7 aR7 false).seq ((Code.region 8 aR8 false).seq (.cond (.tmp 25) (.region 9 aR9 false) .skip))))
def c58 : Code := (Code.region 0 aR0 false).seq (V58.seq ((Code.region 3 aR3 false).seq (((Code.region 4 aR4 false).seq (.block 0 rng58)).seq ((Code.region 10 aR10 false).seq .ret))))
theorem body58 : Tryz.f58.body = some c58 := by kernel_rfl
theorem nt58 : Tryz.f58.ntmps = 40 := by kernel_rfl
theorem res58 : Tryz.f58.results = #[.tmp 4] := by kernel_rfl
def ks131 : List Kd := [.int .i64,.int .i64,.int .i64,.int .i64,.sl,.sl,.sl,.sl,.sl,.sl,.sl,.sl,.int .i64,.int .i64]
def aggAt (n : Nat) (ks : List Kd) : SV := .v (.agg (ks.zipIdx.map fun x => .p x.1 (.v (n + x.2))))
def SJ58 : SSt := ⟨[dd,dd,dd,.v (.c (.ptr 0 0)),dd,.v (.c (.ptr 1 0)),dd,dd,dd,dd,dd,dd,dd,dd,dd,.v (.c (.fn 169 [2])),dd,dd,dd,dd,dd,dd,dd,dd,dd,dd,dd,dd,dd,dd,dd,dd,dd,dd,dd,dd,dd,dd,dd,dd],
 [(0,.box [.p (.int .u64) (.v 4)]),(1,.box [.own 3]),(2,.box [.p .sl (.v 3)]),(3,.row 165 (.v 7))],[],4,8⟩
def SR58 : SSt := { SJ58 with tmps := (SJ58.tmps.set 16 (.v (.c (.p (.int .i64) (.v 8))))).set 17 (aggAt 9 ks131),nv := 23 }
def g40 (F : List L → Option (List L)) (t : Nat) : Sig := ⟨40,[.agg [.p (.int .i64) (.v 0),.p (.int .i64) (.v 1),.p .bool (.v 2),.p .sl (.v 3)]],[],4,1,.v (.c (.p .bool (.v 4))),[],F,t⟩
def g112 (F : List L → Option (List L)) (t : Nat) : Sig := ⟨112,[.c (.p .sl (.v 0))],[],1,0,.v (.c (.fn 169 [0])),[(0,(.box [.p .sl (.v 0)]))],F,t⟩
def g113 (F : List L → Option (List L)) (t : Nat) : Sig := ⟨113,[.agg [.p .sl (.v 0),.p .sl (.v 1),.p .sl (.v 2),.p .sl (.v 3),.p .sl (.v 4),.p .sl (.v 5),.p .sl (.v 6),.p .sl (.v 7),.p (.int .i64) (.v 8),.p (.int .i64) (.v 9)],.c (.p (.int .u64) (.v 10))],[],11,5,.tup [.agg [.p (.int .u64) (.v 12),.p (.int .u32) (.v 13),.p (.int .i64) (.v 14),.p (.int .i64) (.v 15)],.c (.p .bool (.v 11))],[],F,t⟩
section
variable (F40 F112 F113 : List L → Option (List L)) (t40 t112 t113 : Nat)
def gC58 : CTab := [g40 F40 t40,g112 F112 t112,g113 F113 t113]
def S58_0 : SSt := sStart 40 5 [.agg [.p (.int .i64) (.v 0),.p (.int .i64) (.v 1),.p .bool (.v 2),.p .sl (.v 3)],.c (.p (.int .u64) (.v 4))] []
def S58_1 : SSt := ⟨[.v (.agg [.p (.int .i64) (.v 0),.p (.int .i64) (.v 1),.p .bool (.v 2),.p .sl (.v 3)]),.v (.c (.p (.int .u64) (.v 4))),.v (.c (.ptr 0 0)),.v (.c (.ptr 8 0)),.v (.c .nil),.tup [],.tup [],.tup [],.tup [],.tup [],.tup [],.tup [],.tup [],.tup [],.tup [],.tup [],.tup [],.tup [],.tup [],.tup [],.tup [],.tup [],.tup [],.tup [],.tup [],.tup [],.tup [],.tup [],.tup [],.tup [],.tup [],.tup [],.tup [],.tup [],.tup [],.tup [],.tup [],.tup [],.tup [],.tup []],[(8,(.box [.p (.int .u64) (.v 4)])),(0,(.box [.p (.int .i64) (.v 0),.p (.int .i64) (.v 1),.p .bool (.v 2),.p .sl (.v 3)]))],[],24,5⟩
theorem e58_0 : execRegion TT (gC58 F40 F112 F113 t40 t112 t113) aR0 false S58_0 = some (.leaf (.st .normal S58_1)) := by kernel_rfl
def S58_2 : SSt := ⟨[.v (.agg [.p (.int .i64) (.v 0),.p (.int .i64) (.v 1),.p .bool (.v 2),.p .sl (.v 3)]),.v (.c (.p (.int .u64) (.v 4))),.v (.c (.ptr 0 0)),.v (.c (.ptr 8 0)),.v (.c .nil),.tup [],.tup [],.tup [],.tup [],.tup [],.v (.agg [.p (.int .i64) (.v 0),.p (.int .i64) (.v 1),.p .bool (.v 2),.p .sl (.v 3)]),.v (.c (.p .bool (.v 5))),.v (.c (.p .bool (.v 6))),.tup [],.tup [],.tup [],.tup [],.tup [],.tup [],.tup [],.tup [],.tup [],.tup [],.tup [],.tup [],.tup [],.tup [],.tup [],.tup [],.tup [],.tup [],.tup [],.tup [],.tup [],.tup [],.tup [],.tup [],.tup [],.tup [],.tup []],[(8,(.box [.p (.int .u64) (.v 4)])),(0,(.box [.p (.int .i64) (.v 0),.p (.int .i64) (.v 1),.p .bool (.v 2),.p .sl (.v 3)]))],[],48,7⟩
def S58_r : SSt := ⟨[.v (.agg [.p (.int .i64) (.v 0),.p (.int .i64) (.v 1),.p .bool (.v 2),.p .sl (.v 3)]),.v (.c (.p (.int .u64) (.v 4))),.v (.c (.ptr 0 0)),.v (.c (.ptr 8 0)),.v (.c .nil),.tup [],.tup [],.tup [],.tup [],.tup [],.v (.agg [.p (.int .i64) (.v 0),.p (.int .i64) (.v 1),.p .bool (.v 2),.p .sl (.v 3)]),.v (.c (.p .bool (.v 5))),.v (.c (.p .bool (.v 6))),.tup [],.tup [],.tup [],.tup [],.tup [],.tup [],.tup [],.tup [],.tup [],.tup [],.tup [],.tup [],.tup [],.tup [],.tup [],.tup [],.tup [],.tup [],.tup [],.tup [],.tup [],.tup [],.tup [],.tup [],.tup [],.tup [],.tup []],[(8,(.box [.p (.int .u64) (.v 4)])),(0,(.box [.p (.int .i64) (.v 0),.p (.int .i64) (.v 1),.p .bool (.v 2),.p .sl (.v 3)]))],[],56,7⟩
theorem e58_v : exec TT (gC58 F40 F112 F113 t40 t112 t113) 0 V58 0xFFFFFFFFFF [] 16 S58_1 = some (.op (.call t40 F40 [(.v 0),(.v 1),(.v 2),(.v 3)] 1 []) (.op (.not (.v 5)) (.ite (.v 6) (.leaf (.st .ret S58_r)) (.leaf (.st .normal S58_2))))) := by kernel_rfl
def S58_3 : SSt := ⟨[.v (.agg [.p (.int .i64) (.v 0),.p (.int .i64) (.v 1),.p .bool (.v 2),.p .sl (.v 3)]),.v (.c (.p (.int .u64) (.v 4))),.v (.c (.ptr 0 0)),.v (.c (.ptr 8 0)),.v (.c .nil),.v (.c (.ptr 48 0)),.tup [],.tup [],.tup [],.tup [],.v (.agg [.p (.int .i64) (.v 0),.p (.int .i64) (.v 1),.p .bool (.v 2),.p .sl (.v 3)]),.v (.c (.p .bool (.v 5))),.v (.c (.p .bool (.v 6))),.tup [],.tup [],.tup [],.tup [],.tup [],.tup [],.tup [],.tup [],.tup [],.tup [],.tup [],.tup [],.tup [],.tup [],.tup [],.tup [],.tup [],.tup [],.tup [],.tup [],.tup [],.tup [],.tup [],.tup [],.tup [],.tup [],.tup []],[(48,(.box [.nil])),(8,(.box [.p (.int .u64) (.v 4)])),(0,(.box [.p (.int .i64) (.v 0),.p (.int .i64) (.v 1),.p .bool (.v 2),.p .sl (.v 3)]))],[],56,7⟩
theorem e58_3 : execRegion TT (gC58 F40 F112 F113 t40 t112 t113) aR3 false S58_2 = some (.leaf (.st .normal S58_3)) := by kernel_rfl
def S58_4 : SSt := ⟨[.v (.agg [.p (.int .i64) (.v 0),.p (.int .i64) (.v 1),.p .bool (.v 2),.p .sl (.v 3)]),.v (.c (.p (.int .u64) (.v 4))),.v (.c (.ptr 0 0)),.v (.c (.ptr 8 0)),.v (.c .nil),.v (.c (.ptr 48 0)),.tup [],.tup [],.tup [],.tup [],.v (.agg [.p (.int .i64) (.v 0),.p (.int .i64) (.v 1),.p .bool (.v 2),.p .sl (.v 3)]),.v (.c (.p .bool (.v 5))),.v (.c (.p .bool (.v 6))),.v (.c (.ptr 0 3)),ds 3,.v (.c (.fn 169 [72])),.tup [],.tup [],.tup [],.tup [],.tup [],.tup [],.tup [],.tup [],.tup [],.tup [],.tup [],.tup [],.tup [],.tup [],.tup [],.tup [],.tup [],.tup [],.tup [],.tup [],.tup [],.tup [],.tup [],.tup []],[(72,(.box [.p .sl (.v 3)])),(48,(.box [.nil])),(8,(.box [.p (.int .u64) (.v 4)])),(0,(.box [.p (.int .i64) (.v 0),.p (.int .i64) (.v 1),.p .bool (.v 2),.p .sl (.v 3)]))],[],80,7⟩
theorem e58_4 : execRegion TT (gC58 F40 F112 F113 t40 t112 t113) aR4 false S58_3 = some (.op (.call t112 F112 [(.v 3)] 0 []) (.leaf (.st .normal S58_4))) := by kernel_rfl
def S58_5 : SSt := ⟨[dd,dd,dd,.v (.c (.ptr 0 0)),dd,.v (.c (.ptr 1 0)),di 8,dd,dd,dd,dd,dd,dd,dd,dd,.v (.c (.fn 169 [2])),di 8,.v (.agg [.p (.int .i64) (.v 9),.p (.int .i64) (.v 10),.p (.int .i64) (.v 11),.p (.int .i64) (.v 12),.p .sl (.v 13),.p .sl (.v 14),.p .sl (.v 15),.p .sl (.v 16),.p .sl (.v 17),.p .sl (.v 18),.p .sl (.v 19),.p .sl (.v 20),.p (.int .i64) (.v 21),.p (.int .i64) (.v 22)]),dd,dd,dd,dd,dd,dd,dd,dd,dd,dd,dd,dd,dd,dd,dd,dd,dd,dd,dd,dd,dd,dd],[(0,(.box [.p (.int .u64) (.v 4)])),(1,(.box [.own 3])),(2,(.box [.p .sl (.v 3)])),(3,(.row 165 (.v 7)))],[],12,23⟩
theorem e58_5 : execRegion TT (gC58 F40 F112 F113 t40 t112 t113) aR5 false SR58 = some (.leaf (.st .normal S58_5)) := by kernel_rfl
def S58_6 : SSt := ⟨[dd,dd,dd,.v (.c (.ptr 0 0)),dd,.v (.c (.ptr 1 0)),di 8,.v (.c (.ptr 12 0)),dd,dd,dd,dd,dd,dd,dd,.v (.c (.fn 169 [2])),di 8,.v (.agg [.p (.int .i64) (.v 9),.p (.int .i64) (.v 10),.p (.int .i64) (.v 11),.p (.int .i64) (.v 12),.p .sl (.v 13),.p .sl (.v 14),.p .sl (.v 15),.p .sl (.v 16),.p .sl (.v 17),.p .sl (.v 18),.p .sl (.v 19),.p .sl (.v 20),.p (.int .i64) (.v 21),.p (.int .i64) (.v 22)]),dd,dd,dd,dd,dd,dd,dd,dd,dd,dd,dd,dd,dd,dd,dd,dd,dd,dd,dd,dd,dd,dd],[(12,(.box [.p (.int .i64) (.v 9),.p (.int .i64) (.v 10),.p (.int .i64) (.v 11),.p (.int .i64) (.v 12),.p .sl (.v 13),.p .sl (.v 14),.p .sl (.v 15),.p .sl (.v 16),.p .sl (.v 17),.p .sl (.v 18),.p .sl (.v 19),.p .sl (.v 20),.p (.int .i64) (.v 21),.p (.int .i64) (.v 22)])),(12,(.box [.p (.int .i64) (.i 0),.p (.int .i64) (.i 0),.p (.int .i64) (.i 0),.p (.int .i64) (.i 0),.nil,.nil,.nil,.nil,.nil,.nil,.nil,.nil,.p (.int .i64) (.i 0),.p (.int .i64) (.i 0)])),(0,(.box [.p (.int .u64) (.v 4)])),(1,(.box [.own 3])),(2,(.box [.p .sl (.v 3)])),(3,(.row 165 (.v 7)))],[],28,23⟩
theorem e58_6 : execRegion TT (gC58 F40 F112 F113 t40 t112 t113) aR6 false S58_5 = some (.leaf (.st .normal S58_6)) := by kernel_rfl
def S58_7 : SSt := ⟨[dd,dd,dd,.v (.c (.ptr 0 0)),dd,.v (.c (.ptr 1 0)),di 8,.v (.c (.ptr 12 0)),.v (.c (.ptr 84 0)),.v (.c (.p .bool (.v 23))),dd,dd,dd,dd,dd,.v (.c (.fn 169 [2])),di 8,.v (.agg [.p (.int .i64) (.v 9),.p (.int .i64) (.v 10),.p (.int .i64) (.v 11),.p (.int .i64) (.v 12),.p .sl (.v 13),.p .sl (.v 14),.p .sl (.v 15),.p .sl (.v 16),.p .sl (.v 17),.p .sl (.v 18),.p .sl (.v 19),.p .sl (.v 20),.p (.int .i64) (.v 21),.p (.int .i64) (.v 22)]),.tup [.agg [.p (.int .u64) (.v 24),.p (.int .u32) (.v 25),.p (.int .i64) (.v 26),.p (.int .i64) (.v 27)],.c (.p .bool (.v 23))],.v (.c (.ptr 12 4)),.v (.agg [.p .sl (.v 13),.p .sl (.v 14),.p .sl (.v 15),.p .sl (.v 16),.p .sl (.v 17),.p .sl (.v 18),.p .sl (.v 19),.p .sl (.v 20),.p (.int .i64) (.v 21),.p (.int .i64) (.v 22)]),.v (.c (.p (.int .u64) (.v 4))),.tup [.agg [.p (.int .u64) (.v 24),.p (.int .u32) (.v 25),.p (.int .i64) (.v 26),.p (.int .i64) (.v 27)],.c (.p .bool (.v 23))],.v (.agg [.p (.int .u64) (.v 24),.p (.int .u32) (.v 25),.p (.int .i64) (.v 26),.p (.int .i64) (.v 27)]),.v (.c (.p .bool (.v 23))),dd,dd,dd,dd,dd,dd,dd,dd,dd,dd,dd,dd,dd,dd,dd],[(84,(.box [.p (.int .u64) (.v 24),.p (.int .u32) (.v 25),.p (.int .i64) (.v 26),.p (.int .i64) (.v 27)])),(84,(.box [.p (.int .u64) (.i 0),.p (.int .u32) (.i 0),.p (.int .i64) (.i 0),.p (.int .i64) (.i 0)])),(12,(.box [.p (.int .i64) (.v 9),.p (.int .i64) (.v 10),.p (.int .i64) (.v 11),.p (.int .i64) (.v 12),.p .sl (.v 13),.p .sl (.v 14),.p .sl (.v 15),.p .sl (.v 16),.p .sl (.v 17),.p .sl (.v 18),.p .sl (.v 19),.p .sl (.v 20),.p (.int .i64) (.v 21),.p (.int .i64) (.v 22)])),(12,(.box [.p (.int .i64) (.i 0),.p (.int .i64) (.i 0),.p (.int .i64) (.i 0),.p (.int .i64) (.i 0),.nil,.nil,.nil,.nil,.nil,.nil,.nil,.nil,.p (.int .i64) (.i 0),.p (.int .i64) (.i 0)])),(0,(.box [.p (.int .u64) (.v 4)])),(1,(.box [.own 3])),(2,(.box [.p .sl (.v 3)])),(3,(.row 165 (.v 7)))],[],108,28⟩
theorem e58_7 : execRegion TT (gC58 F40 F112 F113 t40 t112 t113) aR7 false S58_6 = some (.op (.call t113 F113 [(.v 13),(.v 14),(.v 15),(.v 16),(.v 17),(.v 18),(.v 19),(.v 20),(.v 21),(.v 22),(.v 4)] 5 []) (.leaf (.st .normal S58_7))) := by kernel_rfl
def S58_8 : SSt := ⟨[dd,dd,dd,.v (.c (.ptr 0 0)),dd,.v (.c (.ptr 1 0)),di 8,.v (.c (.ptr 12 0)),.v (.c (.ptr 84 0)),.v (.c (.p .bool (.v 23))),dd,dd,dd,dd,dd,.v (.c (.fn 169 [2])),di 8,.v (.agg [.p (.int .i64) (.v 9),.p (.int .i64) (.v 10),.p (.int .i64) (.v 11),.p (.int .i64) (.v 12),.p .sl (.v 13),.p .sl (.v 14),.p .sl (.v 15),.p .sl (.v 16),.p .sl (.v 17),.p .sl (.v 18),.p .sl (.v 19),.p .sl (.v 20),.p (.int .i64) (.v 21),.p (.int .i64) (.v 22)]),.tup [.agg [.p (.int .u64) (.v 24),.p (.int .u32) (.v 25),.p (.int .i64) (.v 26),.p (.int .i64) (.v 27)],.c (.p .bool (.v 23))],.v (.c (.ptr 12 4)),.v (.agg [.p .sl (.v 13),.p .sl (.v 14),.p .sl (.v 15),.p .sl (.v 16),.p .sl (.v 17),.p .sl (.v 18),.p .sl (.v 19),.p .sl (.v 20),.p (.int .i64) (.v 21),.p (.int .i64) (.v 22)]),.v (.c (.p (.int .u64) (.v 4))),.tup [.agg [.p (.int .u64) (.v 24),.p (.int .u32) (.v 25),.p (.int .i64) (.v 26),.p (.int .i64) (.v 27)],.c (.p .bool (.v 23))],.v (.agg [.p (.int .u64) (.v 24),.p (.int .u32) (.v 25),.p (.int .i64) (.v 26),.p (.int .i64) (.v 27)]),.v (.c (.p .bool (.v 23))),.v (.c (.p .bool (.v 23))),dd,dd,dd,dd,dd,dd,dd,dd,dd,dd,dd,dd,dd,dd],[(84,(.box [.p (.int .u64) (.v 24),.p (.int .u32) (.v 25),.p (.int .i64) (.v 26),.p (.int .i64) (.v 27)])),(84,(.box [.p (.int .u64) (.i 0),.p (.int .u32) (.i 0),.p (.int .i64) (.i 0),.p (.int .i64) (.i 0)])),(12,(.box [.p (.int .i64) (.v 9),.p (.int .i64) (.v 10),.p (.int .i64) (.v 11),.p (.int .i64) (.v 12),.p .sl (.v 13),.p .sl (.v 14),.p .sl (.v 15),.p .sl (.v 16),.p .sl (.v 17),.p .sl (.v 18),.p .sl (.v 19),.p .sl (.v 20),.p (.int .i64) (.v 21),.p (.int .i64) (.v 22)])),(12,(.box [.p (.int .i64) (.i 0),.p (.int .i64) (.i 0),.p (.int .i64) (.i 0),.p (.int .i64) (.i 0),.nil,.nil,.nil,.nil,.nil,.nil,.nil,.nil,.p (.int .i64) (.i 0),.p (.int .i64) (.i 0)])),(0,(.box [.p (.int .u64) (.v 4)])),(1,(.box [.own 3])),(2,(.box [.p .sl (.v 3)])),(3,(.row 165 (.v 7)))],[],116,28⟩
theorem e58_8 : execRegion TT (gC58 F40 F112 F113 t40 t112 t113) aR8 false S58_7 = some (.leaf (.st .normal S58_8)) := by kernel_rfl
def S58_9 : SSt := ⟨[dd,dd,dd,.v (.c (.ptr 0 0)),dd,.v (.c (.ptr 1 0)),di 8,.v (.c (.ptr 12 0)),.v (.c (.ptr 84 0)),.v (.c (.p .bool (.v 23))),dd,dd,dd,dd,dd,.v (.c (.fn 169 [2])),di 8,.v (.agg [.p (.int .i64) (.v 9),.p (.int .i64) (.v 10),.p (.int .i64) (.v 11),.p (.int .i64) (.v 12),.p .sl (.v 13),.p .sl (.v 14),.p .sl (.v 15),.p .sl (.v 16),.p .sl (.v 17),.p .sl (.v 18),.p .sl (.v 19),.p .sl (.v 20),.p (.int .i64) (.v 21),.p (.int .i64) (.v 22)]),.tup [.agg [.p (.int .u64) (.v 24),.p (.int .u32) (.v 25),.p (.int .i64) (.v 26),.p (.int .i64) (.v 27)],.c (.p .bool (.v 23))],.v (.c (.ptr 12 4)),.v (.agg [.p .sl (.v 13),.p .sl (.v 14),.p .sl (.v 15),.p .sl (.v 16),.p .sl (.v 17),.p .sl (.v 18),.p .sl (.v 19),.p .sl (.v 20),.p (.int .i64) (.v 21),.p (.int .i64) (.v 22)]),.v (.c (.p (.int .u64) (.v 4))),.tup [.agg [.p (.int .u64) (.v 24),.p (.int .u32) (.v 25),.p (.int .i64) (.v 26),.p (.int .i64) (.v 27)],.c (.p .bool (.v 23))],.v (.agg [.p (.int .u64) (.v 24),.p (.int .u32) (.v 25),.p (.int .i64) (.v 26),.p (.int .i64) (.v 27)]),.v (.c (.p .bool (.v 23))),.v (.c (.p .bool (.v 23))),dd,.v (.c (.ptr 12 0)),di 9,.v (.c (.ptr 12 2)),di 11,.v (.c (.ptr 12 1)),di 10,.v (.agg [.p (.int .u64) (.v 24),.p (.int .u32) (.v 25),.p (.int .i64) (.v 26),.p (.int .i64) (.v 27)]),.v (.agg [.p (.int .i64) (.v 9),.p (.int .i64) (.v 11),.p (.int .i64) (.v 10),.p (.int .u64) (.v 24),.p (.int .u32) (.v 25),.p (.int .i64) (.v 26),.p (.int .i64) (.v 27)]),di 8,.v (.agg [.p (.int .i64) (.v 9),.p (.int .i64) (.v 11),.p (.int .i64) (.v 10),.p (.int .u64) (.v 24),.p (.int .u32) (.v 25),.p (.int .i64) (.v 26),.p (.int .i64) (.v 27),.p (.int .i64) (.v 8)]),.v (.c (.own 204)),.v (.c (.own 212)),dd],[(1,(.box [.own 212])),(212,(.row 165 (.v 29))),(204,(.row 165 (.v 28))),(84,(.box [.p (.int .u64) (.v 24),.p (.int .u32) (.v 25),.p (.int .i64) (.v 26),.p (.int .i64) (.v 27)])),(84,(.box [.p (.int .u64) (.i 0),.p (.int .u32) (.i 0),.p (.int .i64) (.i 0),.p (.int .i64) (.i 0)])),(12,(.box [.p (.int .i64) (.v 9),.p (.int .i64) (.v 10),.p (.int .i64) (.v 11),.p (.int .i64) (.v 12),.p .sl (.v 13),.p .sl (.v 14),.p .sl (.v 15),.p .sl (.v 16),.p .sl (.v 17),.p .sl (.v 18),.p .sl (.v 19),.p .sl (.v 20),.p (.int .i64) (.v 21),.p (.int .i64) (.v 22)])),(12,(.box [.p (.int .i64) (.i 0),.p (.int .i64) (.i 0),.p (.int .i64) (.i 0),.p (.int .i64) (.i 0),.nil,.nil,.nil,.nil,.nil,.nil,.nil,.nil,.p (.int .i64) (.i 0),.p (.int .i64) (.i 0)])),(0,(.box [.p (.int .u64) (.v 4)])),(1,(.box [.dead])),(2,(.box [.p .sl (.v 3)]))],[],228,30⟩
theorem e58_9 : execRegion TT (gC58 F40 F112 F113 t40 t112 t113) aR9 false S58_8 = some (.op (.lit [[((.int .i64),(.v 9)),((.int .i64),(.v 11)),((.int .i64),(.v 10)),((.int .u64),(.v 24)),((.int .u32),(.v 25)),((.int .i64),(.v 26)),((.int .i64),(.v 27)),((.int .i64),(.v 8))]]) (.op (.app (.v 7) (.v 28) 8 64) (.leaf (.st .normal S58_9)))) := by kernel_rfl
def S58_10 : SSt := ⟨[dd,dd,dd,.v (.c (.ptr 0 0)),.v (.c (.own 3)),.v (.c (.ptr 1 0)),dd,dd,dd,dd,dd,dd,dd,dd,dd,.v (.c (.fn 169 [2])),dd,dd,dd,dd,dd,dd,dd,dd,dd,dd,dd,dd,dd,dd,dd,dd,dd,dd,dd,dd,dd,dd,dd,.v (.c (.own 3))],[(0,(.box [.p (.int .u64) (.v 4)])),(1,(.box [.own 3])),(2,(.box [.p .sl (.v 3)])),(3,(.row 165 (.v 7)))],[],20,8⟩
theorem e58_10 : execRegion TT (gC58 F40 F112 F113 t40 t112 t113) aR10 false SJ58 = some (.leaf (.st .normal S58_10)) := by kernel_rfl
def SF58 : SSt := ⟨(List.replicate 40 (.v (.c .dead))).set 4 (.v (.c (.own 0))),[(0,.row 165 (.v 5))],[],1,6⟩
theorem j58_0 : jmp TT 0 7 SJ58 0 .normal S58_4 = some (.leaf (.jump 0 [.r0])) := by kernel_rfl
theorem j58_8 : jmp TT 3 7 SJ58 0 .normal S58_8 = some (.leaf (.jump 0 [.v 7])) := by kernel_rfl
theorem j58_9 : jmp TT 3 7 SJ58 0 .normal S58_9 = some (.leaf (.jump 0 [.v 29])) := by kernel_rfl
theorem j58_r : jmp TT 0 5 SF58 0 .normal S58_r = some (.leaf (.jump 0 [.r0])) := by kernel_rfl
theorem j58_10 : jmp TT 0 5 SF58 0 .normal S58_10 = some (.leaf (.jump 0 [.v 7])) := by kernel_rfl
end
end
section
open Go.RowKit
open Classical
def markPost (P : Program) (rs : List ResultVar) (r : V) (H' : Hp) (X : Fx) (e : Exit) (a' : Act) (w' : World) : Prop :=
 (e = .normal ∨ e = .ret) ∧ ∃ st' D,Told { X with D := D } st' a' w' ∧ resA P rs st' = some r ∧ (∀ n b,H'.lookup n = some b → st'.heap.lookup n = some b) ∧
  (D = [] ∨ ∃ d,D = [{ target := .collected d,args := #[] }] ∧ X.w0.heap.size ≤ d ∧ w'.heap[d]? = some (.deferred (some [])))
theorem ACalls.introM {P : Program} {f : FuncId} {fn : Func} {c : Code} (hf : P.funcs[f]? = some fn) (hname : (fn.name == "runtime.NumGoroutine") = false) (hb : fn.body = some c) {n : Nat} (hn : fn.ntmps = n) {rs : List ResultVar} (hrs : fn.results = rs.toArray) {args : List V1} {H : List Blk} {r : V} {H' : Hp}
  (h : ∀ X : Fx,X.P = P → X.k0 = H.length → X.D = [] → ∀ a w,Told X (startA n args H) a w → c.wp P (markPost P rs r H' X) a w) : ACalls P f args H r H' := {
 own := ⟨fn,hf,hname,by rw [hb]; rfl⟩
 call := fun w M N vals hM hNl hNn hNi hH hsz hv => by
  subst hn
  have hrs' : rs = fn.results.toList := by rw [hrs]
  subst hrs'
  let X : Fx := ⟨P,M,fun g => ∃ n x,N n = some x ∧ x.g = some g,w,N,H.length,[]⟩
  refine (callsIn_wide (n := 0)).1 (callsIn_of_wp_marks hf hb trivial (wpIn_wide.2 (wp_mono (h X rfl rfl rfl _ w ?_) ?_)) rfl)
  · refine ⟨⟨N,[]⟩,?_,rfl⟩
    exact {
      defers := rfl
      gone := rfl
      frame := Frame.refl _ _
      mlt := hM
      nlt := hNl
      names := fun n x g h1 h2 => ⟨(hNn n x g h1 h2).1,.inl ⟨n,x,h1,h2⟩,(hNn n x g h1 h2).2⟩
      inj := hNi
      keep := fun _ _ => .inr rfl
      knext := Nat.le_refl _
      gnext := fun n hn => by cases hn
      size := by simp [startA,hsz]
      tmps := fun i v hi => by
        simp only [startA] at hi
        rw [List.getElem?_append] at hi
        simp only [List.length_map] at hi
        split at hi
        · rename_i hlt
          simp only [List.getElem?_map,Option.map_eq_some_iff] at hi
          obtain ⟨x,hx,rfl⟩ := hi
          obtain ⟨u,h1,h2⟩ := hv i x hx
          exact ⟨u,by rw [Array.getElem?_append,if_pos (by rw [hsz]; exact hlt)]; exact h1,h2⟩
        · rename_i hlt
          rw [List.getElem?_replicate] at hi
          split at hi
          · rename_i hlt2
            simp at hi; subst hi
            exact ⟨undef,by simp only [Array.getElem?_append,hsz,hlt,if_false,Array.getElem?_replicate,hlt2,if_true],RV_undef _ _ _⟩
          · cases hi
      heap := fun n b hl => by
        simp only [startA,lookup_hp] at hl
        exact .inr (hH n b hl) }
  · rintro e a' w' ⟨he,st',D,⟨E,hR,hg⟩,hr,hHl,hD⟩
    have key : ∀ w'',Rel { X with D := D } E st' a' w'' → ∃ u,(results fn a'.tmps).run P w'' = .ok u w'' ∧ ∃ (v : Value) (E' : Env),Ending.returned u = .returned v ∧ Frame X.K w w'' ∧ Back N H.length w w'' E' ∧ (∀ n b,H'.lookup n = some b → RB P M E' w'' n b) ∧ RV M E' w'' r v := fun w'' hR => by
      obtain ⟨u,h1,h2⟩ := run_results (X := { X with D := D }) hR hg hr
      exact ⟨u,h1,u,E,rfl,hR.frame,{ gone := hR.gone.trans hg,names := fun n x g k1 k2 => ⟨(hR.names n x g k1 k2).1,(hR.names n x g k1 k2).2.1⟩,inj := hR.inj,keep := hR.keep },fun n b hl => hR.row (by rw [hg]; simp) (hHl n b hl),h2⟩
    have fin : LeavesInM Fence.wide 0 P fn a'.tmps (fun e w' => ∃ (v : Value) (E' : Env),e = .returned v ∧ Frame X.K w w' ∧ Back N H.length w w' E' ∧ (∀ n b,H'.lookup n = some b → RB P M E' w' n b) ∧ RV M E' w' r v) a'.defers .returning w' := by
      have hd : a'.defers = D := hR.defers
      rw [hd]
      rcases hD with rfl | ⟨d,rfl,hdl,hdd⟩
      · exact key w' hR
      · refine ⟨by simp,.inl ⟨d,_,rfl,run_takeDeferred hdd,?_⟩⟩
        refine key _ (hR.other rfl rfl rfl (by simp) fun g o ho hi => ?_)
        refine World.putObj_heap_other fun hgd => ?_
        subst hgd
        rw [hdd] at ho; cases ho
        rcases hi with hi | hi | ⟨_,_,hi⟩
        · have : X.w0.heap.size ≤ g := hdl
          have : g < X.w0.heap.size := hi
          omega
        · cases hi
        · cases hi
    rcases he with rfl | rfl
    · exact fin
    · exact fin
 }
def Fx.base (X : Fx) (E : Env) (w : World) : Fx := ⟨X.P,X.M,fun g => ∃ n x,E.N n = some x ∧ x.g = some g,w,X.N0,X.k0,X.D⟩
theorem Rel.rebase {X : Fx} {E : Env} {st : ASt} {a : Act} {w : World} (h : Rel X E st a w) : Rel (X.base E w) E st a w := {
 defers := h.defers
 gone := h.gone
 frame := Frame.refl _ _
 mlt := fun g hg => Nat.lt_of_lt_of_le (h.mlt g hg) h.frame.size
 nlt := h.nlt
 names := fun n x g h1 h2 => ⟨(h.names n x g h1 h2).1,.inl ⟨n,x,h1,h2⟩,(h.names n x g h1 h2).2.2⟩
 inj := h.inj
 keep := h.keep
 knext := h.knext
 gnext := h.gnext
 size := h.size
 tmps := h.tmps
 heap := h.heap
 }
theorem Rel.unbase {X : Fx} {E E' : Env} {st st' : ASt} {a a' : Act} {w w' : World} (h : Rel X E st a w) (k : Rel (X.base E w) E' st' a' w') : Rel X E' st' a' w' := {
 defers := k.defers
 gone := k.gone
 frame := h.frame.trans k.frame fun g hg ⟨n,x,h1,h2⟩ => (h.names n x g h1 h2).2.1.resolve_right (by omega)
 mlt := h.mlt
 nlt := k.nlt
 names := fun n x g h1 h2 => ⟨(k.names n x g h1 h2).1,(by
  rcases (k.names n x g h1 h2).2.1 with ⟨m,y,q1,q2⟩ | q
  · exact (h.names m y g q1 q2).2.1
  · exact .inr (Nat.le_trans h.frame.size q)),(k.names n x g h1 h2).2.2⟩
 inj := k.inj
 keep := k.keep
 knext := k.knext
 gnext := k.gnext
 size := k.size
 tmps := k.tmps
 heap := k.heap
 }
def Env.off (E : Env) (S : List Nat) : Prop := ∀ n x g,E.N n = some x → x.g = some g → g ∉ S
theorem Rel.unbase_off {X : Fx} {E E' : Env} {st st' : ASt} {a a' : Act} {w w' : World} {S : List Nat} (h : Rel X E st a w) (k : Rel (X.base E w) E' st' a' w') (hS : E.off S) (hl : ∀ g ∈ S,g < w.heap.size) :
   E'.off S ∧ (∀ g ∈ S,w'.heap[g]? = w.heap[g]?) ∧ w.heap.size ≤ w'.heap.size := by
 refine ⟨fun n x g h1 h2 hg => ?_,fun g hg => k.frame.block g (hl g hg) fun ⟨n,x,h1,h2⟩ => hS n x g h1 h2 hg,k.frame.size⟩
 rcases (k.names n x g h1 h2).2.1 with ⟨m,y,q1,q2⟩ | q
 · exact hS m y g q1 q2 hg
 · have := hl g hg
   have : w.heap.size ≤ g := q
   omega
theorem segIn {l n : Nat} {X : Fx} {c : Code} {Q : Exit → ASt → Prop} {st : ASt} (hA : ∀ X' : Fx,X'.P = X.P → X'.k0 = X.k0 → AwIn l n X' c Q st) {E : Env} {a : Act} {w : World} (h : Rel X E st a w) (hg : st.gone = []) {S : List Nat} (hS : E.off S) (hl : ∀ g ∈ S,g < w.heap.size) :
  c.wpIn (Fence.wide.inRound l) n X.P (fun e a' w' => ∃ st' E',Q e st' ∧ st'.gone = [] ∧ Rel X E' st' a' w' ∧ E'.off S ∧ (∀ g ∈ S,w'.heap[g]? = w.heap[g]?) ∧ w.heap.size ≤ w'.heap.size) a w := by
 refine wpIn_mono (hA (X.base E w) rfl rfl a w ⟨E,h.rebase,hg⟩) ?_
 rintro e a' w' ⟨st',h1,E',h2,h3⟩
 exact ⟨st',E',h1,h3,h.unbase h2,h.unbase_off h2 hS hl⟩
theorem seg {X : Fx} {c : Code} {Q : Exit → ASt → Prop} {st : ASt} (hA : ∀ X' : Fx,X'.P = X.P → X'.k0 = X.k0 → Aw X' c Q st) {E : Env} {a : Act} {w : World} (h : Rel X E st a w) (hg : st.gone = []) {S : List Nat} (hS : E.off S) (hl : ∀ g ∈ S,g < w.heap.size) :
  c.wp X.P (fun e a' w' => ∃ st' E',Q e st' ∧ st'.gone = [] ∧ Rel X E' st' a' w' ∧ E'.off S ∧ (∀ g ∈ S,w'.heap[g]? = w.heap[g]?) ∧ w.heap.size ≤ w'.heap.size) a w := by
 refine wp_mono (hA (X.base E w) rfl rfl a w ⟨E,h.rebase,hg⟩) ?_
 rintro e a' w' ⟨st',h1,E',h2,h3⟩
 exact ⟨st',E',h1,h3,h.unbase h2,h.unbase_off h2 hS hl⟩
theorem awIn_post {l n : Nat} {X : Fx} {c : Code} {Q : Exit → ASt → Prop} {st : ASt} (h : AwIn l n X c (fun e st => ∃ st',Le X st st' ∧ Q e st') st) : AwIn l n X c Q st := fun a w ht => by
 refine wpIn_mono (h a w ht) ?_
 rintro e a' w' ⟨st',⟨st2,h1,h2⟩,h3⟩
 exact ⟨st2,h2,h1 a' w' h3⟩
def V.pin (k : Nat) : V → Bool
 | .v (.c .dead) => true
 | .v (.c (.ptr n _)) => decide (n < k)
 | .v (.c (.fn _ caps)) => caps.all fun n => decide (n < k)
 | _ => false
theorem Rel.again {X : Fx} {E0 E : Env} {st0 st : ASt} {a0 a : Act} {w0 w : World} (h0 : Rel X E0 st0 a0 w0) (h : Rel X E st a w) (hN : ∀ m,m < X.k0 → E0.N m = X.N0 m) (hg0 : st0.gone = []) (hg : st.gone = []) (hst : st.tmps = st0.tmps) (hp : st0.tmps.all (V.pin X.k0) = true) : Rel X E st a0 w := {
 defers := h0.defers
 gone := h.gone
 frame := h.frame
 mlt := h.mlt
 nlt := h.nlt
 names := h.names
 inj := h.inj
 keep := h.keep
 knext := h.knext
 gnext := h.gnext
 size := by rw [hst]; exact h0.size
 heap := h.heap
 tmps := fun i v hi => by
  obtain ⟨u,h1,h2⟩ := h.tmps i v hi
  rw [hst] at hi
  obtain ⟨u0,h3,h4⟩ := h0.tmps i v hi
  refine ⟨u0,h3,?_⟩
  have hv := List.all_eq_true.1 hp v (List.mem_of_getElem? hi)
  have name : ∀ n (Q : Nm → Prop) (Q' : Nm → Prop),n < X.k0 → Nmd E0 n Q → Nmd E n Q' → Nmd E n Q := fun n Q Q' hn hq hq' => by
   obtain ⟨x,k1,k2⟩ := Nmd.get hq (by rw [h0.gone,hg0]; simp)
   obtain ⟨x',k3,_⟩ := Nmd.get hq' (by rw [h.gone,hg]; simp)
   refine .inr ⟨x,?_,k2⟩
   rcases h.keep n hn with k4 | k4
   · rw [k4] at k3; cases k3
   · rw [k4,← hN n hn,k1]
  cases v with
  | tup => cases hv
  | v x =>
   cases x with
   | agg => cases hv
   | c c =>
     cases c <;> first
       | trivial
       | (cases hv; done)
       | skip
     · rename_i n off
       exact name n _ _ (by simpa [V.pin] using hv) h4 h2
     · rename_i f caps
       obtain ⟨us,q1,q2,q3⟩ := h4
       obtain ⟨us',_,_,q6⟩ := h2
       refine ⟨us,q1,q2,fun j n hj => ?_⟩
       obtain ⟨u,k1,k2⟩ := q3 j n hj
       obtain ⟨u',k3,k4⟩ := q6 j n hj
       refine ⟨u,k1,name n _ _ ?_ k2 k4⟩
       have := List.all_eq_true.1 (show caps.all (fun n => decide (n < X.k0)) = true from hv) n (List.mem_of_getElem? hj)
       simpa using this
 }
theorem piece {C : CTab} (hC : CTab.ok Tryz.prog C) {c : Code} {k0 n r : Nat} {ex : List (Nat × Nat)} {S S' : SSt} {u : Fir} {ρ ρ' : List L} {e : Ex} (h : exec TT C k0 c n ex r S = some u) (hg : S.gone = []) (hl : ρ.length = S.nv) (hd : u.den ρ = some (.st e S',ρ')) {X : Fx} (hP : X.P = Tryz.prog) (hk : X.k0 = k0) :
  S'.gone = [] ∧ S'.nv = ρ'.length ∧ Aw X c (fun e' st => e' = e.to ∧ st = S'.den ρ') (S.den ρ) := by
 obtain ⟨e1,S1,h1,h2,h3,h4,h5⟩ := exec_ok TT_ok hC mo_ok c hg h ρ _ ρ' hl hd
 cases h1
 exact ⟨h4,h2,h5 X hP hk _ ⟨rfl,rfl⟩⟩
theorem pieceIn {C : CTab} (hC : CTab.ok Tryz.prog C) {id : Nat} {ops : Array Oper} (hnd : noDefer ops = true) {S S' : SSt} {u : Fir} {ρ ρ' : List L} {e : Ex} (h : execRegion TT C ops false S = some u) (hl : ρ.length = S.nv) (hd : u.den ρ = some (.st e S',ρ')) {X : Fx} (hP : X.P = Tryz.prog) {l n : Nat} {Q : Exit → ASt → Prop} (hQ : Q .normal (S'.den ρ')) :
  AwIn l n X (.region id ops false) Q (S.den ρ) := by
 obtain ⟨S1,h1,h2,h3,h4,h5⟩ := execRegionIn_ok (k0 := 0) (id := id) TT_ok hC hnd h hl hd (l := l) (n := n)
 cases h1
 exact h5 X hP _ hQ
end
end Go.Proofs.YtndegphojkiblaaGreatDoor
