/- Towards the last file's theorem: part 26. -/
import Derived.Test.YtndegphojkiblaaGreatDoorG25
import Derived.WalkKit
set_option linter.unusedSimpArgs false
set_option linter.unusedVariables false
namespace Go.Proofs.YtndegphojkiblaaGreatDoor
section
open Go.RowKit
set_option maxRecDepth 100000
set_option maxHeartbeats 4000000
noncomputable section
def fir70 : Fir :=
 .join
 (.op (.call 34 F34 [.v 0] 1 []) <|
 .op (.not (.v 3)) <|
 .ite (.v 4)
 (.leaf (.jump 0 [.b true]))
 (.op (.len (.v 1)) <|
 .op (.bi .gtr .i64 (.v 5) (.i 1048576)) <|
 .leaf (.jump 0 [.v 6])))
 (.ite (.v 3)
 (.leaf (.jump 0 [.b false]))
 (.join
 (.loop [.v 1,.i 0]
 (.op (.len (.v 2)) <|
 .op (.bi .lss .i64 (.v 5) (.v 6)) <|
 .ite (.v 7)
 (.op (.row (.v 2) (.v 5) 3) <|
 .op (.cl (.v 8) 0 (.int .i64)) <|
 .op (.cl (.v 8) 1 .sl) <|
 .op (.cl (.v 8) 2 .bool) <|
 .join
 (.op (.bi .lss .i64 (.v 9) (.i 0)) <|
 .ite (.v 12)
 (.leaf (.jump 0 [.b true]))
 (.op (.bi .gtr .i64 (.v 9) (.i 1048576)) <|
 .ite (.v 13)
 (.leaf (.jump 0 [.b true]))
 (.ite (.v 11)
 (.op (.len (.v 10)) <|
 .op (.bi .gtr .i64 (.v 14) (.i 0)) <|
 .ite (.v 15)
 (.leaf (.jump 0 [.b true]))
 (.op (.len (.v 10)) <|
 .op (.bi .gtr .i64 (.v 16) (.i 1048576)) <|
 .leaf (.jump 0 [.v 17])))
 (.op (.len (.v 10)) <|
 .op (.bi .gtr .i64 (.v 14) (.i 1048576)) <|
 .leaf (.jump 0 [.v 15])))))
 (.ite (.v 12)
 (.leaf (.jump 2 [.b false]))
 (.op (.call 33 F33 [.v 4,.v 9,.v 10,.v 11] 1 []) <|
 .op (.len (.v 13)) <|
 .op (.bi .gtr .i64 (.v 14) (.i 1048576)) <|
 .ite (.v 15)
 (.leaf (.jump 2 [.b false]))
 (.op (.bi .add .i64 (.v 5) (.i 1)) <|
 .leaf (.jump 0 [.v 13,.v 16])))))
 (.leaf (.jump 1 []))))
 (.leaf (.jump 0 [.b true]))))
def F70 := Fo fir70
def s70 : Sig := ⟨91,[.agg [.p .str (.v 0),ps 1,ps 2]],[],3,1,.v (.c (.p .bool (.v 3))),[],F70,70⟩
theorem ok70 : s70.ok Tryz.prog := okS fir70 TT_ok (.cons ok34 (.cons ok33 .nil)) Tryz.func91 (by kernel_rfl) (by kernel_rfl) rfl
def fir71 : Fir :=
 .join
 (.op (.bi .lss .i64 (.v 0) (.i 0)) <|
 .ite (.v 3)
 (.leaf (.jump 0 [.b true]))
 (.op (.bi .lss .i64 (.v 1) (.i (-1))) <|
 .ite (.v 4)
 (.leaf (.jump 0 [.b true]))
 (.op (.len (.v 2)) <|
 .op (.bi .gtr .i64 (.v 5) (.i 256)) <|
 .leaf (.jump 0 [.v 6]))))
 (.ite (.v 3)
 (.leaf (.jump 0 [.b false]))
 (.join
 (.loop [.i 0]
 (.op (.len (.v 2)) <|
 .op (.bi .lss .i64 (.v 4) (.v 5)) <|
 .ite (.v 6)
 (.join
 (.op (.row (.v 2) (.v 4) 3) <|
 .op (.cl (.v 7) 0 .str) <|
 .op (.cl (.v 7) 1 .sl) <|
 .op (.cl (.v 7) 2 .sl) <|
 .op (.call 70 F70 [.v 8,.v 9,.v 10] 1 []) <|
 .op (.not (.v 11)) <|
 .ite (.v 12)
 (.leaf (.jump 0 [.b true]))
 (.op (.bi .gtr .i64 (.v 4) (.i 0)) <|
 .ite (.v 13)
 (.op (.row (.v 2) (.v 4) 3) <|
 .op (.cl (.v 14) 0 .str) <|
 .op (.bi .sub .i64 (.v 4) (.i 1)) <|
 .op (.row (.v 2) (.v 16) 3) <|
 .op (.cl (.v 17) 0 .str) <|
 .op (.bs .leq (.v 15) (.v 18)) <|
 .leaf (.jump 0 [.v 19]))
 (.leaf (.jump 0 [.b false]))))
 (.ite (.v 7)
 (.leaf (.jump 2 [.b false]))
 (.op (.bi .add .i64 (.v 4) (.i 1)) <|
 .leaf (.jump 0 [.v 8]))))
 (.leaf (.jump 1 []))))
 (.leaf (.jump 0 [.b true]))))
def F71 := Fo fir71
def s71 : Sig := ⟨45,[.agg [pi 0,pi 1,ps 2]],[],3,1,.v (.c (.p .bool (.v 3))),[],F71,71⟩
theorem ok71 : s71.ok Tryz.prog := okS fir71 TT_ok (.cons ok70 .nil) Tryz.func45 (by kernel_rfl) (by kernel_rfl) rfl
def fir72 : Fir :=
 .op (.len (.v 0)) <|
 .op (.bi .lss .i64 (.v 1) (.i 16)) <|
 .ite (.v 2)
 (.leaf (.jump 0 [.i 4,.i 0,.i 0,.i 0]))
 (.op (.len (.v 0)) <|
 .op (.part (.v 0) (.i 0) (.i 4) 1) <|
 .op (.str (.v 4)) <|
 .op (.bs .neq (.v 5) (.s ⟨#[78,86,79,76]⟩)) <|
 .ite (.v 6)
 (.leaf (.jump 0 [.i 3,.i 0,.i 0,.i 0]))
 (.op (.len (.v 0)) <|
 .op (.part (.v 0) (.i 0) (.i 12) 1) <|
 .op (.call 41 F41 [.v 8] 1 []) <|
 .op (.str (.v 9)) <|
 .op (.len (.v 0)) <|
 .op (.part (.v 0) (.i 12) (.i 16) 1) <|
 .op (.str (.v 12)) <|
 .op (.bs .neq (.v 10) (.v 13)) <|
 .ite (.v 14)
 (.leaf (.jump 0 [.i 5,.i 0,.i 0,.i 0]))
 (.op (.len (.v 0)) <|
 .op (.part (.v 0) (.i 4) (.i 6) 1) <|
 .op (.call 40 F40 [.v 16] 1 []) <|
 .op (.conv .i64 (.v 17)) <|
 .op (.len (.v 0)) <|
 .op (.part (.v 0) (.i 6) (.i 8) 1) <|
 .op (.call 40 F40 [.v 20] 1 []) <|
 .op (.conv .i64 (.v 21)) <|
 .op (.len (.v 0)) <|
 .op (.part (.v 0) (.i 8) (.i 12) 1) <|
 .op (.call 40 F40 [.v 24] 1 []) <|
 .op (.conv .i64 (.v 25)) <|
 .op (.call 39 F39 [.v 18,.v 22,.v 26] 1 []) <|
 .op (.not (.v 27)) <|
 .ite (.v 28)
 (.leaf (.jump 0 [.i 3,.i 0,.i 0,.i 0]))
 (.leaf (.jump 0 [.i 0,.v 18,.v 22,.v 26])))))
def F72 := Fo fir72
def s72 : Sig := ⟨64,[cs 0],[],1,4,.tup [.agg [pi 2,pi 3,pi 4],ci 1],[],F72,72⟩
theorem ok72 : s72.ok Tryz.prog := okS fir72 TT_ok (.cons ok41 (.cons ok40 (.cons ok39 .nil))) Tryz.func64 (by kernel_rfl) (by kernel_rfl) rfl
def fir73 : Fir :=
 .op (.call 39 F39 [.v 0,.v 1,.v 2] 1 []) <|
 .op (.not (.v 3)) <|
 .ite (.v 4)
 (.leaf (.jump 0 [.i 1,.r0]))
 (.op (.lit [[((.int .u8),(.i 78))],[((.int .u8),(.i 86))],[((.int .u8),(.i 79))],[((.int .u8),(.i 76))]]) <|
 .op (.row (.v 5) (.i 0) 1) <|
 .op (.conv .u64 (.v 0)) <|
 .op (.call 42 F42 [.v 7,.i 2] 1 []) <|
 .op (.app (.v 5) (.v 8) 1 1) <|
 .op (.conv .u64 (.v 1)) <|
 .op (.call 42 F42 [.v 10,.i 2] 1 []) <|
 .op (.app (.v 9) (.v 11) 1 1) <|
 .op (.conv .u64 (.v 2)) <|
 .op (.call 42 F42 [.v 13,.i 4] 1 []) <|
 .op (.app (.v 12) (.v 14) 1 1) <|
 .op (.call 41 F41 [.v 15] 1 [0]) <|
 .op (.app (.v 15) (.v 16) 1 1) <|
 .leaf (.jump 0 [.i 0,.v 17]))
def F73 := Fo fir73
def s73 : Sig := ⟨117,[.agg [pi 0,pi 1,pi 2]],[],3,2,.tup [.c (.own 0),ci 3],[(0,(.row 5 (.v 4)))],F73,73⟩
theorem ok73 : s73.ok Tryz.prog := okS fir73 TT_ok (.cons ok42 (.cons ok41 (.cons ok39 .nil))) Tryz.func117 (by kernel_rfl) (by kernel_rfl) rfl
def fir74 : Fir :=
 .op (.len (.v 3)) <|
 .op (.bi .gtr .i64 (.v 4) (.i 4096)) <|
 .ite (.v 5)
 (.leaf (.jump 0 [.i 8,.r0]))
 (.op (.call 43 F43 (w 0 4) 1 []) <|
 .op (.not (.v 6)) <|
 .ite (.v 7)
 (.leaf (.jump 0 [.i 1,.r0]))
 (.op (.lit [[((.int .u8),(.i 78))],[((.int .u8),(.i 165))],[((.int .u8),(.i 0))],[((.int .u8),(.i 0))]]) <|
 .join
 (.ite (.v 2)
 (.op (.row (.v 8) (.i 2) 1) <|
 .op (.set (.v 8) (.i 2) 0 [((.int .u8),(.i 1))]) <|
 .leaf (.jump 0 [.v 10]))
 (.leaf (.jump 0 [.v 8])))
 (.op (.conv .u64 (.v 1)) <|
 .op (.call 42 F42 [.v 10,.i 4] 1 []) <|
 .op (.app (.v 9) (.v 11) 1 1) <|
 .op (.call 42 F42 [.v 0,.i 8] 1 []) <|
 .op (.app (.v 12) (.v 13) 1 1) <|
 .op (.len (.v 3)) <|
 .op (.conv .u64 (.v 15)) <|
 .op (.call 42 F42 [.v 16,.i 4] 1 []) <|
 .op (.app (.v 14) (.v 17) 1 1) <|
 .op (.app (.v 18) (.v 3) 1 1) <|
 .op (.call 41 F41 [.v 19] 1 [0]) <|
 .op (.app (.v 19) (.v 20) 1 1) <|
 .join
 (.loop [.v 21]
 (.op (.len (.v 22)) <|
 .op (.len (.v 3)) <|
 .op (.call 44 F44 [.v 24] 1 []) <|
 .op (.bi .lss .i64 (.v 23) (.v 25)) <|
 .ite (.v 26)
 (.op (.lit [[((.int .u8),(.i 0))]]) <|
 .op (.app (.v 22) (.v 27) 1 1) <|
 .leaf (.jump 0 [.v 28]))
 (.leaf (.jump 1 [.v 22]))))
 (.leaf (.jump 0 [.i 0,.v 22])))))
def F74 := Fo fir74
def s74 : Sig := ⟨78,[.agg [.p (.int .u64) (.v 0),.p (.int .u32) (.v 1),.p .bool (.v 2),ps 3]],[],4,2,.tup [.c (.own 0),ci 4],[(0,(.row 5 (.v 5)))],F74,74⟩
theorem ok74 : s74.ok Tryz.prog := okS fir74 TT_ok (.cons ok44 (.cons ok43 (.cons ok42 (.cons ok41 .nil)))) Tryz.func78 (by kernel_rfl) (by kernel_rfl) rfl
def fir75 : Fir :=
 .op (.call 48 F48 [.v 0] 1 []) <|
 .op (.not (.v 1)) <|
 .ite (.v 2)
 (.leaf (.jump 0 [.i 1,.r0]))
 (.join
 (.loop [.i 0,.r0]
 (.op (.len (.v 0)) <|
 .op (.bi .lss .i64 (.v 3) (.v 5)) <|
 .ite (.v 6)
 (.op (.row (.v 0) (.v 3) 4) <|
 .op (.cl (.v 7) 0 (.int .u64)) <|
 .op (.call 42 F42 [.v 8,.i 8] 1 []) <|
 .op (.row (.v 0) (.v 3) 4) <|
 .op (.cl (.v 10) 1 (.int .u32)) <|
 .op (.conv .u64 (.v 11)) <|
 .op (.call 42 F42 [.v 12,.i 4] 1 []) <|
 .op (.app (.v 9) (.v 13) 1 1) <|
 .op (.row (.v 0) (.v 3) 4) <|
 .op (.cl (.v 15) 2 (.int .i64)) <|
 .op (.conv .u64 (.v 16)) <|
 .op (.call 42 F42 [.v 17,.i 4] 1 []) <|
 .op (.app (.v 14) (.v 18) 1 1) <|
 .op (.row (.v 0) (.v 3) 4) <|
 .op (.cl (.v 20) 3 (.int .i64)) <|
 .op (.conv .u64 (.v 21)) <|
 .op (.call 42 F42 [.v 22,.i 4] 1 []) <|
 .op (.app (.v 19) (.v 23) 1 1) <|
 .op (.app (.v 4) (.v 24) 1 1) <|
 .op (.call 41 F41 [.v 24] 1 [0]) <|
 .op (.app (.v 25) (.v 26) 1 1) <|
 .op (.bi .add .i64 (.v 3) (.i 1)) <|
 .leaf (.jump 0 [.v 28,.v 27]))
 (.leaf (.jump 1 [.v 4]))))
 (.leaf (.jump 0 [.i 0,.v 3])))
def F75 := Fo fir75
def s75 : Sig := ⟨133,[cs 0],[],1,2,.tup [.c (.own 0),ci 1],[(0,(.row 5 (.v 2)))],F75,75⟩
theorem ok75 : s75.ok Tryz.prog := okS fir75 TT_ok (.cons ok48 (.cons ok42 (.cons ok41 .nil))) Tryz.func133 (by kernel_rfl) (by kernel_rfl) rfl
def fir76 : Fir :=
 .op (.call 46 F46 [.v 0] 1 []) <|
 .join
 (.loop [.b false,.i 0,.r0]
 (.op (.len (.v 5)) <|
 .op (.bi .lss .i64 (.v 7) (.v 9)) <|
 .ite (.v 10)
 (.join
 (.join
 (.join
 (.op (.not (.v 6)) <|
 .ite (.v 11)
 (.op (.row (.v 5) (.v 7) 4) <|
 .op (.rc (.v 5) (.v 7) 0 (.int .u64)) <|
 .op (.bi .geq .u64 (.v 13) (.v 1)) <|
 .leaf (.jump 0 [.v 14]))
 (.leaf (.jump 0 [.b false])))
 (.ite (.v 11)
 (.op (.lit [[((.int .u64),(.v 1)),((.int .u32),(.v 2)),((.int .i64),(.v 3)),((.int .i64),(.v 4))]]) <|
 .op (.app (.v 8) (.v 12) 4 32) <|
 .leaf (.jump 0 [.b true,.v 13]))
 (.leaf (.jump 0 [.v 6,.v 8]))))
 (.op (.row (.v 5) (.v 7) 4) <|
 .op (.rc (.v 5) (.v 7) 0 (.int .u64)) <|
 .op (.bi .neq .u64 (.v 14) (.v 1)) <|
 .ite (.v 15)
 (.op (.row (.v 5) (.v 7) 4) <|
 .op (.rc (.v 5) (.v 7) 0 (.int .u64)) <|
 .op (.rc (.v 5) (.v 7) 1 (.int .u32)) <|
 .op (.rc (.v 5) (.v 7) 2 (.int .i64)) <|
 .op (.rc (.v 5) (.v 7) 3 (.int .i64)) <|
 .op (.lit [[((.int .u64),(.v 17)),((.int .u32),(.v 18)),((.int .i64),(.v 19)),((.int .i64),(.v 20))]]) <|
 .op (.app (.v 12) (.v 21) 4 32) <|
 .leaf (.jump 0 [.v 11,.v 22]))
 (.leaf (.jump 0 [.v 11,.v 12]))))
 (.op (.bi .add .i64 (.v 7) (.i 1)) <|
 .leaf (.jump 0 [.v 11,.v 13,.v 12])))
 (.leaf (.jump 1 [.v 6,.v 8]))))
 (.join
 (.op (.not (.v 6)) <|
 .ite (.v 8)
 (.op (.lit [[((.int .u64),(.v 1)),((.int .u32),(.v 2)),((.int .i64),(.v 3)),((.int .i64),(.v 4))]]) <|
 .op (.app (.v 7) (.v 9) 4 32) <|
 .leaf (.jump 0 [.v 10]))
 (.leaf (.jump 0 [.v 7])))
 (.leaf (.jump 0 [.v 8])))
def F76 := Fo fir76
def s76 : Sig := ⟨187,[cs 0,.agg [.p (.int .u64) (.v 1),.p (.int .u32) (.v 2),pi 3,pi 4]],[],5,1,.v (.c (.own 0)),[(0,(.row 25 (.v 5)))],F76,76⟩
theorem ok76 : s76.ok Tryz.prog := okS fir76 TT_ok (.cons ok46 .nil) Tryz.func187 (by kernel_rfl) (by kernel_rfl) rfl
def fir77 : Fir :=
 .op (.call 46 F46 [.v 0] 1 []) <|
 .join
 (.loop [.i 0,.r0]
 (.op (.len (.v 2)) <|
 .op (.bi .lss .i64 (.v 3) (.v 5)) <|
 .ite (.v 6)
 (.join
 (.op (.row (.v 2) (.v 3) 4) <|
 .op (.rc (.v 2) (.v 3) 0 (.int .u64)) <|
 .op (.bi .neq .u64 (.v 8) (.v 1)) <|
 .ite (.v 9)
 (.op (.row (.v 2) (.v 3) 4) <|
 .op (.rc (.v 2) (.v 3) 0 (.int .u64)) <|
 .op (.rc (.v 2) (.v 3) 1 (.int .u32)) <|
 .op (.rc (.v 2) (.v 3) 2 (.int .i64)) <|
 .op (.rc (.v 2) (.v 3) 3 (.int .i64)) <|
 .op (.lit [[((.int .u64),(.v 11)),((.int .u32),(.v 12)),((.int .i64),(.v 13)),((.int .i64),(.v 14))]]) <|
 .op (.app (.v 4) (.v 15) 4 32) <|
 .leaf (.jump 0 [.v 16]))
 (.leaf (.jump 0 [.v 4])))
 (.op (.bi .add .i64 (.v 3) (.i 1)) <|
 .leaf (.jump 0 [.v 8,.v 7])))
 (.leaf (.jump 1 [.v 4]))))
 (.leaf (.jump 0 [.v 3]))
def F77 := Fo fir77
def s77 : Sig := ⟨185,[cs 0,.c (.p (.int .u64) (.v 1))],[],2,1,.v (.c (.own 0)),[(0,(.row 25 (.v 2)))],F77,77⟩
theorem ok77 : s77.ok Tryz.prog := okS fir77 TT_ok (.cons ok46 .nil) Tryz.func185 (by kernel_rfl) (by kernel_rfl) rfl
end
end
section
open Go.RowKit
theorem iterO_ind {A R : Type} {f : A → Option (A ⊕ R)} (I : A → Prop) (Q : R → Prop) (mu : A → Nat)
  (step : ∀ a,I a → (∃ r,f a = some (.inr r) ∧ Q r) ∨ (∃ a',f a = some (.inl a') ∧ I a' ∧ mu a' < mu a)) :
  ∀ a,I a → ∃ r,iterO f a = some r ∧ Q r := by
 have key : ∀ (n : Nat) (a : A),mu a ≤ n → I a → ∃ r,iterO f a = some r ∧ Q r := by
  intro n
  induction n with
  | zero =>
   intro a hm hI
   rcases step a hI with ⟨r,h1,h2⟩ | ⟨a',_,_,h3⟩
   · exact ⟨r,iterO_inr h1,h2⟩
   · omega
  | succ n ih =>
   intro a hm hI
   rcases step a hI with ⟨r,h1,h2⟩ | ⟨a',h1,h2,h3⟩
   · exact ⟨r,iterO_inr h1,h2⟩
   · obtain ⟨r,h4,h5⟩ := ih a' (by omega) h2
     exact ⟨r,by rw [iterO_inl h1]; exact h4,h5⟩
 exact fun a hI => key _ a (Nat.le_refl _) hI
def Fir.wp (f : Fir) (ρ : List L) (Q : Lf × List L → Prop) : Prop := ∃ r,f.den ρ = some r ∧ Q r
def joinQ (rest : Fir) (ρ : List L) (Q : Lf × List L → Prop) (r : Lf × List L) : Prop := match r with
 | (.jump 0 args,ρ') => rest.wp (ρ ++ args.map (At.ev ρ')) Q
 | (.jump (k + 1) args,ρ') => Q (.jump k args,ρ')
 | r => Q r
def loopQ (I : List L → Prop) (mu : List L → Nat) (a : List L) (Q : Lf × List L → Prop) (r : Lf × List L) : Prop := match r with
 | (.jump 0 args,ρ') => I (args.map (At.ev ρ')) ∧ mu (args.map (At.ev ρ')) < mu a
 | (.jump (k + 1) args,ρ') => Q (.jump k args,ρ')
 | r => Q r
def outQ (Q : List L → Prop) (r : Lf × List L) : Prop := match r with
 | (.jump 0 args,ρ') => Q (args.map (At.ev ρ'))
 | _ => False
section
variable {ρ : List L} {Q : Lf × List L → Prop}
theorem wp_leaf {x : Lf} : (Fir.leaf x).wp ρ Q = Q (x,ρ) := by
 apply propext; constructor
 · rintro ⟨r,h1,h2⟩; cases h1; exact h2
 · intro h; exact ⟨_,rfl,h⟩
theorem wp_op {nd : Nd} {k : Fir} : (Fir.op nd k).wp ρ Q = match nd.ev ρ with | some ls => k.wp (ρ ++ ls) Q | none => False := by
 unfold Fir.wp; simp only [Fir.den]
 cases nd.ev ρ with
 | none => simp
 | some ls => rfl
theorem wp_ite {c : At} {a b : Fir} : (Fir.ite c a b).wp ρ Q = if (c.ev ρ).asB = true then a.wp ρ Q else b.wp ρ Q := by
 unfold Fir.wp; simp only [Fir.den]
 split <;> rfl
theorem wp_join {a b : Fir} : (Fir.join a b).wp ρ Q = a.wp ρ (joinQ b ρ Q) := by
 apply propext; unfold Fir.wp; simp only [Fir.den]
 constructor
 · rintro ⟨r,h1,h2⟩
   split at h1
   · rename_i args ρ' ha; exact ⟨_,ha,r,h1,h2⟩
   · rename_i k args ρ' ha; cases h1; exact ⟨_,ha,h2⟩
   · rename_i h3 h4
     refine ⟨r,h1,?_⟩
     obtain ⟨lf,ρ'⟩ := r
     cases lf with
     | st => exact h2
     | jump k args => cases k with
      | zero => exact absurd h1 (h3 _ _)
      | succ k => exact absurd h1 (h4 _ _ _)
 · rintro ⟨⟨lf,ρ'⟩,h1,h2⟩
   rw [h1]
   cases lf with
   | st => exact ⟨_,rfl,h2⟩
   | jump k args => cases k with
     | zero => exact h2
     | succ k => exact ⟨_,rfl,h2⟩
theorem wp_loop {init : List At} {body : Fir} (I : List L → Prop) (mu : List L → Nat) (h0 : I (init.map (At.ev ρ))) (step : ∀ a,I a → body.wp (ρ ++ a) (loopQ I mu a Q)) : (Fir.loop init body).wp ρ Q := by
 unfold Fir.wp; simp only [Fir.den]
 refine iterO_ind (f := fun a => loopStep (body.den (ρ ++ a))) I Q mu (fun a ha => ?_) _ h0
 obtain ⟨⟨lf,ρ'⟩,h1,h2⟩ := step a ha
 cases lf with
 | st e S => exact .inl ⟨(.st e S,ρ'),by rw [h1]; rfl,h2⟩
 | jump k args => cases k with
  | zero => exact .inr ⟨_,by rw [h1]; rfl,h2.1,h2.2⟩
  | succ k => exact .inl ⟨(.jump k args,ρ'),by rw [h1]; rfl,h2⟩
theorem Fir.wp.mono {f : Fir} {Q' : Lf × List L → Prop} (h : f.wp ρ Q) (hQ : ∀ r,Q r → Q' r) : f.wp ρ Q' := by
 obtain ⟨r,h1,h2⟩ := h
 exact ⟨r,h1,hQ r h2⟩
end
theorem outO_of_wp {f : Fir} {ls : List L} {Q : List L → Prop} (h : f.wp ls (outQ Q)) : ∃ o,Fo f ls = some o ∧ Q o := by
 obtain ⟨⟨lf,ρ'⟩,h1,h2⟩ := h
 cases lf with
 | st => exact h2.elim
 | jump k args => cases k with
  | zero => exact ⟨_,by unfold Fo; rw [h1]; rfl,h2⟩
  | succ k => exact h2.elim
theorem asI_i (n : Int) : (L.i n).asI = n := rfl
theorem asB_b (b : Bool) : (L.b b).asB = b := rfl
theorem asR_r (r : List (List PV)) : (L.r r).asR = r := rfl
section
variable {α : Type} {a : α} {l m : List α} {n : Nat}
theorem d1 : (a :: l) ++ m = a :: (l ++ m) := rfl
theorem d2 : ([] : List α) ++ m = m := rfl
theorem d3 : (a :: l)[n + 1]? = l[n]? := rfl
theorem d4 : (a :: l)[0]? = some a := rfl
theorem d5 {b : α} : (some a).getD b = a := rfl
theorem d6 {n : Int} : (L.i n).asI = n := rfl
theorem d7 {b : Bool} : (L.b b).asB = b := rfl
theorem d8 {b : List (List PV)} : (L.r b).asR = b := rfl
theorem d9 {b : List PV} : (L.c b).asC = b := rfl
theorem e0 {b : ByteArray} : (L.s b).asS = b := rfl
end
namespace AI
def bU8 : List AC := [.int .u8 0 255]
def sm42 : Summ := ⟨2,1,{ fs := [⟨4,0,8⟩,⟨0,4,0⟩] },[{ fs := [⟨8,4,0⟩,⟨4,8,0⟩,⟨8,0,8⟩,⟨0,8,0⟩],rw := [(2,some bU8)] }]⟩
theorem wrap64 {n : Int} (h0 : -9223372036854775808 ≤ n) (h1 : n ≤ 9223372036854775807) : IntKind.wrap .i64 n = n := wrap_in .i64 h0 h1
theorem wrap_range (k : IntKind) (n : Int) : k.min ≤ k.wrap n ∧ k.wrap n ≤ k.max := by
 have := (kRg_ok (k := some k) (t := 1) (τ := [.i (k.wrap n)]) (n := n) rfl)
 have h1 := this _ List.mem_cons_self
 have h2 := this _ (List.mem_cons_of_mem _ List.mem_cons_self)
 simp [Fa.holds,fLe,fGe,tmV,L.asI] at h1 h2
 omega
theorem bU8_lit (n : Int) : AC.rows bU8 [[.sc (.int .u8 (IntKind.wrap .u8 n))]] := by
 intro r hr
 rw [List.mem_singleton.1 hr]
 have := wrap_range .u8 n
 exact ⟨⟨_,rfl,this.1,this.2⟩,trivial⟩
theorem rows_append {cs : List AC} {a b : List (List PV)} (h1 : AC.rows cs a) (h2 : AC.rows cs b) : AC.rows cs (a ++ b) := fun r hr => by
 rcases List.mem_append.1 hr with h | h
 · exact h1 r h
 · exact h2 r h
theorem rect1_lit (q : PV) : rectB 1 [[q]] = true := rfl
theorem number_law (l0 l1 : L) (h0 : 0 ≤ l1.asI) (h8 : l1.asI ≤ 8) : ∃ o,F42 [l0,l1] = some o ∧ ∃ rows,o = [.r rows] ∧ (rows.length : Int) = l1.asI ∧ AC.rows bU8 rows := by
 have hw := wrap64 (n := l1.asI - 1) (by omega) (by omega)
 refine outO_of_wp ?_
 unfold fir42
 simp only [Fo,wp_op,wp_ite,wp_leaf,wp_join,Nd.ev,binI,binB,unI,At.ev,d6,d7,d8,e0,d9,joinQ,loopQ,outQ,pvsOf,Kd.pv,List.map_cons,List.map_nil,d1,d2,d3,d4,d5,Option.map_some,hw]
 refine wp_loop (I := fun a => ∃ (i : Int) (rows : List (List PV)),a = [.i i,.r rows] ∧ i = l1.asI - 1 - rows.length ∧ (rows.length : Int) ≤ l1.asI ∧ AC.rows bU8 rows) (mu := fun a => match a with | [.i i,_] => (i + 1).toNat | _ => 0) ⟨l1.asI - 1,[],by simp only [Fo,wp_op,wp_ite,wp_leaf,wp_join,Nd.ev,binI,binB,unI,At.ev,d6,d7,d8,e0,d9,joinQ,loopQ,outQ,pvsOf,Kd.pv,List.map_cons,List.map_nil,d1,d2,d3,d4,d5,Option.map_some],by simp,by simpa using h0,fun r hr => by cases hr⟩ ?_
 rintro a ⟨i,rows,rfl,e1,e2,e3⟩
 by_cases hi : 0 ≤ i
 · have hm := wrap64 (n := 8 * i) (by omega) (by omega)
   have hc : IntKind.wrap .u64 (8 * i) = 8 * i := wrap_in .u64 (by simp [IntKind.min,IntKind.signed]; omega) (by simp [IntKind.max,IntKind.signed,IntKind.bits]; omega)
   have hs := wrap64 (n := i - 1) (by omega) (by omega)
   have h8i : (0 : Int) ≤ 8 * i := by omega
   have hR : rectB 1 rows = true := AC.rows_rectB (cs := bU8) e3
   have hl1 : rows.length + 1 ≤ 9223372036854775807 := by omega
   have hl2 : (rows.length + 1) ≤ 140737488355328 := by omega
   simp [Fo,wp_op,wp_ite,wp_leaf,wp_join,Nd.ev,binI,binB,unI,At.ev,d6,d7,d8,e0,d9,joinQ,loopQ,outQ,pvsOf,Kd.pv,List.map_cons,List.map_nil,d1,d2,d3,d4,d5,Option.map_some,hi,hm,hc,h8i,hR,hl1,hl2,hs,rect1_lit]
   refine ⟨⟨_,_,⟨rfl,rfl⟩,by simp only [List.length_append,List.length_singleton]; omega,by simp only [List.length_append,List.length_singleton]; omega,rows_append e3 (bU8_lit _)⟩,by omega⟩
 · simp [Fo,wp_op,wp_ite,wp_leaf,wp_join,Nd.ev,binI,binB,unI,At.ev,d6,d7,d8,e0,d9,joinQ,loopQ,outQ,pvsOf,Kd.pv,List.map_cons,List.map_nil,d1,d2,d3,d4,d5,Option.map_some,hi]
   exact ⟨by omega,e3⟩
theorem so42 : sm42.ok F42 := by
 intro ls hl hp
 match ls,hl with
 | [l0,l1],_ =>
  have a1 := hp.fs ⟨4,0,8⟩ (by simp [sm42])
  have a2 := hp.fs ⟨0,4,0⟩ (by simp [sm42])
  simp [Fa.holds,tmV] at a1 a2
  obtain ⟨o,h1,rows,rfl,h2,h3⟩ := number_law l0 l1 (by omega) (by omega)
  refine ⟨_,h1,rfl,_,List.mem_singleton.2 rfl,⟨fun f hf => ?_,fun x hx => ?_,fun x hx => (by cases hx),fun x hx => (by cases hx)⟩⟩
  · simp at hf
    rcases hf with rfl | rfl | rfl | rfl <;> simp [Fa.holds,tmV,asR_r] <;> omega
  · simp at hx
    subst hx
    exact h3
def sm33 : Summ := ⟨4,1,{ fs := [⟨2,0,2097152⟩,⟨0,2,0⟩,⟨4,0,1048576⟩,⟨0,4,0⟩,⟨8,0,1048576⟩,⟨0,8,0⟩],rw := [(0,some bU8),(2,some bU8)] },[{ fs := [⟨14,0,2097152⟩,⟨0,14,0⟩],rw := [(4,some bU8)] }]⟩
theorem rows_take {cs : List AC} {a : List (List PV)} (h : AC.rows cs a) (n : Nat) : AC.rows cs (a.take n) := fun r hr => h r (List.mem_of_mem_take hr)
theorem rows_drop {cs : List AC} {a : List (List PV)} (h : AC.rows cs a) (n : Nat) : AC.rows cs (a.drop n) := fun r hr => h r (List.mem_of_mem_drop hr)
theorem applied_law (l0 l1 l2 l3 : L) (h0 : l0.asR.length ≤ 2097152) (h1 : 0 ≤ l1.asI) (h1' : l1.asI ≤ 1048576) (h2 : l2.asR.length ≤ 1048576) (r0 : AC.rows bU8 l0.asR) (r2 : AC.rows bU8 l2.asR) :
   ∃ o,F33 [l0,l1,l2,l3] = some o ∧ ∃ rows,o = [.r rows] ∧ rows.length ≤ 2097152 ∧ AC.rows bU8 rows := by
 have hR0 : rectB 1 l0.asR = true := AC.rows_rectB (cs := bU8) r0
 have hR2 : rectB 1 l2.asR = true := AC.rows_rectB (cs := bU8) r2
 have hN : rectB 1 [] = true := rfl
 have a1 : l0.asR.length ≤ 9223372036854775807 := by omega
 have a2 : l0.asR.length ≤ 140737488355328 := by omega
 obtain ⟨m,hm⟩ := Int.eq_ofNat_of_zero_le h1
 rw [hm] at h1 h1'
 refine outO_of_wp ?_
 unfold fir33
 by_cases hc : l3.asB = true
 · have hh := head_of_rect hR0
   by_cases b1 : m < l0.asR.length
   · have b2 : m ≤ l0.asR.length := by omega
     simp [Fo,wp_op,wp_ite,wp_leaf,wp_join,Nd.ev,binI,binB,unI,At.ev,d6,d7,d8,e0,d9,joinQ,loopQ,outQ,pvsOf,Kd.pv,List.map_cons,List.map_nil,d1,d2,d3,d4,d5,Option.map_some,hc,hR0,hN,a1,a2,hh,hm,b1,b2]
     exact ⟨by omega,rows_take r0 _⟩
   · simp [Fo,wp_op,wp_ite,wp_leaf,wp_join,Nd.ev,binI,binB,unI,At.ev,d6,d7,d8,e0,d9,joinQ,loopQ,outQ,pvsOf,Kd.pv,List.map_cons,List.map_nil,d1,d2,d3,d4,d5,Option.map_some,hc,hR0,hN,a1,a2,hh,hm,b1]
     exact ⟨by omega,r0⟩
 · simp [Fo,wp_op,wp_ite,wp_leaf,wp_join,Nd.ev,binI,binB,unI,At.ev,d6,d7,d8,e0,d9,joinQ,loopQ,outQ,pvsOf,Kd.pv,List.map_cons,List.map_nil,d1,d2,d3,d4,d5,Option.map_some,hc,hR0,hN,a1,a2,hm]
   refine wp_loop (I := fun a => ∃ (rows : List (List PV)),a = [.r rows] ∧ rows.length ≤ 2097152 ∧ AC.rows bU8 rows) (mu := fun a => match a with | [.r rows] => 2097152 - rows.length | _ => 0) ⟨l0.asR,by simp only [Fo,wp_op,wp_ite,wp_leaf,wp_join,Nd.ev,binI,binB,unI,At.ev,d6,d7,d8,e0,d9,joinQ,loopQ,outQ,pvsOf,Kd.pv,List.map_cons,List.map_nil,d1,d2,d3,d4,d5,Option.map_some],h0,r0⟩ ?_
   rintro a ⟨rows,rfl,e1,e2⟩
   have hR : rectB 1 rows = true := AC.rows_rectB (cs := bU8) e2
   have hh := head_of_rect hR
   by_cases hi : rows.length < m
   · have hl1 : rows.length + 1 ≤ 9223372036854775807 := by omega
     have hl2 : (rows.length + 1) ≤ 140737488355328 := by omega
     simp [Fo,wp_op,wp_ite,wp_leaf,wp_join,Nd.ev,binI,binB,unI,At.ev,d6,d7,d8,e0,d9,joinQ,loopQ,outQ,pvsOf,Kd.pv,List.map_cons,List.map_nil,d1,d2,d3,d4,d5,Option.map_some,hm,hi,hR,hl1,hl2,rect1_lit]
     exact ⟨⟨by omega,rows_append e2 (bU8_lit 0)⟩,by omega⟩
   · have hw := wrap64 (n := (m : Int) + l2.asR.length) (by omega) (by omega)
     have c2 : m ≤ rows.length := by omega
     by_cases hj : (rows.length : Int) < (m : Int) + (l2.asR.length : Int)
     · have c3 : rectB 1 (rows.take m) = true := AC.rows_rectB (rows_take e2 _)
       have c4 : m + l2.asR.length ≤ 9223372036854775807 := by omega
       have c5 : m + l2.asR.length ≤ 140737488355328 := by omega
       simp [Fo,wp_op,wp_ite,wp_leaf,wp_join,Nd.ev,binI,binB,unI,At.ev,d6,d7,d8,e0,d9,joinQ,loopQ,outQ,pvsOf,Kd.pv,List.map_cons,List.map_nil,d1,d2,d3,d4,d5,Option.map_some,hi,hw,hj,hh,hm,c2,c3,c4,c5,hR2]
       exact ⟨by omega,rows_append (rows_take e2 _) r2⟩
     · have d2 : ((m : Int) + (l2.asR.length : Int)).toNat = m + l2.asR.length := by omega
       have d3 : m + l2.asR.length ≤ rows.length := by omega
       have d1 : (m : Int) ≤ (m : Int) + (l2.asR.length : Int) := by omega
       have d4 : (0 : Int) ≤ (m : Int) + (l2.asR.length : Int) := by omega
       simp [Fo,wp_op,wp_ite,wp_leaf,wp_join,Nd.ev,binI,binB,unI,At.ev,d6,d7,d8,e0,d9,joinQ,loopQ,outQ,pvsOf,Kd.pv,List.map_cons,List.map_nil,d1,d2,d3,d4,d5,Option.map_some,hi,hw,hj,hh,hm,d1,d2,d3,d4,hR2]
       exact ⟨by omega,rows_append (rows_take e2 _) (rows_append r2 (rows_drop e2 _))⟩
theorem so33 : sm33.ok F33 := by
 intro ls hl hp
 match ls,hl with
 | [l0,l1,l2,l3],_ =>
  have a1 := hp.fs ⟨2,0,2097152⟩ (by simp [sm33])
  have a2 := hp.fs ⟨4,0,1048576⟩ (by simp [sm33])
  have a3 := hp.fs ⟨0,4,0⟩ (by simp [sm33])
  have a4 := hp.fs ⟨8,0,1048576⟩ (by simp [sm33])
  have b1 := hp.rw (0,some bU8) (by simp [sm33])
  have b2 := hp.rw (2,some bU8) (by simp [sm33])
  simp [Fa.holds,tmV] at a1 a2 a3 a4
  obtain ⟨o,h1,rows,rfl,h2,h3⟩ := applied_law l0 l1 l2 l3 (by omega) (by omega) (by omega) (by omega) b1 b2
  refine ⟨_,h1,rfl,_,List.mem_singleton.2 rfl,⟨fun f hf => ?_,fun x hx => ?_,fun x hx => (by cases hx),fun x hx => (by cases hx)⟩⟩
  · simp at hf
    rcases hf with rfl | rfl <;> simp [Fa.holds,tmV,asR_r] <;> omega
  · simp at hx
    subst hx
    exact h3
end AI
end
section
open Go.RowKit
namespace AI
def cWr : List AC := [.int .i64 (-9223372036854775808) 9223372036854775807,.sl 4194304 bU8,.bool]
def cWrV : List AC := [.int .i64 0 1048576,.sl 1048576 bU8,.bool]
def sm70 : Summ := ⟨3,1,{ fs := [⟨3,0,9⟩,⟨5,0,4194304⟩,⟨8,0,1099511627776⟩],rw := [(1,some bU8),(2,some cWr)] },[{ bs := [(3,true)],fs := [⟨5,0,1048576⟩],rw := [(2,some cWrV)] },{ bs := [(3,false)] }]⟩
theorem len3 {α : Type} : ∀ {r : List α},r.length = 3 → ∃ a b c,r = [a,b,c]
 | [a,b,c],_ => ⟨a,b,c,rfl⟩
theorem validFile_law (l0 l1 l2 : L) (h34 : ∃ v,F34 [l0] = some [v]) (h1 : l1.asR.length ≤ 4194304) (h2 : l2.asR.length ≤ 1099511627776) (r1 : AC.rows bU8 l1.asR) (r2 : AC.rows cWr l2.asR) :
   ∃ o,F70 [l0,l1,l2] = some o ∧ ∃ b,o = [.b b] ∧ (b = true → l1.asR.length ≤ 1048576 ∧ AC.rows cWrV l2.asR) := by
 obtain ⟨v,h34⟩ := h34
 refine outO_of_wp ?_
 unfold fir70
 by_cases hv : v.asB = true
 rotate_left
 · simp [Fo,wp_op,wp_ite,wp_leaf,wp_join,Nd.ev,binI,binB,unI,At.ev,d6,d7,d8,e0,d9,joinQ,loopQ,outQ,pvsOf,Kd.pv,List.map_cons,List.map_nil,d1,d2,d3,d4,d5,Option.map_some,h34,hv]
 by_cases hl : (1048576 : Int) < l1.asR.length
 · simp [Fo,wp_op,wp_ite,wp_leaf,wp_join,Nd.ev,binI,binB,unI,At.ev,d6,d7,d8,e0,d9,joinQ,loopQ,outQ,pvsOf,Kd.pv,List.map_cons,List.map_nil,d1,d2,d3,d4,d5,Option.map_some,h34,hv,hl]
 have hl' : ¬ 1048576 < l1.asR.length := by omega
 simp [Fo,wp_op,wp_ite,wp_leaf,wp_join,Nd.ev,binI,binB,unI,At.ev,d6,d7,d8,e0,d9,joinQ,loopQ,outQ,pvsOf,Kd.pv,List.map_cons,List.map_nil,d1,d2,d3,d4,d5,Option.map_some,h34,hv,hl]
 refine wp_loop (I := fun a => ∃ (l : L) (i : Nat),a = [l,.i i] ∧ i ≤ l2.asR.length ∧ l.asR.length ≤ 1048576 ∧ AC.rows bU8 l.asR ∧ ∀ j r,j < i → l2.asR[j]? = some r → AC.oks cWrV r) (mu := fun a => match a with | [_,.i i] => l2.asR.length - i.toNat | _ => 0) (by exact ⟨l1,0,rfl,by omega,by omega,r1,fun j r hj => by omega⟩) ?_
 rintro a ⟨l,i,rfl,e1,e2,e3,e4⟩
 by_cases hi : i < l2.asR.length
 rotate_left
 · simp [Fo,wp_op,wp_ite,wp_leaf,wp_join,Nd.ev,binI,binB,unI,At.ev,d6,d7,d8,e0,d9,joinQ,loopQ,outQ,pvsOf,Kd.pv,List.map_cons,List.map_nil,d1,d2,d3,d4,d5,Option.map_some,hi]
   refine ⟨by omega,fun r hr => ?_⟩
   obtain ⟨j,hj,rfl⟩ := List.getElem_of_mem hr
   exact e4 j _ (by omega) (List.getElem?_eq_getElem hj)
 have hg : l2.asR[i]? = some l2.asR[i] := List.getElem?_eq_getElem hi
 have hr := r2 _ (List.mem_of_getElem? hg)
 generalize l2.asR[i] = r at hg hr
 obtain ⟨q0,q1,q2,rfl⟩ := len3 (AC.oks_length hr)
 obtain ⟨⟨off,rfl,o1,o2⟩,⟨data,rfl,d1,d2⟩,⟨cut,rfl⟩,_⟩ := hr
 have hg' : l2.asR[i] = _ := Option.some.inj ((List.getElem?_eq_getElem hi).symm.trans hg)
 · skip
   by_cases c1 : off < 0
   · simp [Fo,wp_op,wp_ite,wp_leaf,wp_join,Nd.ev,binI,binB,unI,At.ev,d6,d7,d8,e0,d9,joinQ,loopQ,outQ,pvsOf,Kd.pv,List.map_cons,List.map_nil,d1,d2,d3,d4,d5,Option.map_some,hi,hg',Kd.of,c1]
   by_cases c2 : 1048576 < off
   · simp [Fo,wp_op,wp_ite,wp_leaf,wp_join,Nd.ev,binI,binB,unI,At.ev,d6,d7,d8,e0,d9,joinQ,loopQ,outQ,pvsOf,Kd.pv,List.map_cons,List.map_nil,d1,d2,d3,d4,d5,Option.map_some,hi,hg',Kd.of,c1,c2]
   have good : data.length ≤ 1048576 → ∃ l' : L,F33 [l,.i off,.r data,.b cut] = some [l'] ∧ l'.asR.length ≤ 2097152 ∧ AC.rows bU8 l'.asR := fun hd => by
     obtain ⟨o,k1,rows,rfl,k2,k3⟩ := applied_law l (.i off) (.r data) (.b cut) (by omega) (by simp only [asI_i]; omega) (by simp only [asI_i]; omega) (by simp only [asR_r]; omega) e3 d2
     exact ⟨_,k1,k2,k3⟩
   have w : IntKind.wrap .i64 ((i : Int) + 1) = (i : Int) + 1 := wrap64 (by omega) (by omega)
   have e4' : data.length ≤ 1048576 → ∀ j r,j < i + 1 → l2.asR[j]? = some r → AC.oks cWrV r := fun hd j r hj hr => by
     by_cases hji : j = i
     · subst hji
       rw [hg] at hr; cases hr
       exact ⟨⟨off,rfl,by omega,by omega⟩,⟨data,rfl,by omega,d2⟩,⟨cut,rfl⟩,trivial⟩
     · exact e4 j r (by omega) hr
   cases cut with
   | true =>
     by_cases c3 : 0 < data.length
     · simp [Fo,wp_op,wp_ite,wp_leaf,wp_join,Nd.ev,binI,binB,unI,At.ev,d6,d7,d8,e0,d9,joinQ,loopQ,outQ,pvsOf,Kd.pv,List.map_cons,List.map_nil,d1,d2,d3,d4,d5,Option.map_some,hi,hg',Kd.of,c1,c2,c3]
     have c4 : ¬ (1048576 : Int) < data.length := by omega
     obtain ⟨l',k1,k2,k3⟩ := good (by omega)
     by_cases c5 : (1048576 : Int) < l'.asR.length
     · simp [Fo,wp_op,wp_ite,wp_leaf,wp_join,Nd.ev,binI,binB,unI,At.ev,d6,d7,d8,e0,d9,joinQ,loopQ,outQ,pvsOf,Kd.pv,List.map_cons,List.map_nil,d1,d2,d3,d4,d5,Option.map_some,hi,hg',Kd.of,c1,c2,c3,c4,k1,c5]
     · have e5 := e4' (by omega)
       simp [Fo,wp_op,wp_ite,wp_leaf,wp_join,Nd.ev,binI,binB,unI,At.ev,d6,d7,d8,e0,d9,joinQ,loopQ,outQ,pvsOf,Kd.pv,List.map_cons,List.map_nil,d1,d2,d3,d4,d5,Option.map_some,hi,hg',Kd.of,c1,c2,c3,c4,k1,c5,w]
       exact ⟨⟨l',i + 1,⟨rfl,by omega⟩,by omega,by omega,k3,e5⟩,by omega⟩
   | false =>
     by_cases c4 : (1048576 : Int) < data.length
     · simp [Fo,wp_op,wp_ite,wp_leaf,wp_join,Nd.ev,binI,binB,unI,At.ev,d6,d7,d8,e0,d9,joinQ,loopQ,outQ,pvsOf,Kd.pv,List.map_cons,List.map_nil,d1,d2,d3,d4,d5,Option.map_some,hi,hg',Kd.of,c1,c2,c4]
     obtain ⟨l',k1,k2,k3⟩ := good (by omega)
     by_cases c5 : (1048576 : Int) < l'.asR.length
     · simp [Fo,wp_op,wp_ite,wp_leaf,wp_join,Nd.ev,binI,binB,unI,At.ev,d6,d7,d8,e0,d9,joinQ,loopQ,outQ,pvsOf,Kd.pv,List.map_cons,List.map_nil,d1,d2,d3,d4,d5,Option.map_some,hi,hg',Kd.of,c1,c2,c4,k1,c5]
     · have e5 := e4' (by omega)
       simp [Fo,wp_op,wp_ite,wp_leaf,wp_join,Nd.ev,binI,binB,unI,At.ev,d6,d7,d8,e0,d9,joinQ,loopQ,outQ,pvsOf,Kd.pv,List.map_cons,List.map_nil,d1,d2,d3,d4,d5,Option.map_some,hi,hg',Kd.of,c1,c2,c4,k1,c5,w]
       exact ⟨⟨l',i + 1,⟨rfl,by omega⟩,by omega,by omega,k3,e5⟩,by omega⟩
end AI
end
section
open Go.RowKit
set_option maxRecDepth 100000
set_option maxHeartbeats 4000000
noncomputable section
def fir78 : Fir :=
 .join
 (.join
 (.op (.call 52 F52 (w 0 10) 1 []) <|
 .ite (.v 11)
 (.op (.bi .geq .i64 (.v 10) (.i 0)) <|
 .ite (.v 12)
 (.op (.bi .sub .i64 (.i 1099511627776) (.v 9)) <|
 .op (.bi .leq .i64 (.v 10) (.v 13)) <|
 .leaf (.jump 0 [.v 14]))
 (.leaf (.jump 0 [.b false])))
 (.leaf (.jump 0 [.b false])))
 (.ite (.v 11)
 (.op (.bi .add .i64 (.v 9) (.v 10)) <|
 .leaf (.jump 0 [.v 12]))
 (.leaf (.jump 0 [.v 9]))))
 (.leaf (.jump 0 [.v 11]))
def F78 := Fo fir78
def s78 : Sig := ⟨138,[.agg (wps 0 8 ++ [pi 8,pi 9]),ci 10],[],11,1,.v (.agg (wps 0 8 ++ [pi 8,pi 11])),[],F78,78⟩
theorem ok78 : s78.ok Tryz.prog := okS fir78 TT_ok (.cons ok52 .nil) Tryz.func138 (by kernel_rfl) (by kernel_rfl) rfl
def fir79 : Fir :=
 .join
 (.loop [.i 0,.r0]
 (.join
 (.op (.bi .lss .i64 (.v 10) (.i 8)) <|
 .ite (.v 12)
 (.op (.call 52 F52 [.v 0,.v 1,.v 2,.v 3,.v 4,.v 5,.v 6,.v 7,.v 8,.v 9] 1 []) <|
 .leaf (.jump 0 [.v 13]))
 (.leaf (.jump 0 [.b false])))
 (.ite (.v 12)
 (.op (.bnd (.v 10) 8) <|
 .op (.sel [.v 0,.v 1,.v 2,.v 3,.v 4,.v 5,.v 6,.v 7] (.v 10)) <|
 .op (.app (.v 11) (.v 13) 4 32) <|
 .op (.bi .add .i64 (.v 10) (.i 1)) <|
 .leaf (.jump 0 [.v 15,.v 14]))
 (.leaf (.jump 1 [.v 11])))))
 (.op (.call 46 F46 [.v 10] 1 [0]) <|
 .leaf (.jump 0 [.v 11]))
def F79 := Fo fir79
def s79 : Sig := ⟨66,[.agg (wps 0 8 ++ [pi 8,pi 9])],[],10,1,.v (.c (.own 0)),[(0,(.row 25 (.v 10)))],F79,79⟩
theorem ok79 : s79.ok Tryz.prog := okS fir79 TT_ok (.cons ok52 (.cons ok46 .nil)) Tryz.func66 (by kernel_rfl) (by kernel_rfl) rfl
def fir80 : Fir :=
 .join
 (.op (.bi .lss .i64 (.v 0) (.i 1)) <|
 .ite (.v 14)
 (.leaf (.jump 0 [.b true]))
 (.op (.bi .gtr .i64 (.v 0) (.i 8)) <|
 .ite (.v 15)
 (.leaf (.jump 0 [.b true]))
 (.op (.bi .lss .i64 (.v 1) (.i 0)) <|
 .ite (.v 16)
 (.leaf (.jump 0 [.b true]))
 (.op (.bi .geq .i64 (.v 1) (.i 4294967296)) <|
 .ite (.v 17)
 (.leaf (.jump 0 [.b true]))
 (.op (.bi .lss .i64 (.v 2) (.i 1)) <|
 .ite (.v 18)
 (.leaf (.jump 0 [.b true]))
 (.op (.bi .gtr .i64 (.v 2) (.i 3)) <|
 .leaf (.jump 0 [.v 19])))))))
 (.ite (.v 14)
 (.leaf (.jump 0 [.b false]))
 (.join
 (.op (.bi .lss .i64 (.v 3) (.i 16)) <|
 .ite (.v 15)
 (.leaf (.jump 0 [.b true]))
 (.op (.bi .gtr .i64 (.v 3) (.i 1048576)) <|
 .ite (.v 16)
 (.leaf (.jump 0 [.b true]))
 (.op (.bi .rem .i64 (.v 3) (.i 8)) <|
 .op (.bi .neq .i64 (.v 17) (.i 0)) <|
 .ite (.v 18)
 (.leaf (.jump 0 [.b true]))
 (.op (.call 52 F52 [.v 4,.v 5,.v 6,.v 7,.v 8,.v 9,.v 10,.v 11,.v 12,.v 13] 1 []) <|
 .op (.not (.v 19)) <|
 .ite (.v 20)
 (.leaf (.jump 0 [.b true]))
 (.op (.call 79 F79 [.v 4,.v 5,.v 6,.v 7,.v 8,.v 9,.v 10,.v 11,.v 12,.v 13] 1 []) <|
 .op (.call 58 F58 [.v 21,.v 3] 1 []) <|
 .op (.not (.v 22)) <|
 .leaf (.jump 0 [.v 23]))))))
 (.ite (.v 15)
 (.leaf (.jump 0 [.b false]))
 (.op (.bi .sub .i64 (.v 3) (.i 16)) <|
 .op (.bi .sub .i64 (.v 16) (.v 12)) <|
 .op (.bi .eql .i64 (.v 17) (.v 13)) <|
 .leaf (.jump 0 [.v 18])))))
def F80 := Fo fir80
def s80 : Sig := ⟨80,[.agg (wpi 0 4 ++ wps 4 8 ++ [pi 12,pi 13])],[],14,1,.v (.c (.p .bool (.v 14))),[],F80,80⟩
theorem ok80 : s80.ok Tryz.prog := okS fir80 TT_ok (.cons ok79 (.cons ok58 (.cons ok52 .nil))) Tryz.func80 (by kernel_rfl) (by kernel_rfl) rfl
def fir81 : Fir :=
 .loop [.i 0,.v 0]
 (.op (.bi .lss .i64 (.v 5) (.v 1)) <|
 .ite (.v 7)
 (.op (.bi .mul .i64 (.v 2) (.v 1)) <|
 .op (.bi .add .i64 (.v 8) (.v 5)) <|
 .op (.row (.v 6) (.v 9) 1) <|
 .op (.rc (.v 6) (.v 9) 0 (.int .u8)) <|
 .op (.bi .mul .i64 (.v 3) (.v 1)) <|
 .op (.bi .add .i64 (.v 12) (.v 5)) <|
 .op (.row (.v 6) (.v 13) 1) <|
 .op (.rc (.v 6) (.v 13) 0 (.int .u8)) <|
 .op (.call 19 F19 [.v 4,.v 15] 1 []) <|
 .op (.bi .xor .u8 (.v 11) (.v 16)) <|
 .op (.row (.v 6) (.v 9) 1) <|
 .op (.set (.v 6) (.v 9) 0 [((.int .u8),(.v 17))]) <|
 .op (.bi .add .i64 (.v 5) (.i 1)) <|
 .leaf (.jump 0 [.v 20,.v 19]))
 (.leaf (.jump 1 [.v 6])))
def F81 := Fo fir81
def s81 : Sig := ⟨287,[.c (.own 0),ci 1,ci 2,ci 3,.c (.p (.int .u8) (.v 4))],[.row 5 (.v 0)],5,1,.tup [],[(0,(.row 5 (.v 5)))],F81,81⟩
theorem ok81 : s81.ok Tryz.prog := okS fir81 TT_ok (.cons ok19 .nil) Tryz.func287 (by kernel_rfl) (by kernel_rfl) rfl
def fir82 : Fir :=
 .join
 (.op (.bi .geq .u64 (.v 0) (.i 4294967296)) <|
 .ite (.v 1)
 (.op (.bi .shr .u64 (.v 0) (.i 32)) <|
 .leaf (.jump 0 [.v 2,.i 32]))
 (.leaf (.jump 0 [.v 0,.i 0])))
 (.join
 (.op (.bi .geq .u64 (.v 1) (.i 65536)) <|
 .ite (.v 3)
 (.op (.bi .shr .u64 (.v 1) (.i 16)) <|
 .op (.bi .add .i64 (.v 2) (.i 16)) <|
 .leaf (.jump 0 [.v 4,.v 5]))
 (.leaf (.jump 0 [.v 1,.v 2])))
 (.join
 (.op (.bi .geq .u64 (.v 3) (.i 256)) <|
 .ite (.v 5)
 (.op (.bi .shr .u64 (.v 3) (.i 8)) <|
 .op (.bi .add .i64 (.v 4) (.i 8)) <|
 .leaf (.jump 0 [.v 6,.v 7]))
 (.leaf (.jump 0 [.v 3,.v 4])))
 (.op (.conv .u8 (.v 5)) <|
 .op (.sidx (.s ⟨#[0,1,2,2,3,3,3,3,4,4,4,4,4,4,4,4,5,5,5,5,5,5,5,5,5,5,5,5,5,5,5,5,6,6,6,6,6,6,6,6,6,6,6,6,6,6,6,6,6,6,6,6,6,6,6,6,6,6,6,6,6,6,6,6,7,7,7,7,7,7,7,7,7,7,7,7,7,7,7,7,7,7,7,7,7,7,7,7,7,7,7,7,7,7,7,7,7,7,7,7,7,7,7,7,7,7,7,7,7,7,7,7,7,7,7,7,7,7,7,7,7,7,7,7,7,7,7,7,8,8,8,8,8,8,8,8,8,8,8,8,8,8,8,8,8,8,8,8,8,8,8,8,8,8,8,8,8,8,8,8,8,8,8,8,8,8,8,8,8,8,8,8,8,8,8,8,8,8,8,8,8,8,8,8,8,8,8,8,8,8,8,8,8,8,8,8,8,8,8,8,8,8,8,8,8,8,8,8,8,8,8,8,8,8,8,8,8,8,8,8,8,8,8,8,8,8,8,8,8,8,8,8,8,8,8,8,8,8,8,8,8,8,8,8,8,8,8,8,8,8,8,8,8,8,8,8]⟩) (.v 7)) <|
 .op (.conv .i64 (.v 8)) <|
 .op (.bi .add .i64 (.v 6) (.v 9)) <|
 .leaf (.jump 0 [.v 10]))))
def F82 := Fo fir82
def s82 : Sig := ⟨265,[.c (.p (.int .u64) (.v 0))],[],1,1,.v (ci 1),[],F82,82⟩
theorem ok82 : s82.ok Tryz.prog := okS fir82 TT_ok .nil Tryz.func265 (by kernel_rfl) (by kernel_rfl) rfl
def fir83 : Fir :=
 .op (.row (.v 1) (.v 0) 4) <|
 .op (.cl (.v 3) 0 (.int .u64)) <|
 .op (.bi .geq .u64 (.v 4) (.v 2)) <|
 .leaf (.jump 0 [.v 5])
def F83 := Fo fir83
def s83 : Sig := ⟨251,[ci 0,.c (.ptr 0 0),.c (.ptr 1 0)],[.box [ps 1],.box [.p (.int .u64) (.v 2)]],3,1,.v (.c (.p .bool (.v 3))),[(1,(.box [.p (.int .u64) (.v 2)])),(0,(.box [ps 1]))],F83,83⟩
theorem ok83 : s83.ok Tryz.prog := okS fir83 TT_ok .nil Tryz.func251 (by kernel_rfl) (by kernel_rfl) rfl
def fir84 : Fir :=
 .join
 (.op (.len (.v 0)) <|
 .loop [.i 0]
 (.op (.bi .lss .i64 (.v 2) (.v 1)) <|
 .ite (.v 3)
 (.op (.row (.v 0) (.v 2) 4) <|
 .op (.cl (.v 4) 0 (.int .u64)) <|
 .op (.cl (.v 4) 1 (.int .u32)) <|
 .op (.cl (.v 4) 2 (.int .i64)) <|
 .op (.cl (.v 4) 3 (.int .i64)) <|
 .op (.call 8 F8 [.v 5,.v 6,.v 7,.v 8] 1 []) <|
 .ite (.v 9)
 (.leaf (.jump 2 [.v 2]))
 (.op (.bi .add .i64 (.v 2) (.i 1)) <|
 .leaf (.jump 0 [.v 10])))
 (.leaf (.jump 1 []))))
 (.leaf (.jump 0 [.i (-1)]))
def F84 := Fo fir84
def s84 : Sig := ⟨208,[cs 0,.c (.fn 206 [])],[],1,1,.v (ci 1),[],F84,84⟩
theorem ok84 : s84.ok Tryz.prog := okS fir84 TT_ok (.cons ok8 .nil) Tryz.func208 (by kernel_rfl) (by kernel_rfl) rfl
def fir85 : Fir :=
 .op (.bi .add .i64 (.v 1) (.i 1)) <|
 .loop [.v 3,.v 0]
 (.op (.bi .lss .i64 (.v 4) (.v 2)) <|
 .ite (.v 6)
 (.join
 (.loop [.v 4,.v 5]
 (.join
 (.op (.bi .gtr .i64 (.v 7) (.v 1)) <|
 .ite (.v 9)
 (.op (.row (.v 8) (.v 7) 4) <|
 .op (.rc (.v 8) (.v 7) 0 (.int .u64)) <|
 .op (.rc (.v 8) (.v 7) 1 (.int .u32)) <|
 .op (.rc (.v 8) (.v 7) 2 (.int .i64)) <|
 .op (.rc (.v 8) (.v 7) 3 (.int .i64)) <|
 .op (.bi .sub .i64 (.v 7) (.i 1)) <|
 .op (.row (.v 8) (.v 15) 4) <|
 .op (.rc (.v 8) (.v 15) 0 (.int .u64)) <|
 .op (.rc (.v 8) (.v 15) 1 (.int .u32)) <|
 .op (.rc (.v 8) (.v 15) 2 (.int .i64)) <|
 .op (.rc (.v 8) (.v 15) 3 (.int .i64)) <|
 .op (.call 6 F6 [.v 11,.v 12,.v 13,.v 14,.v 17,.v 18,.v 19,.v 20] 1 []) <|
 .op (.bi .lss .i64 (.v 21) (.i 0)) <|
 .leaf (.jump 0 [.v 22]))
 (.leaf (.jump 0 [.b false])))
 (.ite (.v 9)
 (.op (.bi .sub .i64 (.v 7) (.i 1)) <|
 .op (.bi .sub .i64 (.v 7) (.i 1)) <|
 .op (.row (.v 8) (.v 11) 4) <|
 .op (.rc (.v 8) (.v 11) 0 (.int .u64)) <|
 .op (.rc (.v 8) (.v 11) 1 (.int .u32)) <|
 .op (.rc (.v 8) (.v 11) 2 (.int .i64)) <|
 .op (.rc (.v 8) (.v 11) 3 (.int .i64)) <|
 .op (.row (.v 8) (.v 7) 4) <|
 .op (.rc (.v 8) (.v 7) 0 (.int .u64)) <|
 .op (.rc (.v 8) (.v 7) 1 (.int .u32)) <|
 .op (.rc (.v 8) (.v 7) 2 (.int .i64)) <|
 .op (.rc (.v 8) (.v 7) 3 (.int .i64)) <|
 .op (.row (.v 8) (.v 7) 4) <|
 .op (.set (.v 8) (.v 7) 0 [((.int .u64),(.v 13)),((.int .u32),(.v 14)),((.int .i64),(.v 15)),((.int .i64),(.v 16))]) <|
 .op (.row (.v 23) (.v 10) 4) <|
 .op (.set (.v 23) (.v 10) 0 [((.int .u64),(.v 18)),((.int .u32),(.v 19)),((.int .i64),(.v 20)),((.int .i64),(.v 21))]) <|
 .op (.bi .sub .i64 (.v 7) (.i 1)) <|
 .leaf (.jump 0 [.v 26,.v 25]))
 (.leaf (.jump 1 [.v 8])))))
 (.op (.bi .add .i64 (.v 4) (.i 1)) <|
 .leaf (.jump 0 [.v 8,.v 7])))
 (.leaf (.jump 1 [.v 5])))
def F85 := Fo fir85
def s85 : Sig := ⟨256,[.c (.own 0),ci 1,ci 2,.c (.fn 248 [])],[.row 25 (.v 0)],3,1,.tup [],[(0,(.row 25 (.v 3)))],F85,85⟩
theorem ok85 : s85.ok Tryz.prog := okS fir85 TT_ok (.cons ok6 .nil) Tryz.func256 (by kernel_rfl) (by kernel_rfl) rfl
end
end
section
open Go.RowKit
set_option maxRecDepth 100000
set_option maxHeartbeats 4000000
noncomputable section
def F1090 : List L → Option (List L) := fun _ => none
def s1090 : Sig := ⟨309,[cs 0,ci 1,ci 2,ci 3,.c (.fn 248 [])],[],4,0,.tup [],[],F1090,1090⟩
theorem ok1090 : s1090.ok Tryz.prog := fun _ _ _ h => by
 have h : (none : Option (List L)) = some _ := h
 cases h
def F1091 : List L → Option (List L) := fun _ => none
def s1091 : Sig := ⟨309,[.c (.own 0),ci 1,ci 2,ci 3,.c (.fn 248 [])],[.row 25 (.v 0)],4,0,.tup [],[(0,(.row 25 (.v 0)))],F1091,1091⟩
theorem ok1091 : s1091.ok Tryz.prog := fun _ _ _ h => by
 have h : (none : Option (List L)) = some _ := h
 cases h
def fir86 : Fir :=
 .join
 (.op (.call 24 F24 [.v 0,.v 1,.v 2] 1 []) <|
 .op (.not (.v 3)) <|
 .ite (.v 4)
 (.leaf (.jump 0 [.b true]))
 (.op (.bi .neq .i64 (.v 0) (.v 1)) <|
 .leaf (.jump 0 [.v 5])))
 (.ite (.v 3)
 (.leaf (.jump 0 [.i 1,.i 0,.r0]))
 (.op (.lit []) <|
 .op (.app (.v 4) (.v 2) 1 1) <|
 .op (.call 65 F65 [.v 0] 3 []) <|
 .join
 (.loop [.i 0,.v 5,.v 8]
 (.op (.bi .lss .i64 (.v 9) (.v 0)) <|
 .ite (.v 12)
 (.join
 (.join
 (.op (.bi .mul .i64 (.v 9) (.v 0)) <|
 .op (.bi .add .i64 (.v 13) (.v 9)) <|
 .op (.row (.v 10) (.v 14) 1) <|
 .op (.rc (.v 10) (.v 14) 0 (.int .u8)) <|
 .op (.bi .eql .u8 (.v 16) (.i 0)) <|
 .ite (.v 17)
 (.op (.bi .add .i64 (.v 9) (.i 1)) <|
 .join
 (.loop [.v 18]
 (.join
 (.op (.bi .lss .i64 (.v 19) (.v 0)) <|
 .ite (.v 20)
 (.op (.bi .mul .i64 (.v 19) (.v 0)) <|
 .op (.bi .add .i64 (.v 21) (.v 9)) <|
 .op (.row (.v 10) (.v 22) 1) <|
 .op (.rc (.v 10) (.v 22) 0 (.int .u8)) <|
 .op (.bi .eql .u8 (.v 24) (.i 0)) <|
 .leaf (.jump 0 [.v 25]))
 (.leaf (.jump 0 [.b false])))
 (.ite (.v 20)
 (.op (.bi .add .i64 (.v 19) (.i 1)) <|
 .leaf (.jump 0 [.v 21]))
 (.leaf (.jump 1 [.v 19])))))
 (.op (.bi .eql .i64 (.v 19) (.v 0)) <|
 .ite (.v 20)
 (.leaf (.jump 4 [.i 14,.i 0,.r0]))
 (.op (.call 81 F81 [.v 10,.v 0,.v 9,.v 19,.i 1] 1 []) <|
 .op (.call 81 F81 [.v 11,.v 0,.v 9,.v 19,.i 1] 1 []) <|
 .leaf (.jump 0 [.v 21,.v 22]))))
 (.leaf (.jump 0 [.v 10,.v 11])))
 (.op (.bi .mul .i64 (.v 9) (.v 0)) <|
 .op (.bi .add .i64 (.v 15) (.v 9)) <|
 .op (.row (.v 13) (.v 16) 1) <|
 .op (.rc (.v 13) (.v 16) 0 (.int .u8)) <|
 .op (.call 20 F20 [.v 18] 2 []) <|
 .op (.bi .xor .u8 (.v 19) (.i 1)) <|
 .op (.call 81 F81 [.v 14,.v 0,.v 9,.v 9,.v 21] 1 []) <|
 .op (.bi .xor .u8 (.v 19) (.i 1)) <|
 .op (.call 81 F81 [.v 13,.v 0,.v 9,.v 9,.v 23] 1 []) <|
 .loop [.i 0,.v 24,.v 22]
 (.op (.bi .lss .i64 (.v 25) (.v 0)) <|
 .ite (.v 28)
 (.join
 (.op (.bi .mul .i64 (.v 25) (.v 0)) <|
 .op (.bi .add .i64 (.v 29) (.v 9)) <|
 .op (.row (.v 26) (.v 30) 1) <|
 .op (.rc (.v 26) (.v 30) 0 (.int .u8)) <|
 .join
 (.op (.bi .neq .i64 (.v 25) (.v 9)) <|
 .ite (.v 33)
 (.op (.bi .neq .u8 (.v 32) (.i 0)) <|
 .leaf (.jump 0 [.v 34]))
 (.leaf (.jump 0 [.b false])))
 (.ite (.v 33)
 (.op (.call 81 F81 [.v 27,.v 0,.v 25,.v 9,.v 32] 1 []) <|
 .op (.call 81 F81 [.v 26,.v 0,.v 25,.v 9,.v 32] 1 []) <|
 .leaf (.jump 0 [.v 35,.v 34]))
 (.leaf (.jump 0 [.v 26,.v 27]))))
 (.op (.bi .add .i64 (.v 25) (.i 1)) <|
 .leaf (.jump 0 [.v 31,.v 29,.v 30])))
 (.leaf (.jump 1 [.v 26,.v 27])))))
 (.op (.bi .add .i64 (.v 9) (.i 1)) <|
 .leaf (.jump 0 [.v 15,.v 13,.v 14])))
 (.leaf (.jump 1 [.v 11]))))
 (.leaf (.jump 0 [.i 0,.v 7,.v 9]))))
def F86 := Fo fir86
def s86 : Sig := ⟨245,[.agg [pi 0,pi 1,.own 0]],[.row 5 (.v 2)],3,3,.tup [.agg [pi 4,pi 4,.own 1],ci 3],[(0,(.row 5 (.v 2))),(1,(.row 5 (.v 5)))],F86,86⟩
theorem ok86 : s86.ok Tryz.prog := okS fir86 TT_ok (.cons ok81 (.cons ok65 (.cons ok24 (.cons ok20 .nil)))) Tryz.func245 (by kernel_rfl) (by kernel_rfl) rfl
def fir87 : Fir :=
 .op (.call 84 F84 [.v 0] 1 []) <|
 .op (.bi .geq .i64 (.v 1) (.i 0)) <|
 .leaf (.jump 0 [.v 2])
def F87 := Fo fir87
def s87 : Sig := ⟨156,[cs 0,.c (.fn 206 [])],[],1,1,.v (.c (.p .bool (.v 1))),[],F87,87⟩
theorem ok87 : s87.ok Tryz.prog := okS fir87 TT_ok (.cons ok84 .nil) Tryz.func156 (by kernel_rfl) (by kernel_rfl) rfl
def fir88 : Fir :=
 .join
 (.loop [.i 0,.v 0]
 (.op (.bi .lss .i64 (.v 3) (.v 4)) <|
 .ite (.v 5)
 (.op (.bi .add .i64 (.v 3) (.v 4)) <|
 .op (.conv .u64 (.v 6)) <|
 .op (.bi .shr .u64 (.v 7) (.i 1)) <|
 .op (.conv .i64 (.v 8)) <|
 .op (.call 83 F83 [.v 9,.v 1,.v 2] 1 []) <|
 .op (.not (.v 10)) <|
 .ite (.v 11)
 (.op (.bi .add .i64 (.v 9) (.i 1)) <|
 .leaf (.jump 0 [.v 12,.v 4]))
 (.leaf (.jump 0 [.v 3,.v 9])))
 (.leaf (.jump 1 [.v 3]))))
 (.leaf (.jump 0 [.v 3]))
def F88 := Fo fir88
def s88 : Sig := ⟨250,[ci 0,.c (.fn 251 [0,1])],[.box [ps 1],.box [.p (.int .u64) (.v 2)]],3,1,.v (ci 3),[(1,(.box [.p (.int .u64) (.v 2)])),(0,(.box [ps 1]))],F88,88⟩
theorem ok88 : s88.ok Tryz.prog := okS fir88 TT_ok (.cons ok83 .nil) Tryz.func250 (by kernel_rfl) (by kernel_rfl) rfl
def fir89 : Fir :=
 .op (.call 82 F82 [.v 0] 1 []) <|
 .leaf (.jump 0 [.v 1])
def F89 := Fo fir89
def s89 : Sig := ⟨225,[.c (.p (.int .u64) (.v 0))],[],1,1,.v (ci 1),[],F89,89⟩
theorem ok89 : s89.ok Tryz.prog := okS fir89 TT_ok (.cons ok82 .nil) Tryz.func225 (by kernel_rfl) (by kernel_rfl) rfl
def fir90 : Fir :=
 .op (.len (.v 0)) <|
 .op (.call 88 F88 [.v 2,.v 0,.v 1] 1 []) <|
 .join
 (.op (.len (.v 0)) <|
 .op (.bi .lss .i64 (.v 3) (.v 4)) <|
 .ite (.v 5)
 (.op (.row (.v 0) (.v 3) 4) <|
 .op (.cl (.v 6) 0 (.int .u64)) <|
 .op (.bi .eql .u64 (.v 7) (.v 1)) <|
 .leaf (.jump 0 [.v 8]))
 (.leaf (.jump 0 [.b false])))
 (.leaf (.jump 0 [.v 3,.v 4]))
def F90 := Fo fir90
def s90 : Sig := ⟨219,[cs 0,.c (.p (.int .u64) (.v 1))],[],2,2,.tup [ci 2,.c (.p .bool (.v 3))],[],F90,90⟩
theorem ok90 : s90.ok Tryz.prog := okS fir90 TT_ok (.cons ok88 .nil) Tryz.func219 (by kernel_rfl) (by kernel_rfl) rfl
def fir91 : Fir :=
 .join
 (.op (.call 9 F9 [.v 0] 1 []) <|
 .ite (.v 1)
 (.op (.call 87 F87 [.v 0] 1 []) <|
 .op (.not (.v 2)) <|
 .leaf (.jump 0 [.v 3]))
 (.leaf (.jump 0 [.b false])))
 (.leaf (.jump 0 [.v 1]))
def F91 := Fo fir91
def s91 : Sig := ⟨154,[cs 0],[],1,1,.v (.c (.p .bool (.v 1))),[],F91,91⟩
theorem ok91 : s91.ok Tryz.prog := okS fir91 TT_ok (.cons ok87 (.cons ok62 (.cons ok9 .nil))) Tryz.func154 (by kernel_rfl) (by kernel_rfl) rfl
end
end
end Go.Proofs.YtndegphojkiblaaGreatDoor
