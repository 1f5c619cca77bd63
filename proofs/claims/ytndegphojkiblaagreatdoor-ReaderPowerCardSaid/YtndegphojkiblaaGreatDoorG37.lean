/- Towards the last file's theorem: part 37. -/
import Derived.Test.YtndegphojkiblaaGreatDoorG36
set_option linter.unusedSimpArgs false
set_option linter.unusedVariables false
set_option maxHeartbeats 4000000
namespace Go.Proofs.YtndegphojkiblaaGreatDoor
section
set_option maxRecDepth 100000
open Go.RowKit
theorem ngk {tb : GT} {t : Nat} {F : List L → Option (List L)} (e : tb t = none) : ∀ g,tb t = some g → ∀ ls o,g ls = some o → F ls = some o := fun g hg => by
 rw [e] at hg; cases hg
noncomputable section
def rndG (g113 F113 : List L → Option (List L)) (t113 : Nat) (ρ : List L) (acc : List (List PV)) (k : Nat) (r : List PV) : Option (List (List PV)) :=
 match cells58 r with
 | some cs => match (firAll F113 t113).run (tblG [(t113,g113)]) 10 (ρ ++ [.r acc,.i k] ++ cs) with
  | some (.jump 0 [a],ρ') => some (a.ev ρ').asR
  | _ => none
 | none => none
def accG (g113 F113 : List L → Option (List L)) (t113 : Nat) (ρ : List L) (gens : List (List PV)) : Nat → Option (List (List PV))
 | 0 => some []
 | k + 1 => match accG g113 F113 t113 ρ gens k,gens[gens.length - 1 - k]? with
  | some acc,some g => rndG g113 F113 t113 ρ acc (gens.length - 1 - k) g
  | _,_ => none
def FAllG (g40 g112 g113 F113 : List L → Option (List L)) (t113 : Nat) : List L → Option (List L) := fun ls => match ls with
 | [n,r,m,.r gens,key] => match g40 [n,r,m,.r gens] with
  | some [ok] => if ok.asB = true then
   (if gens.length ≤ 4611686018427387904 then match g112 [.r gens] with
    | some [] => (accG g113 F113 t113 [n,r,m,.r gens,key,ok,.b (!ok.asB)] gens gens.length).map fun acc => [.r acc]
    | _ => none
   else none) else some [.r []]
  | _ => none
 | _ => none
section
variable {g40 g112 g113 F40 F112 F113 : List L → Option (List L)} {t113 : Nat} (h40 : ∀ ls o,g40 ls = some o → F40 ls = some o) (h112 : ∀ ls o,g112 ls = some o → F112 ls = some o) (h113 : ∀ ls o,g113 ls = some o → F113 ls = some o)
include h113
theorem rndG_ok {ρ : List L} {acc : List (List PV)} {k : Nat} {r : List PV} {x : List (List PV)} (h : rndG g113 F113 t113 ρ acc k r = some x) : rnd58 F113 t113 ρ acc k r = some x := by
 unfold rndG at h
 unfold rnd58
 split at h
 · rename_i cs hcs
   split at h
   · rename_i a ρ' hr
     have hc : CallsG (tblG [(t113,g113)]) (firAll F113 t113) := callsG (cs := [(t113,F113)]) rfl ⟨fun g hg => by
      have e : tblG [(t113,g113)] t113 = some g113 := by
       show cond (Nat.beq t113 t113) (some g113) none = some g113
       rw [Nat.beq_refl]; rfl
      rw [e] at hg
      cases hg; exact h113,trivial⟩
     have hd : (firAll F113 t113).den (ρ ++ [.r acc,.i k] ++ cs) = some (.jump 0 [a],ρ') := Fir.run_ok hc hr
     simp only [hcs]
     rw [hd]
     exact h
   · cases h
 · cases h
theorem accG_ok {ρ : List L} {gens : List (List PV)} : ∀ {n : Nat} {x : List (List PV)},accG g113 F113 t113 ρ gens n = some x → acc58 F113 t113 ρ gens n = some x
 | 0,x,h => h
 | n + 1,x,h => by
  rw [accG] at h
  split at h
  · rename_i acc g h1 h2
    rw [acc58,accG_ok h1,h2]
    exact rndG_ok h113 h
  · cases h
include h40 h112
theorem FAllG_ok : ∀ ls o,FAllG g40 g112 g113 F113 t113 ls = some o → FAll F40 F112 F113 t113 ls = some o := fun ls o h => by
 unfold FAllG at h
 split at h
 · rename_i n r m gens key
   split at h
   · rename_i ok hok
     unfold FAll
     simp only [h40 _ _ hok]
     by_cases hb : ok.asB = true
     · rw [if_pos hb] at h ⊢
       by_cases hl : gens.length ≤ 4611686018427387904
       · rw [if_pos hl] at h ⊢
         split at h
         · rename_i h12
           rw [h112 _ _ h12]
           simp only [Option.map_eq_some_iff] at h ⊢
           obtain ⟨acc,h3,h4⟩ := h
           exact ⟨acc,accG_ok h113 h3,h4⟩
         · cases h
       · rw [if_neg hl] at h; cases h
     · rw [if_neg hb] at h ⊢; exact h
   · cases h
 · cases h
end
def gr (x : Fir) (l : List (Nat × (List L → Option (List L)))) : List L → Option (List L) := fun ls => outO (x.run (tblG l) 40 ls)
def gi (g F : List L → Option (List L)) : Prop := ∀ ls o,g ls = some o → F ls = some o
theorem gm {x : Fir} {l : List (Nat × (List L → Option (List L)))} (cs : List (Nat × (List L → Option (List L)))) (e : AI.Fir.calls x = cs) (h : ListG (tblG l) cs) : gi (gr x l) (Fo x) := run_fn (callsG e h)
def g10 := gr fir10 []
theorem gk10 : gi g10 F10 := gm [] (by kernel_rfl) trivial
def g9 := gr fir9 []
theorem gk9 : gi g9 F9 := gm [] (by kernel_rfl) trivial
def g7 := gr fir7 []
theorem gk7 : gi g7 F7 := gm [] (by kernel_rfl) trivial
def g8 := gr fir8 [(7,g7)]
theorem gk8 : gi g8 F8 := gm [(7,F7)] (by kernel_rfl) ⟨tbg rfl gk7,trivial⟩
def g84 := gr fir84 [(8,g8)]
theorem gk84 : gi g84 F84 := gm [(8,F8)] (by kernel_rfl) ⟨tbg rfl gk8,trivial⟩
def g87 := gr fir87 [(84,g84)]
theorem gk87 : gi g87 F87 := gm [(84,F84)] (by kernel_rfl) ⟨tbg rfl gk84,trivial⟩
def g91 := gr fir91 [(9,g9),(87,g87)]
theorem gk91 : gi g91 F91 := gm [(9,F9),(87,F87)] (by kernel_rfl) ⟨tbg rfl gk9,tbg rfl gk87,trivial⟩
def g12 := gr fir12 []
theorem gk12 : gi g12 F12 := gm [] (by kernel_rfl) trivial
def g5 := gr fir5 []
theorem gk5 : gi g5 F5 := gm [] (by kernel_rfl) trivial
def g11 := gr fir11 [(5,g5)]
theorem gk11 : gi g11 F11 := gm [(5,F5)] (by kernel_rfl) ⟨tbg rfl gk5,trivial⟩
def g92 := gr fir92 [(91,g91),(12,g12),(11,g11)]
theorem gk92 : gi g92 F92 := gm [(91,F91),(12,F12),(11,F11)] (by kernel_rfl) ⟨tbg rfl gk91,tbg rfl gk12,tbg rfl gk11,trivial⟩
def g63 := gr fir63 []
theorem gk63 : gi g63 F63 := gm [] (by kernel_rfl) trivial
def g2001 : List L → Option (List L) := fun ls => match g63 ls with | some os => if os.length = s63.nout then some [] else none | none => none
theorem gk2001 : ∀ ls o,g2001 ls = some o → F2001 ls = some o := fun ls o h => by
 unfold g2001 at h
 split at h
 · rename_i os hos
   show (match F63 ls with | some os => if os.length = s63.nout then some [] else none | none => none) = some o
   rw [gk63 _ _ hos]; exact h
 · cases h
def g64 := gr fir64 [(2001,g2001)]
theorem gk64 : gi g64 F64 := gm [(2001,F2001)] (by kernel_rfl) ⟨tbg rfl gk2001,trivial⟩
def g2000 : List L → Option (List L) := F2000
theorem gk2000 : ∀ ls o,g2000 ls = some o → F2000 ls = some o := fun _ _ h => h
def g62 := gr fir62 []
theorem gk62 : gi g62 F62 := gm [] (by kernel_rfl) trivial
def g0 := gr fir0 []
theorem gk0 : gi g0 F0 := gm [] (by kernel_rfl) trivial
def g1 := gr fir1 [(0,g0)]
theorem gk1 : gi g1 F1 := gm [(0,F0),(0,F0)] (by kernel_rfl) ⟨tbg rfl gk0,tbg rfl gk0,trivial⟩
def g6 := gr fir6 [(1,g1)]
theorem gk6 : gi g6 F6 := gm [(1,F1)] (by kernel_rfl) ⟨tbg rfl gk1,trivial⟩
def g85 := gr fir85 [(6,g6)]
theorem gk85 : gi g85 F85 := gm [(6,F6)] (by kernel_rfl) ⟨tbg rfl gk6,trivial⟩
def g106 := gr fir106 [(85,g85)]
theorem gk106 : gi g106 F106 := gm [(85,F85),(85,F85),(1091,F1091),(1091,F1091)] (by kernel_rfl) ⟨tbg rfl gk85,tbg rfl gk85,ngk rfl,ngk rfl,trivial⟩
def g121 := gr fir121 [(106,g106)]
theorem gk121 : gi g121 F121 := gm [(106,F106)] (by kernel_rfl) ⟨tbg rfl gk106,trivial⟩
def g134 := gr fir134 [(2000,g2000),(62,g62),(121,g121)]
theorem gk134 : gi g134 F134 := gm [(2000,F2000),(62,F62),(121,F121)] (by kernel_rfl) ⟨tbg rfl gk2000,tbg rfl gk62,tbg rfl gk121,trivial⟩
def g157 := gr fir157 []
theorem gk157 : gi g157 F157 := gm [] (by kernel_rfl) trivial
def g160 := gr fir160 [(157,g157)]
theorem gk160 : gi g160 F160 := gm [(157,F157)] (by kernel_rfl) ⟨tbg rfl gk157,trivial⟩
def g161 := gr fir161 [(160,g160)]
theorem gk161 : gi g161 F161 := gm [(160,F160)] (by kernel_rfl) ⟨tbg rfl gk160,trivial⟩
def g162 := gr fir162 [(161,g161)]
theorem gk162 : gi g162 F162 := gm [(161,F161)] (by kernel_rfl) ⟨tbg rfl gk161,trivial⟩
def g163 := gr fir163 [(162,g162),(161,g161)]
theorem gk163 : gi g163 F163 := gm [(162,F162),(161,F161)] (by kernel_rfl) ⟨tbg rfl gk162,tbg rfl gk161,trivial⟩
def g123 := gr fir123 [(2000,g2000),(62,g62),(121,g121)]
theorem gk123 : gi g123 F123 := gm [(2000,F2000),(62,F62),(121,F121)] (by kernel_rfl) ⟨tbg rfl gk2000,tbg rfl gk62,tbg rfl gk121,trivial⟩
def g166 := gr fir166 [(134,g134),(163,g163),(123,g123)]
theorem gk166 : gi g166 F166 := gm [(134,F134),(163,F163),(123,F123),(123,F123)] (by kernel_rfl) ⟨tbg rfl gk134,tbg rfl gk163,tbg rfl gk123,tbg rfl gk123,trivial⟩
def g168 := gr fir168 [(92,g92),(64,g64),(166,g166)]
theorem gk168 : gi g168 F168 := gm [(92,F92),(64,F64),(166,F166)] (by kernel_rfl) ⟨tbg rfl gk92,tbg rfl gk64,tbg rfl gk166,trivial⟩
def g82 := gr fir82 []
theorem gk82 : gi g82 F82 := gm [] (by kernel_rfl) trivial
def g89 := gr fir89 [(82,g82)]
theorem gk89 : gi g89 F89 := gm [(82,F82)] (by kernel_rfl) ⟨tbg rfl gk82,trivial⟩
def g2 := gr fir2 []
theorem gk2 : gi g2 F2 := gm [] (by kernel_rfl) trivial
def g3 := gr fir3 [(2,g2)]
theorem gk3 : gi g3 F3 := gm [(2,F2),(2,F2)] (by kernel_rfl) ⟨tbg rfl gk2,tbg rfl gk2,trivial⟩
def g13 := gr fir13 [(3,g3)]
theorem gk13 : gi g13 F13 := gm [(3,F3)] (by kernel_rfl) ⟨tbg rfl gk3,trivial⟩
def g133 := gr fir133 [(13,g13)]
theorem gk133 : gi g133 F133 := gm [(13,F13)] (by kernel_rfl) ⟨tbg rfl gk13,trivial⟩
def g177 := gr fir177 [(133,g133),(13,g13)]
theorem gk177 : gi g177 F177 := gm [(133,F133),(1145,F1145),(1161,F1161),(1167,F1167),(13,F13),(1170,F1170),(1183,F1183),(1186,F1186),(1186,F1186)] (by kernel_rfl) ⟨tbg rfl gk133,ngk rfl,ngk rfl,ngk rfl,tbg rfl gk13,ngk rfl,ngk rfl,ngk rfl,ngk rfl,trivial⟩
def g185 := gr fir185 [(89,g89),(177,g177)]
theorem gk185 : gi g185 F185 := gm [(89,F89),(177,F177)] (by kernel_rfl) ⟨tbg rfl gk89,tbg rfl gk177,trivial⟩
def g186 := gr fir186 [(185,g185),(5,g5)]
theorem gk186 : gi g186 F186 := gm [(185,F185),(5,F5)] (by kernel_rfl) ⟨tbg rfl gk185,tbg rfl gk5,trivial⟩
def g188 := gr fir188 [(92,g92),(168,g168),(186,g186)]
theorem gk188 : gi g188 F188 := gm [(92,F92),(168,F168),(186,F186)] (by kernel_rfl) ⟨tbg rfl gk92,tbg rfl gk168,tbg rfl gk186,trivial⟩
def g189 := gr fir189 [(10,g10),(188,g188)]
theorem gk189 : gi g189 F189 := gm [(10,F10),(188,F188)] (by kernel_rfl) ⟨tbg rfl gk10,tbg rfl gk188,trivial⟩
def g187 := gr fir187 [(92,g92),(168,g168),(186,g186)]
theorem gk187 : gi g187 F187 := gm [(92,F92),(168,F168),(186,F186)] (by kernel_rfl) ⟨tbg rfl gk92,tbg rfl gk168,tbg rfl gk186,trivial⟩
def g171 := gr fir171 [(168,g168)]
theorem gk171 : gi g171 F171 := gm [(168,F168)] (by kernel_rfl) ⟨tbg rfl gk168,trivial⟩
def g190 := gr fir190 [(5,g5),(187,g187),(171,g171)]
theorem gk190 : gi g190 F190 := gm [(5,F5),(187,F187),(171,F171),(5,F5)] (by kernel_rfl) ⟨tbg rfl gk5,tbg rfl gk187,tbg rfl gk171,tbg rfl gk5,trivial⟩
def g191 := gr fir191 [(189,g189),(190,g190)]
theorem gk191 : gi g191 F191 := gm [(189,F189),(190,F190)] (by kernel_rfl) ⟨tbg rfl gk189,tbg rfl gk190,trivial⟩
def g35 := gr fir35 []
theorem gk35 : gi g35 F35 := gm [] (by kernel_rfl) trivial
def g18 := gr fir18 []
theorem gk18 : gi g18 F18 := gm [] (by kernel_rfl) trivial
def g14 := gr fir14 []
theorem gk14 : gi g14 F14 := gm [] (by kernel_rfl) trivial
def g4 := gr fir4 []
theorem gk4 : gi g4 F4 := gm [] (by kernel_rfl) trivial
def g83 := gr fir83 []
theorem gk83 : gi g83 F83 := gm [] (by kernel_rfl) trivial
def g88 := gr fir88 [(83,g83)]
theorem gk88 : gi g88 F88 := gm [(83,F83)] (by kernel_rfl) ⟨tbg rfl gk83,trivial⟩
def g90 := gr fir90 [(88,g88)]
theorem gk90 : gi g90 F90 := gm [(88,F88)] (by kernel_rfl) ⟨tbg rfl gk88,trivial⟩
def g124 := gr fir124 [(123,g123),(90,g90)]
theorem gk124 : gi g124 F124 := gm [(123,F123),(90,F90)] (by kernel_rfl) ⟨tbg rfl gk123,tbg rfl gk90,trivial⟩
def g125 := gr fir125 [(92,g92),(12,g12),(124,g124)]
theorem gk125 : gi g125 F125 := gm [(92,F92),(12,F12),(124,F124)] (by kernel_rfl) ⟨tbg rfl gk92,tbg rfl gk12,tbg rfl gk124,trivial⟩
def g2005 : List L → Option (List L) := FAllG g190 g4 g125 F125 125
theorem gk2005 : ∀ ls o,g2005 ls = some o → F2005 ls = some o := FAllG_ok gk190 gk4 gk125
def g192 := gr fir192 [(2005,g2005)]
theorem gk192 : gi g192 F192 := gm [(2005,F2005)] (by kernel_rfl) ⟨tbg rfl gk2005,trivial⟩
def g193 := gr fir193 [(192,g192)]
theorem gk193 : gi g193 F193 := gm [(192,F192)] (by kernel_rfl) ⟨tbg rfl gk192,trivial⟩
def g194 := gr fir194 [(190,g190),(193,g193)]
theorem gk194 : gi g194 F194 := gm [(190,F190),(193,F193),(1201,F1201)] (by kernel_rfl) ⟨tbg rfl gk190,tbg rfl gk193,ngk rfl,trivial⟩
def g195 := gr fir195 [(191,g191),(35,g35),(18,g18),(14,g14),(194,g194)]
theorem gk195 : gi g195 F195 := gm [(191,F191),(35,F35),(18,F18),(14,F14),(194,F194),(194,F194)] (by kernel_rfl) ⟨tbg rfl gk191,tbg rfl gk35,tbg rfl gk18,tbg rfl gk14,tbg rfl gk194,tbg rfl gk194,trivial⟩
theorem awake_law : F195 [] = some [.b true] := gk195 _ _ (by kernel_rfl)
end
end
end Go.Proofs.YtndegphojkiblaaGreatDoor
