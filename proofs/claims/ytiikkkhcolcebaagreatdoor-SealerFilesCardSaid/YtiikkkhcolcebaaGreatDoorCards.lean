/-
  DERIVED. GIVEN WITH THE SEED: THE CARDS: each row of YtiikkkhcolcebaaGreatDoorRows.lean that lists a variable, with what it lists TIED to the program's text (the seventh form; the later family's looks); each row that meets fmt, with fmt's text TOLD by the authors' own Lean function (tested against real Go, not proved from fmt's source: count such statements apart). THE CARD IS WHAT COUNTS. Prove the row's statement (the work); the ties are given (YtiikkkhcolcebaaGreatDoorTie.lean); close each card by the builder's one call (the guide's Derived/Test/ToyasCard.lean, 'card_holds'). Laid BY PROGRAM, IN A SANDBOX (cutbox-door.mjs). By AI agents, Wed Nov 11 2026. No macro, syntax, notation, axiom, sorry.
-/
import Derived.Test.YtiikkkhcolcebaaGreatDoorRows
import GoSem.ClaimSeven
namespace Go.Proofs.YtiikkkhcolcebaaGreatDoor
namespace Rows

/-- THE TIED CARD OF 'needlestorelaw21.SealerSteps'. -/
def sealerStepsCard : Claim7 := { stood := { row := sealerStepsRow, standIns := [], harness := (true, "adc5aa8322c32e5d19e832edafde222addf964dd640a0c62afc5a1b0a3ba6fe5"), looks := false }, kinds := [], alts := [], laidByText := true, laidKinds := [.data, .data, .data, .data, .pinned], laidTests := true, laidLooks := .later }
def SealerStepsCardSaid : Prop := Claim7.holds Tryz.pinned (.plain (OpenSpec.ofChange sealerStepsSpec)) sealerStepsCard

/-- THE TIED CARD OF 'needlestorelaw21.SealerKeeps'. -/
def sealerKeepsCard : Claim7 := { stood := { row := sealerKeepsRow, standIns := [], harness := (true, "adc5aa8322c32e5d19e832edafde222addf964dd640a0c62afc5a1b0a3ba6fe5"), looks := false }, kinds := [], alts := [], laidByText := true, laidKinds := [.data, .data, .data, .data, .pinned], laidTests := true, laidLooks := .later }
def SealerKeepsCardSaid : Prop := Claim7.holds Tryz.pinned (.plain (OpenSpec.ofChange sealerKeepsSpec)) sealerKeepsCard

/-- THE TIED CARD OF 'needlestorelaw21.SealerAll'. -/
def sealerAllCard : Claim7 := { stood := { row := sealerAllRow, standIns := [], harness := (true, "adc5aa8322c32e5d19e832edafde222addf964dd640a0c62afc5a1b0a3ba6fe5"), looks := false }, kinds := [], alts := [], laidByText := true, laidKinds := [.data, .data, .data, .data, .pinned], laidTests := true, laidLooks := .later }
def SealerAllCardSaid : Prop := Claim7.holds Tryz.pinned (.plain (OpenSpec.ofChange sealerAllSpec)) sealerAllCard

/-- THE TIED CARD OF 'needlestorelaw21.SealerFiles'. -/
def sealerFilesCard : Claim7 := { stood := { row := sealerFilesRow, standIns := [], harness := (true, "adc5aa8322c32e5d19e832edafde222addf964dd640a0c62afc5a1b0a3ba6fe5"), looks := false }, kinds := [], alts := [], laidByText := true, laidKinds := [.data, .data, .data, .data, .pinned], laidTests := true, laidLooks := .later }
def SealerFilesCardSaid : Prop := Claim7.holds Tryz.pinned (.plain (OpenSpec.ofChange sealerFilesSpec)) sealerFilesCard

/-- THE TIED CARD OF 'needlestorelaw21.SealerPower'. -/
def sealerPowerCard : Claim7 := { stood := { row := sealerPowerRow, standIns := [], harness := (true, "adc5aa8322c32e5d19e832edafde222addf964dd640a0c62afc5a1b0a3ba6fe5"), looks := false }, kinds := [], alts := [], laidByText := true, laidKinds := [.data, .data, .data, .data, .pinned], laidTests := true, laidLooks := .later }
def SealerPowerCardSaid : Prop := Claim7.holds Tryz.pinned (.plain (OpenSpec.ofChange sealerPowerSpec)) sealerPowerCard

/-- THE SECOND FORM's CARD OF 'needlestorelaw21.SealerSteps'. -/
def sealerStepsUptoCard : Claim7 := { stood := { row := sealerStepsUptoRow, standIns := [], harness := (true, "adc5aa8322c32e5d19e832edafde222addf964dd640a0c62afc5a1b0a3ba6fe5"), looks := false }, kinds := [], alts := [], laidByText := true, laidKinds := [.data, .data, .data, .data, .pinned], laidTests := true, laidLooks := .later }
def SealerStepsUptoCardSaid : Prop := Claim7.holds Tryz.pinned (.plain (OpenSpec.upto sealerStepsSpec)) sealerStepsUptoCard

/-- THE SECOND FORM's CARD OF 'needlestorelaw21.SealerKeeps'. -/
def sealerKeepsUptoCard : Claim7 := { stood := { row := sealerKeepsUptoRow, standIns := [], harness := (true, "adc5aa8322c32e5d19e832edafde222addf964dd640a0c62afc5a1b0a3ba6fe5"), looks := false }, kinds := [], alts := [], laidByText := true, laidKinds := [.data, .data, .data, .data, .pinned], laidTests := true, laidLooks := .later }
def SealerKeepsUptoCardSaid : Prop := Claim7.holds Tryz.pinned (.plain (OpenSpec.upto sealerKeepsSpec)) sealerKeepsUptoCard

/-- THE SECOND FORM's CARD OF 'needlestorelaw21.SealerAll'. -/
def sealerAllUptoCard : Claim7 := { stood := { row := sealerAllUptoRow, standIns := [], harness := (true, "adc5aa8322c32e5d19e832edafde222addf964dd640a0c62afc5a1b0a3ba6fe5"), looks := false }, kinds := [], alts := [], laidByText := true, laidKinds := [.data, .data, .data, .data, .pinned], laidTests := true, laidLooks := .later }
def SealerAllUptoCardSaid : Prop := Claim7.holds Tryz.pinned (.plain (OpenSpec.upto sealerAllSpec)) sealerAllUptoCard

/-- THE SECOND FORM's CARD OF 'needlestorelaw21.SealerFiles'. -/
def sealerFilesUptoCard : Claim7 := { stood := { row := sealerFilesUptoRow, standIns := [], harness := (true, "adc5aa8322c32e5d19e832edafde222addf964dd640a0c62afc5a1b0a3ba6fe5"), looks := false }, kinds := [], alts := [], laidByText := true, laidKinds := [.data, .data, .data, .data, .pinned], laidTests := true, laidLooks := .later }
def SealerFilesUptoCardSaid : Prop := Claim7.holds Tryz.pinned (.plain (OpenSpec.upto sealerFilesSpec)) sealerFilesUptoCard

/-- THE SECOND FORM's CARD OF 'needlestorelaw21.SealerPower'. -/
def sealerPowerUptoCard : Claim7 := { stood := { row := sealerPowerUptoRow, standIns := [], harness := (true, "adc5aa8322c32e5d19e832edafde222addf964dd640a0c62afc5a1b0a3ba6fe5"), looks := false }, kinds := [], alts := [], laidByText := true, laidKinds := [.data, .data, .data, .data, .pinned], laidTests := true, laidLooks := .later }
def SealerPowerUptoCardSaid : Prop := Claim7.holds Tryz.pinned (.plain (OpenSpec.upto sealerPowerSpec)) sealerPowerUptoCard
end Rows
end Go.Proofs.YtiikkkhcolcebaaGreatDoor
