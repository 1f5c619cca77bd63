/-
  DERIVED. GIVEN WITH THE SEED: THE CARDS: each row of YtndegphojkiblaaGreatDoorRows.lean that lists a variable, with what it lists TIED to the program's text (the seventh form; the later family's looks); each row that meets fmt, with fmt's text TOLD by the authors' own Lean function (tested against real Go, not proved from fmt's source: count such statements apart). THE CARD IS WHAT COUNTS. Prove the row's statement (the work); the ties are given (YtndegphojkiblaaGreatDoorTie.lean); close each card by the builder's one call (the guide's Derived/Test/ToyasCard.lean, 'card_holds'). Laid BY PROGRAM, IN A SANDBOX (cutbox-door.mjs). By AI agents, Wed Nov 11 2026. No macro, syntax, notation, axiom, sorry.
-/
import Derived.Test.YtndegphojkiblaaGreatDoorRows
import GoSem.ClaimSeven
namespace Go.Proofs.YtndegphojkiblaaGreatDoor
namespace Rows

/-- THE TIED CARD OF 'needlestorelaw19.ReaderSteps'. -/
def readerStepsCard : Claim7 := { stood := { row := readerStepsRow, standIns := [], harness := (true, "ff57f10f30252dff01a77dd786d775009cfab12924bd5d2e0fd5d23442b19ba1"), looks := false }, kinds := [], alts := [], laidByText := true, laidKinds := [.data, .data, .data, .data, .pinned], laidTests := true, laidLooks := .later }
def ReaderStepsCardSaid : Prop := Claim7.holds Tryz.pinned (.plain (OpenSpec.ofChange readerStepsSpec)) readerStepsCard

/-- THE TIED CARD OF 'needlestorelaw19.ReaderLoads'. -/
def readerLoadsCard : Claim7 := { stood := { row := readerLoadsRow, standIns := [], harness := (true, "ff57f10f30252dff01a77dd786d775009cfab12924bd5d2e0fd5d23442b19ba1"), looks := false }, kinds := [], alts := [], laidByText := true, laidKinds := [.data, .data, .data, .data, .pinned], laidTests := true, laidLooks := .later }
def ReaderLoadsCardSaid : Prop := Claim7.holds Tryz.pinned (.plain (OpenSpec.ofChange readerLoadsSpec)) readerLoadsCard

/-- THE TIED CARD OF 'needlestorelaw19.ReaderGets'. -/
def readerGetsCard : Claim7 := { stood := { row := readerGetsRow, standIns := [], harness := (true, "ff57f10f30252dff01a77dd786d775009cfab12924bd5d2e0fd5d23442b19ba1"), looks := false }, kinds := [], alts := [], laidByText := true, laidKinds := [.data, .data, .data, .data, .pinned], laidTests := true, laidLooks := .later }
def ReaderGetsCardSaid : Prop := Claim7.holds Tryz.pinned (.plain (OpenSpec.ofChange readerGetsSpec)) readerGetsCard

/-- THE TIED CARD OF 'needlestorelaw19.ReaderRetries'. -/
def readerRetriesCard : Claim7 := { stood := { row := readerRetriesRow, standIns := [], harness := (true, "ff57f10f30252dff01a77dd786d775009cfab12924bd5d2e0fd5d23442b19ba1"), looks := false }, kinds := [], alts := [], laidByText := true, laidKinds := [.data, .data, .data, .data, .pinned], laidTests := true, laidLooks := .later }
def ReaderRetriesCardSaid : Prop := Claim7.holds Tryz.pinned (.plain (OpenSpec.ofChange readerRetriesSpec)) readerRetriesCard

/-- THE TIED CARD OF 'needlestorelaw19.ReaderPower'. -/
def readerPowerCard : Claim7 := { stood := { row := readerPowerRow, standIns := [], harness := (true, "ff57f10f30252dff01a77dd786d775009cfab12924bd5d2e0fd5d23442b19ba1"), looks := false }, kinds := [], alts := [], laidByText := true, laidKinds := [.data, .data, .data, .data, .pinned], laidTests := true, laidLooks := .later }
def ReaderPowerCardSaid : Prop := Claim7.holds Tryz.pinned (.plain (OpenSpec.ofChange readerPowerSpec)) readerPowerCard

/-- THE SECOND FORM's CARD OF 'needlestorelaw19.ReaderSteps'. -/
def readerStepsUptoCard : Claim7 := { stood := { row := readerStepsUptoRow, standIns := [], harness := (true, "ff57f10f30252dff01a77dd786d775009cfab12924bd5d2e0fd5d23442b19ba1"), looks := false }, kinds := [], alts := [], laidByText := true, laidKinds := [.data, .data, .data, .data, .pinned], laidTests := true, laidLooks := .later }
def ReaderStepsUptoCardSaid : Prop := Claim7.holds Tryz.pinned (.plain (OpenSpec.upto readerStepsSpec)) readerStepsUptoCard

/-- THE SECOND FORM's CARD OF 'needlestorelaw19.ReaderLoads'. -/
def readerLoadsUptoCard : Claim7 := { stood := { row := readerLoadsUptoRow, standIns := [], harness := (true, "ff57f10f30252dff01a77dd786d775009cfab12924bd5d2e0fd5d23442b19ba1"), looks := false }, kinds := [], alts := [], laidByText := true, laidKinds := [.data, .data, .data, .data, .pinned], laidTests := true, laidLooks := .later }
def ReaderLoadsUptoCardSaid : Prop := Claim7.holds Tryz.pinned (.plain (OpenSpec.upto readerLoadsSpec)) readerLoadsUptoCard

/-- THE SECOND FORM's CARD OF 'needlestorelaw19.ReaderGets'. -/
def readerGetsUptoCard : Claim7 := { stood := { row := readerGetsUptoRow, standIns := [], harness := (true, "ff57f10f30252dff01a77dd786d775009cfab12924bd5d2e0fd5d23442b19ba1"), looks := false }, kinds := [], alts := [], laidByText := true, laidKinds := [.data, .data, .data, .data, .pinned], laidTests := true, laidLooks := .later }
def ReaderGetsUptoCardSaid : Prop := Claim7.holds Tryz.pinned (.plain (OpenSpec.upto readerGetsSpec)) readerGetsUptoCard

/-- THE SECOND FORM's CARD OF 'needlestorelaw19.ReaderRetries'. -/
def readerRetriesUptoCard : Claim7 := { stood := { row := readerRetriesUptoRow, standIns := [], harness := (true, "ff57f10f30252dff01a77dd786d775009cfab12924bd5d2e0fd5d23442b19ba1"), looks := false }, kinds := [], alts := [], laidByText := true, laidKinds := [.data, .data, .data, .data, .pinned], laidTests := true, laidLooks := .later }
def ReaderRetriesUptoCardSaid : Prop := Claim7.holds Tryz.pinned (.plain (OpenSpec.upto readerRetriesSpec)) readerRetriesUptoCard

/-- THE SECOND FORM's CARD OF 'needlestorelaw19.ReaderPower'. -/
def readerPowerUptoCard : Claim7 := { stood := { row := readerPowerUptoRow, standIns := [], harness := (true, "ff57f10f30252dff01a77dd786d775009cfab12924bd5d2e0fd5d23442b19ba1"), looks := false }, kinds := [], alts := [], laidByText := true, laidKinds := [.data, .data, .data, .data, .pinned], laidTests := true, laidLooks := .later }
def ReaderPowerUptoCardSaid : Prop := Claim7.holds Tryz.pinned (.plain (OpenSpec.upto readerPowerSpec)) readerPowerUptoCard
end Rows
end Go.Proofs.YtndegphojkiblaaGreatDoor
