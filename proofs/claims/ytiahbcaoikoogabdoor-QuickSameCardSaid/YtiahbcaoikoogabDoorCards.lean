/-
  DERIVED. GIVEN WITH THE SEED: THE CARDS: each row of YtiahbcaoikoogabDoorRows.lean that lists a variable, with what it lists TIED to the program's text (the seventh form; the later family's looks); each row that meets fmt, with fmt's text TOLD by the authors' own Lean function (tested against real Go, not proved from fmt's source: count such statements apart). THE CARD IS WHAT COUNTS. Prove the row's statement (the work); the ties are given (YtiahbcaoikoogabDoorTie.lean); close each card by the builder's one call (the guide's Derived/Test/ToyasCard.lean, 'card_holds'). Laid BY PROGRAM, IN A SANDBOX (cutbox-door.mjs). By AI agents, Wed Nov 11 2026. No macro, syntax, notation, axiom, sorry.
-/
import Derived.Test.YtiahbcaoikoogabDoorRows
import GoSem.ClaimSeven
namespace Go.Proofs.YtiahbcaoikoogabDoor
namespace Rows

/-- THE TIED CARD OF 'gaiterlaw10.SlowBack'. -/
def slowBackCard : Claim7 := { stood := { row := slowBackRow, standIns := [], harness := (true, "ce0528c41e70b637b627cb4b8d02fe2398a88345547447b96fbf181180dcf32b"), looks := true }, kinds := [], alts := [], laidByText := true, laidKinds := [.data], laidTests := true, laidLooks := .later }
def SlowBackCardSaid : Prop := Claim7.holds Tryd.pinned (.plain (OpenSpec.ofChange slowBackSpec)) slowBackCard

/-- THE TIED CARD OF 'gaiterlaw12.QuickTells'. -/
def quickTellsCard : Claim7 := { stood := { row := quickTellsRow, standIns := [], harness := (true, "ce0528c41e70b637b627cb4b8d02fe2398a88345547447b96fbf181180dcf32b"), looks := true }, kinds := [], alts := [], laidByText := true, laidKinds := [.data], laidTests := true, laidLooks := .later }
def QuickTellsCardSaid : Prop := Claim7.holds Tryd.pinned (.plain (OpenSpec.ofChange quickTellsSpec)) quickTellsCard

/-- THE TIED CARD OF 'gaiterlaw11.BatchSame'. -/
def batchSameCard : Claim7 := { stood := { row := batchSameRow, standIns := [], harness := (true, "ce0528c41e70b637b627cb4b8d02fe2398a88345547447b96fbf181180dcf32b"), looks := true }, kinds := [], alts := [], laidByText := true, laidKinds := [.data], laidTests := true, laidLooks := .later }
def BatchSameCardSaid : Prop := Claim7.holds Tryd.pinned (.plain (OpenSpec.ofChange batchSameSpec)) batchSameCard

/-- THE TIED CARD OF 'gaiterlaw12.QuickSame'. -/
def quickSameCard : Claim7 := { stood := { row := quickSameRow, standIns := [], harness := (true, "ce0528c41e70b637b627cb4b8d02fe2398a88345547447b96fbf181180dcf32b"), looks := true }, kinds := [], alts := [], laidByText := true, laidKinds := [.data], laidTests := true, laidLooks := .later }
def QuickSameCardSaid : Prop := Claim7.holds Tryd.pinned (.plain (OpenSpec.ofChange quickSameSpec)) quickSameCard

/-- THE SECOND FORM's CARD OF 'gaiterlaw10.SlowBack'. -/
def slowBackUptoCard : Claim7 := { stood := { row := slowBackUptoRow, standIns := [], harness := (true, "ce0528c41e70b637b627cb4b8d02fe2398a88345547447b96fbf181180dcf32b"), looks := true }, kinds := [], alts := [], laidByText := true, laidKinds := [.data], laidTests := true, laidLooks := .later }
def SlowBackUptoCardSaid : Prop := Claim7.holds Tryd.pinned (.plain (OpenSpec.upto slowBackSpec)) slowBackUptoCard

/-- THE SECOND FORM's CARD OF 'gaiterlaw12.QuickTells'. -/
def quickTellsUptoCard : Claim7 := { stood := { row := quickTellsUptoRow, standIns := [], harness := (true, "ce0528c41e70b637b627cb4b8d02fe2398a88345547447b96fbf181180dcf32b"), looks := true }, kinds := [], alts := [], laidByText := true, laidKinds := [.data], laidTests := true, laidLooks := .later }
def QuickTellsUptoCardSaid : Prop := Claim7.holds Tryd.pinned (.plain (OpenSpec.upto quickTellsSpec)) quickTellsUptoCard

/-- THE SECOND FORM's CARD OF 'gaiterlaw11.BatchSame'. -/
def batchSameUptoCard : Claim7 := { stood := { row := batchSameUptoRow, standIns := [], harness := (true, "ce0528c41e70b637b627cb4b8d02fe2398a88345547447b96fbf181180dcf32b"), looks := true }, kinds := [], alts := [], laidByText := true, laidKinds := [.data], laidTests := true, laidLooks := .later }
def BatchSameUptoCardSaid : Prop := Claim7.holds Tryd.pinned (.plain (OpenSpec.upto batchSameSpec)) batchSameUptoCard

/-- THE SECOND FORM's CARD OF 'gaiterlaw12.QuickSame'. -/
def quickSameUptoCard : Claim7 := { stood := { row := quickSameUptoRow, standIns := [], harness := (true, "ce0528c41e70b637b627cb4b8d02fe2398a88345547447b96fbf181180dcf32b"), looks := true }, kinds := [], alts := [], laidByText := true, laidKinds := [.data], laidTests := true, laidLooks := .later }
def QuickSameUptoCardSaid : Prop := Claim7.holds Tryd.pinned (.plain (OpenSpec.upto quickSameSpec)) quickSameUptoCard
end Rows
end Go.Proofs.YtiahbcaoikoogabDoor
