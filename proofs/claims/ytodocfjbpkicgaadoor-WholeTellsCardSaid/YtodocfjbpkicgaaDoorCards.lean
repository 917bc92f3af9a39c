/-
  DERIVED. GIVEN WITH THE SEED: THE CARDS: each row of YtodocfjbpkicgaaDoorRows.lean that lists a variable, with what it lists TIED to the program's text (the seventh form; the later family's looks); each row that meets fmt, with fmt's text TOLD by the authors' own Lean function (tested against real Go, not proved from fmt's source: count such statements apart). THE CARD IS WHAT COUNTS. Prove the row's statement (the work); the ties are given (YtodocfjbpkicgaaDoorTie.lean); close each card by the builder's one call (the guide's Derived/Test/ToyasCard.lean, 'card_holds'). Laid BY PROGRAM, IN A SANDBOX (cutbox-door.mjs). By AI agents, Wed Nov 11 2026. No macro, syntax, notation, axiom, sorry.
-/
import Derived.Test.YtodocfjbpkicgaaDoorRows
import GoSem.ClaimSeven
namespace Go.Proofs.YtodocfjbpkicgaaDoor
namespace Rows

/-- THE TIED CARD OF 'gaiterlaw11.BatchTells'. -/
def batchTellsCard : Claim7 := { stood := { row := batchTellsRow, standIns := [], harness := (true, "4fe076cf317cf587b7e6ede52fc443ff04a2ea770eb351c562052bf641b9125a"), looks := true }, kinds := [], alts := [], laidByText := true, laidKinds := [.data], laidTests := true, laidLooks := .later }
def BatchTellsCardSaid : Prop := Claim7.holds Tryd.pinned (.plain (OpenSpec.ofChange batchTellsSpec)) batchTellsCard

/-- THE TIED CARD OF 'gaiterlaw11.BatchSame'. -/
def batchSameCard : Claim7 := { stood := { row := batchSameRow, standIns := [], harness := (true, "4fe076cf317cf587b7e6ede52fc443ff04a2ea770eb351c562052bf641b9125a"), looks := true }, kinds := [], alts := [], laidByText := true, laidKinds := [.data], laidTests := true, laidLooks := .later }
def BatchSameCardSaid : Prop := Claim7.holds Tryd.pinned (.plain (OpenSpec.ofChange batchSameSpec)) batchSameCard

/-- THE TIED CARD OF 'gaiterlaw15.PackTells'. -/
def packTellsCard : Claim7 := { stood := { row := packTellsRow, standIns := [], harness := (true, "4fe076cf317cf587b7e6ede52fc443ff04a2ea770eb351c562052bf641b9125a"), looks := true }, kinds := [], alts := [], laidByText := true, laidKinds := [.data], laidTests := true, laidLooks := .later }
def PackTellsCardSaid : Prop := Claim7.holds Tryd.pinned (.plain (OpenSpec.ofChange packTellsSpec)) packTellsCard

/-- THE TIED CARD OF 'gaiterlaw15.PackSizes'. -/
def packSizesCard : Claim7 := { stood := { row := packSizesRow, standIns := [], harness := (true, "4fe076cf317cf587b7e6ede52fc443ff04a2ea770eb351c562052bf641b9125a"), looks := true }, kinds := [], alts := [], laidByText := true, laidKinds := [.data], laidTests := true, laidLooks := .later }
def PackSizesCardSaid : Prop := Claim7.holds Tryd.pinned (.plain (OpenSpec.ofChange packSizesSpec)) packSizesCard

/-- THE TIED CARD OF 'gaiterlaw16.WholeTells'. -/
def wholeTellsCard : Claim7 := { stood := { row := wholeTellsRow, standIns := [], harness := (true, "4fe076cf317cf587b7e6ede52fc443ff04a2ea770eb351c562052bf641b9125a"), looks := true }, kinds := [], alts := [], laidByText := true, laidKinds := [.data], laidTests := true, laidLooks := .later }
def WholeTellsCardSaid : Prop := Claim7.holds Tryd.pinned (.plain (OpenSpec.ofChange wholeTellsSpec)) wholeTellsCard

/-- THE TIED CARD OF 'gaiterlaw16.WholeBack'. -/
def wholeBackCard : Claim7 := { stood := { row := wholeBackRow, standIns := [], harness := (true, "4fe076cf317cf587b7e6ede52fc443ff04a2ea770eb351c562052bf641b9125a"), looks := true }, kinds := [], alts := [], laidByText := true, laidKinds := [.data], laidTests := true, laidLooks := .later }
def WholeBackCardSaid : Prop := Claim7.holds Tryd.pinned (.plain (OpenSpec.ofChange wholeBackSpec)) wholeBackCard

/-- THE TIED CARD OF 'gaiterlaw18.ScanPlays'. -/
def scanPlaysCard : Claim7 := { stood := { row := scanPlaysRow, standIns := [], harness := (true, "4fe076cf317cf587b7e6ede52fc443ff04a2ea770eb351c562052bf641b9125a"), looks := true }, kinds := [], alts := [], laidByText := true, laidKinds := [.data], laidTests := true, laidLooks := .later }
def ScanPlaysCardSaid : Prop := Claim7.holds Tryd.pinned (.plain (OpenSpec.ofChange scanPlaysSpec)) scanPlaysCard

/-- THE TIED CARD OF 'gaiterlaw18.ScanAll'. -/
def scanAllCard : Claim7 := { stood := { row := scanAllRow, standIns := [], harness := (true, "4fe076cf317cf587b7e6ede52fc443ff04a2ea770eb351c562052bf641b9125a"), looks := true }, kinds := [], alts := [], laidByText := true, laidKinds := [.data], laidTests := true, laidLooks := .later }
def ScanAllCardSaid : Prop := Claim7.holds Tryd.pinned (.plain (OpenSpec.ofChange scanAllSpec)) scanAllCard

/-- THE SECOND FORM's CARD OF 'gaiterlaw11.BatchTells'. -/
def batchTellsUptoCard : Claim7 := { stood := { row := batchTellsUptoRow, standIns := [], harness := (true, "4fe076cf317cf587b7e6ede52fc443ff04a2ea770eb351c562052bf641b9125a"), looks := true }, kinds := [], alts := [], laidByText := true, laidKinds := [.data], laidTests := true, laidLooks := .later }
def BatchTellsUptoCardSaid : Prop := Claim7.holds Tryd.pinned (.plain (OpenSpec.upto batchTellsSpec)) batchTellsUptoCard

/-- THE SECOND FORM's CARD OF 'gaiterlaw11.BatchSame'. -/
def batchSameUptoCard : Claim7 := { stood := { row := batchSameUptoRow, standIns := [], harness := (true, "4fe076cf317cf587b7e6ede52fc443ff04a2ea770eb351c562052bf641b9125a"), looks := true }, kinds := [], alts := [], laidByText := true, laidKinds := [.data], laidTests := true, laidLooks := .later }
def BatchSameUptoCardSaid : Prop := Claim7.holds Tryd.pinned (.plain (OpenSpec.upto batchSameSpec)) batchSameUptoCard

/-- THE SECOND FORM's CARD OF 'gaiterlaw15.PackTells'. -/
def packTellsUptoCard : Claim7 := { stood := { row := packTellsUptoRow, standIns := [], harness := (true, "4fe076cf317cf587b7e6ede52fc443ff04a2ea770eb351c562052bf641b9125a"), looks := true }, kinds := [], alts := [], laidByText := true, laidKinds := [.data], laidTests := true, laidLooks := .later }
def PackTellsUptoCardSaid : Prop := Claim7.holds Tryd.pinned (.plain (OpenSpec.upto packTellsSpec)) packTellsUptoCard

/-- THE SECOND FORM's CARD OF 'gaiterlaw15.PackSizes'. -/
def packSizesUptoCard : Claim7 := { stood := { row := packSizesUptoRow, standIns := [], harness := (true, "4fe076cf317cf587b7e6ede52fc443ff04a2ea770eb351c562052bf641b9125a"), looks := true }, kinds := [], alts := [], laidByText := true, laidKinds := [.data], laidTests := true, laidLooks := .later }
def PackSizesUptoCardSaid : Prop := Claim7.holds Tryd.pinned (.plain (OpenSpec.upto packSizesSpec)) packSizesUptoCard

/-- THE SECOND FORM's CARD OF 'gaiterlaw16.WholeTells'. -/
def wholeTellsUptoCard : Claim7 := { stood := { row := wholeTellsUptoRow, standIns := [], harness := (true, "4fe076cf317cf587b7e6ede52fc443ff04a2ea770eb351c562052bf641b9125a"), looks := true }, kinds := [], alts := [], laidByText := true, laidKinds := [.data], laidTests := true, laidLooks := .later }
def WholeTellsUptoCardSaid : Prop := Claim7.holds Tryd.pinned (.plain (OpenSpec.upto wholeTellsSpec)) wholeTellsUptoCard

/-- THE SECOND FORM's CARD OF 'gaiterlaw16.WholeBack'. -/
def wholeBackUptoCard : Claim7 := { stood := { row := wholeBackUptoRow, standIns := [], harness := (true, "4fe076cf317cf587b7e6ede52fc443ff04a2ea770eb351c562052bf641b9125a"), looks := true }, kinds := [], alts := [], laidByText := true, laidKinds := [.data], laidTests := true, laidLooks := .later }
def WholeBackUptoCardSaid : Prop := Claim7.holds Tryd.pinned (.plain (OpenSpec.upto wholeBackSpec)) wholeBackUptoCard

/-- THE SECOND FORM's CARD OF 'gaiterlaw18.ScanPlays'. -/
def scanPlaysUptoCard : Claim7 := { stood := { row := scanPlaysUptoRow, standIns := [], harness := (true, "4fe076cf317cf587b7e6ede52fc443ff04a2ea770eb351c562052bf641b9125a"), looks := true }, kinds := [], alts := [], laidByText := true, laidKinds := [.data], laidTests := true, laidLooks := .later }
def ScanPlaysUptoCardSaid : Prop := Claim7.holds Tryd.pinned (.plain (OpenSpec.upto scanPlaysSpec)) scanPlaysUptoCard

/-- THE SECOND FORM's CARD OF 'gaiterlaw18.ScanAll'. -/
def scanAllUptoCard : Claim7 := { stood := { row := scanAllUptoRow, standIns := [], harness := (true, "4fe076cf317cf587b7e6ede52fc443ff04a2ea770eb351c562052bf641b9125a"), looks := true }, kinds := [], alts := [], laidByText := true, laidKinds := [.data], laidTests := true, laidLooks := .later }
def ScanAllUptoCardSaid : Prop := Claim7.holds Tryd.pinned (.plain (OpenSpec.upto scanAllSpec)) scanAllUptoCard
end Rows
end Go.Proofs.YtodocfjbpkicgaaDoor
