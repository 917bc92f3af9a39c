/-
  DERIVED. GIVEN WITH THE SEED: THE CARDS: each row of YtiahbcaoikoogaaDoorRows.lean that lists a variable, with what it lists TIED to the program's text (the seventh form; the later family's looks); each row that meets fmt, with fmt's text TOLD by the authors' own Lean function (tested against real Go, not proved from fmt's source: count such statements apart). THE CARD IS WHAT COUNTS. Prove the row's statement (the work); the ties are given (YtiahbcaoikoogaaDoorTie.lean); close each card by the builder's one call (the guide's Derived/Test/ToyasCard.lean, 'card_holds'). Laid BY PROGRAM, IN A SANDBOX (cutbox-door.mjs). By AI agents, Wed Nov 11 2026. No macro, syntax, notation, axiom, sorry.
-/
import Derived.Test.YtiahbcaoikoogaaDoorRows
import GoSem.ClaimSeven
namespace Go.Proofs.YtiahbcaoikoogaaDoor
namespace Rows

/-- THE TIED CARD OF 'gaiterlaw07.XorTells'. -/
def xorTellsCard : Claim7 := { stood := { row := xorTellsRow, standIns := [], harness := (true, "3c400eb4357e7be91ed5f8ac2ca5e7b92b7ba43be33c7acc7a7894a3470e570a"), looks := true }, kinds := [], alts := [], laidByText := true, laidKinds := [.data], laidTests := true, laidLooks := .later }
def XorTellsCardSaid : Prop := Claim7.holds Tryd.pinned (.plain (OpenSpec.ofChange xorTellsSpec)) xorTellsCard

/-- THE TIED CARD OF 'gaiterlaw07.XorBack'. -/
def xorBackCard : Claim7 := { stood := { row := xorBackRow, standIns := [], harness := (true, "3c400eb4357e7be91ed5f8ac2ca5e7b92b7ba43be33c7acc7a7894a3470e570a"), looks := true }, kinds := [], alts := [], laidByText := true, laidKinds := [.data], laidTests := true, laidLooks := .later }
def XorBackCardSaid : Prop := Claim7.holds Tryd.pinned (.plain (OpenSpec.ofChange xorBackSpec)) xorBackCard

/-- THE TIED CARD OF 'gaiterlaw08.KindsTells'. -/
def kindsTellsCard : Claim7 := { stood := { row := kindsTellsRow, standIns := [], harness := (true, "3c400eb4357e7be91ed5f8ac2ca5e7b92b7ba43be33c7acc7a7894a3470e570a"), looks := true }, kinds := [], alts := [], laidByText := true, laidKinds := [.data], laidTests := true, laidLooks := .later }
def KindsTellsCardSaid : Prop := Claim7.holds Tryd.pinned (.plain (OpenSpec.ofChange kindsTellsSpec)) kindsTellsCard

/-- THE TIED CARD OF 'gaiterlaw08.KindsBack'. -/
def kindsBackCard : Claim7 := { stood := { row := kindsBackRow, standIns := [], harness := (true, "3c400eb4357e7be91ed5f8ac2ca5e7b92b7ba43be33c7acc7a7894a3470e570a"), looks := true }, kinds := [], alts := [], laidByText := true, laidKinds := [.data], laidTests := true, laidLooks := .later }
def KindsBackCardSaid : Prop := Claim7.holds Tryd.pinned (.plain (OpenSpec.ofChange kindsBackSpec)) kindsBackCard

/-- THE TIED CARD OF 'gaiterlaw11.BatchTells'. -/
def batchTellsCard : Claim7 := { stood := { row := batchTellsRow, standIns := [], harness := (true, "3c400eb4357e7be91ed5f8ac2ca5e7b92b7ba43be33c7acc7a7894a3470e570a"), looks := true }, kinds := [], alts := [], laidByText := true, laidKinds := [.data], laidTests := true, laidLooks := .later }
def BatchTellsCardSaid : Prop := Claim7.holds Tryd.pinned (.plain (OpenSpec.ofChange batchTellsSpec)) batchTellsCard

/-- THE TIED CARD OF 'gaiterlaw09.ChunkTells'. -/
def chunkTellsCard : Claim7 := { stood := { row := chunkTellsRow, standIns := [], harness := (true, "3c400eb4357e7be91ed5f8ac2ca5e7b92b7ba43be33c7acc7a7894a3470e570a"), looks := true }, kinds := [], alts := [], laidByText := true, laidKinds := [.data], laidTests := true, laidLooks := .later }
def ChunkTellsCardSaid : Prop := Claim7.holds Tryd.pinned (.plain (OpenSpec.ofChange chunkTellsSpec)) chunkTellsCard

/-- THE TIED CARD OF 'gaiterlaw09.ChunkApart'. -/
def chunkApartCard : Claim7 := { stood := { row := chunkApartRow, standIns := [], harness := (true, "3c400eb4357e7be91ed5f8ac2ca5e7b92b7ba43be33c7acc7a7894a3470e570a"), looks := true }, kinds := [], alts := [], laidByText := true, laidKinds := [.data], laidTests := true, laidLooks := .later }
def ChunkApartCardSaid : Prop := Claim7.holds Tryd.pinned (.plain (OpenSpec.ofChange chunkApartSpec)) chunkApartCard

/-- THE TIED CARD OF 'gaiterlaw10.SlowTells'. -/
def slowTellsCard : Claim7 := { stood := { row := slowTellsRow, standIns := [], harness := (true, "3c400eb4357e7be91ed5f8ac2ca5e7b92b7ba43be33c7acc7a7894a3470e570a"), looks := true }, kinds := [], alts := [], laidByText := true, laidKinds := [.data], laidTests := true, laidLooks := .later }
def SlowTellsCardSaid : Prop := Claim7.holds Tryd.pinned (.plain (OpenSpec.ofChange slowTellsSpec)) slowTellsCard

/-- THE SECOND FORM's CARD OF 'gaiterlaw07.XorTells'. -/
def xorTellsUptoCard : Claim7 := { stood := { row := xorTellsUptoRow, standIns := [], harness := (true, "3c400eb4357e7be91ed5f8ac2ca5e7b92b7ba43be33c7acc7a7894a3470e570a"), looks := true }, kinds := [], alts := [], laidByText := true, laidKinds := [.data], laidTests := true, laidLooks := .later }
def XorTellsUptoCardSaid : Prop := Claim7.holds Tryd.pinned (.plain (OpenSpec.upto xorTellsSpec)) xorTellsUptoCard

/-- THE SECOND FORM's CARD OF 'gaiterlaw07.XorBack'. -/
def xorBackUptoCard : Claim7 := { stood := { row := xorBackUptoRow, standIns := [], harness := (true, "3c400eb4357e7be91ed5f8ac2ca5e7b92b7ba43be33c7acc7a7894a3470e570a"), looks := true }, kinds := [], alts := [], laidByText := true, laidKinds := [.data], laidTests := true, laidLooks := .later }
def XorBackUptoCardSaid : Prop := Claim7.holds Tryd.pinned (.plain (OpenSpec.upto xorBackSpec)) xorBackUptoCard

/-- THE SECOND FORM's CARD OF 'gaiterlaw08.KindsTells'. -/
def kindsTellsUptoCard : Claim7 := { stood := { row := kindsTellsUptoRow, standIns := [], harness := (true, "3c400eb4357e7be91ed5f8ac2ca5e7b92b7ba43be33c7acc7a7894a3470e570a"), looks := true }, kinds := [], alts := [], laidByText := true, laidKinds := [.data], laidTests := true, laidLooks := .later }
def KindsTellsUptoCardSaid : Prop := Claim7.holds Tryd.pinned (.plain (OpenSpec.upto kindsTellsSpec)) kindsTellsUptoCard

/-- THE SECOND FORM's CARD OF 'gaiterlaw08.KindsBack'. -/
def kindsBackUptoCard : Claim7 := { stood := { row := kindsBackUptoRow, standIns := [], harness := (true, "3c400eb4357e7be91ed5f8ac2ca5e7b92b7ba43be33c7acc7a7894a3470e570a"), looks := true }, kinds := [], alts := [], laidByText := true, laidKinds := [.data], laidTests := true, laidLooks := .later }
def KindsBackUptoCardSaid : Prop := Claim7.holds Tryd.pinned (.plain (OpenSpec.upto kindsBackSpec)) kindsBackUptoCard

/-- THE SECOND FORM's CARD OF 'gaiterlaw11.BatchTells'. -/
def batchTellsUptoCard : Claim7 := { stood := { row := batchTellsUptoRow, standIns := [], harness := (true, "3c400eb4357e7be91ed5f8ac2ca5e7b92b7ba43be33c7acc7a7894a3470e570a"), looks := true }, kinds := [], alts := [], laidByText := true, laidKinds := [.data], laidTests := true, laidLooks := .later }
def BatchTellsUptoCardSaid : Prop := Claim7.holds Tryd.pinned (.plain (OpenSpec.upto batchTellsSpec)) batchTellsUptoCard

/-- THE SECOND FORM's CARD OF 'gaiterlaw09.ChunkTells'. -/
def chunkTellsUptoCard : Claim7 := { stood := { row := chunkTellsUptoRow, standIns := [], harness := (true, "3c400eb4357e7be91ed5f8ac2ca5e7b92b7ba43be33c7acc7a7894a3470e570a"), looks := true }, kinds := [], alts := [], laidByText := true, laidKinds := [.data], laidTests := true, laidLooks := .later }
def ChunkTellsUptoCardSaid : Prop := Claim7.holds Tryd.pinned (.plain (OpenSpec.upto chunkTellsSpec)) chunkTellsUptoCard

/-- THE SECOND FORM's CARD OF 'gaiterlaw09.ChunkApart'. -/
def chunkApartUptoCard : Claim7 := { stood := { row := chunkApartUptoRow, standIns := [], harness := (true, "3c400eb4357e7be91ed5f8ac2ca5e7b92b7ba43be33c7acc7a7894a3470e570a"), looks := true }, kinds := [], alts := [], laidByText := true, laidKinds := [.data], laidTests := true, laidLooks := .later }
def ChunkApartUptoCardSaid : Prop := Claim7.holds Tryd.pinned (.plain (OpenSpec.upto chunkApartSpec)) chunkApartUptoCard

/-- THE SECOND FORM's CARD OF 'gaiterlaw10.SlowTells'. -/
def slowTellsUptoCard : Claim7 := { stood := { row := slowTellsUptoRow, standIns := [], harness := (true, "3c400eb4357e7be91ed5f8ac2ca5e7b92b7ba43be33c7acc7a7894a3470e570a"), looks := true }, kinds := [], alts := [], laidByText := true, laidKinds := [.data], laidTests := true, laidLooks := .later }
def SlowTellsUptoCardSaid : Prop := Claim7.holds Tryd.pinned (.plain (OpenSpec.upto slowTellsSpec)) slowTellsUptoCard
end Rows
end Go.Proofs.YtiahbcaoikoogaaDoor
