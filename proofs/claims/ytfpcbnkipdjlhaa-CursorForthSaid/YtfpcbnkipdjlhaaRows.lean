/-
  No cell of these rows narrows 'for every input' (looked for: loops, veiled, ifaces, maps, wideKeys, modest, calm, conditions, laid).
  DERIVED. THE GIVEN ROWS OF THIS SEAT. 12 by the template 'for every input the law returns true; each argument reads behind the call as it read before'; 0 by the template 'total and deterministic' (their statements: YtfpcbnkipdjlhaaTotals.lean).
  GIVEN WITH THE SEED: the statements are not yours to turn. If you find one false, say at which input.
  Laid BY PROGRAM, IN A SANDBOX (cutbox-rows.mjs): the forced cells as the released guide's own fill.sh prints them over the translation 77318a98abf08715… (all of the seat's roots in one cut). By AI agents, Wed Nov 11 2026. No macro, syntax, notation, axiom, sorry.
-/
import Derived.Test.YtfpcbnkipdjlhaaChecked
import GoSem.Claim
import GoSem.ClaimJoined
import GoSem.ClaimMapViews
import Derived.JoinedTies
import Derived.KernelRfl
namespace Go.Proofs.Ytfpcbnkipdjlhaa
/- THE CELL 'sum', in the pinned program and in every row, IS THE sha256 OF THE DUMP (.gsa) THAT YtfpcbnkipdjlhaaProg.lean LOADS. Nothing in Lean hashes anything: it is a label: what it is worth is what the hold of that sum in a sandbox is worth. -/
noncomputable def Try.pinned : Pinned := { name := "ytfpcbnkipdjlhaa", sum := "77318a98abf0871540e2d761dc3d6fcbcd15d3eb74af65ee15fb61eb98a1fc3d", checked := Try.checked }
namespace Rows
def none {H : Type} : Left H := { results := [], args := [] }

/-- 'gaiterlaw04.ZigTells': WHATEVER THE INPUT: true; the input reads as it did. -/
def zigTellsSpec : ChangeSpec := { name := "zigTells", fn := fun _ => fun
  | [d1, d2] => { results := [.lit (.bool true)], args := [d1, d2] }
  | _ => none }
def zigTellsRow : OpenClaim := { program := "ytfpcbnkipdjlhaa", sum := "77318a98abf0871540e2d761dc3d6fcbcd15d3eb74af65ee15fb61eb98a1fc3d", func := "gaiter/gaiterlaw04.ZigTells", spec := "zigTells", apart := false }
def ZigTellsSaid : Prop := zigTellsRow.holds Try.pinned (OpenSpec.ofChange zigTellsSpec)

/-- ITS FALSE NEIGHBOUR: 'it returns false'. Refute it at one input. -/
def zigTellsWrong : ChangeSpec := { name := "zigTells", fn := fun _ => fun
  | [d1, d2] => { results := [.lit (.bool false)], args := [d1, d2] }
  | _ => none }
def ZigTellsWrongFalsely : Prop := zigTellsRow.holds Try.pinned (OpenSpec.ofChange zigTellsWrong)

/-- 'gaiterlaw04.ZigBack': WHATEVER THE INPUT: true; the input reads as it did. -/
def zigBackSpec : ChangeSpec := { name := "zigBack", fn := fun _ => fun
  | [d1, d2] => { results := [.lit (.bool true)], args := [d1, d2] }
  | _ => none }
def zigBackRow : OpenClaim := { program := "ytfpcbnkipdjlhaa", sum := "77318a98abf0871540e2d761dc3d6fcbcd15d3eb74af65ee15fb61eb98a1fc3d", func := "gaiter/gaiterlaw04.ZigBack", spec := "zigBack", apart := false }
def ZigBackSaid : Prop := zigBackRow.holds Try.pinned (OpenSpec.ofChange zigBackSpec)

/-- ITS FALSE NEIGHBOUR: 'it returns false'. Refute it at one input. -/
def zigBackWrong : ChangeSpec := { name := "zigBack", fn := fun _ => fun
  | [d1, d2] => { results := [.lit (.bool false)], args := [d1, d2] }
  | _ => none }
def ZigBackWrongFalsely : Prop := zigBackRow.holds Try.pinned (OpenSpec.ofChange zigBackWrong)

/-- 'gaiterlaw13.CrcTells': WHATEVER THE INPUT: true; the input reads as it did. -/
def crcTellsSpec : ChangeSpec := { name := "crcTells", fn := fun _ => fun
  | [d] => { results := [.lit (.bool true)], args := [d] }
  | _ => none }
def crcTellsRow : OpenClaim := { program := "ytfpcbnkipdjlhaa", sum := "77318a98abf0871540e2d761dc3d6fcbcd15d3eb74af65ee15fb61eb98a1fc3d", func := "gaiter/gaiterlaw13.CrcTells", spec := "crcTells", apart := false }
def CrcTellsSaid : Prop := crcTellsRow.holds Try.pinned (OpenSpec.ofChange crcTellsSpec)

/-- ITS FALSE NEIGHBOUR: 'it returns false'. Refute it at one input. -/
def crcTellsWrong : ChangeSpec := { name := "crcTells", fn := fun _ => fun
  | [d] => { results := [.lit (.bool false)], args := [d] }
  | _ => none }
def CrcTellsWrongFalsely : Prop := crcTellsRow.holds Try.pinned (OpenSpec.ofChange crcTellsWrong)

/-- 'gaiterlaw13.CrcTurned': WHATEVER THE INPUT: true; the input reads as it did. -/
def crcTurnedSpec : ChangeSpec := { name := "crcTurned", fn := fun _ => fun
  | [d1, d2, d3, d4] => { results := [.lit (.bool true)], args := [d1, d2, d3, d4] }
  | _ => none }
def crcTurnedRow : OpenClaim := { program := "ytfpcbnkipdjlhaa", sum := "77318a98abf0871540e2d761dc3d6fcbcd15d3eb74af65ee15fb61eb98a1fc3d", func := "gaiter/gaiterlaw13.CrcTurned", spec := "crcTurned", apart := false }
def CrcTurnedSaid : Prop := crcTurnedRow.holds Try.pinned (OpenSpec.ofChange crcTurnedSpec)

/-- ITS FALSE NEIGHBOUR: 'it returns false'. Refute it at one input. -/
def crcTurnedWrong : ChangeSpec := { name := "crcTurned", fn := fun _ => fun
  | [d1, d2, d3, d4] => { results := [.lit (.bool false)], args := [d1, d2, d3, d4] }
  | _ => none }
def CrcTurnedWrongFalsely : Prop := crcTurnedRow.holds Try.pinned (OpenSpec.ofChange crcTurnedWrong)

/-- 'gaiterlaw03.UvarTells': WHATEVER THE INPUT: true; the input reads as it did. -/
def uvarTellsSpec : ChangeSpec := { name := "uvarTells", fn := fun _ => fun
  | [d1, d2, d3] => { results := [.lit (.bool true)], args := [d1, d2, d3] }
  | _ => none }
def uvarTellsRow : OpenClaim := { program := "ytfpcbnkipdjlhaa", sum := "77318a98abf0871540e2d761dc3d6fcbcd15d3eb74af65ee15fb61eb98a1fc3d", func := "gaiter/gaiterlaw03.UvarTells", spec := "uvarTells", apart := false }
def UvarTellsSaid : Prop := uvarTellsRow.holds Try.pinned (OpenSpec.ofChange uvarTellsSpec)

/-- ITS FALSE NEIGHBOUR: 'it returns false'. Refute it at one input. -/
def uvarTellsWrong : ChangeSpec := { name := "uvarTells", fn := fun _ => fun
  | [d1, d2, d3] => { results := [.lit (.bool false)], args := [d1, d2, d3] }
  | _ => none }
def UvarTellsWrongFalsely : Prop := uvarTellsRow.holds Try.pinned (OpenSpec.ofChange uvarTellsWrong)

/-- 'gaiterlaw03.UvarBack': WHATEVER THE INPUT: true; the input reads as it did. -/
def uvarBackSpec : ChangeSpec := { name := "uvarBack", fn := fun _ => fun
  | [d1, d2, d3, d4] => { results := [.lit (.bool true)], args := [d1, d2, d3, d4] }
  | _ => none }
def uvarBackRow : OpenClaim := { program := "ytfpcbnkipdjlhaa", sum := "77318a98abf0871540e2d761dc3d6fcbcd15d3eb74af65ee15fb61eb98a1fc3d", func := "gaiter/gaiterlaw03.UvarBack", spec := "uvarBack", apart := false }
def UvarBackSaid : Prop := uvarBackRow.holds Try.pinned (OpenSpec.ofChange uvarBackSpec)

/-- ITS FALSE NEIGHBOUR: 'it returns false'. Refute it at one input. -/
def uvarBackWrong : ChangeSpec := { name := "uvarBack", fn := fun _ => fun
  | [d1, d2, d3, d4] => { results := [.lit (.bool false)], args := [d1, d2, d3, d4] }
  | _ => none }
def UvarBackWrongFalsely : Prop := uvarBackRow.holds Try.pinned (OpenSpec.ofChange uvarBackWrong)

/-- 'gaiterlaw17.CursorPlays': WHATEVER THE INPUT: true; the input reads as it did. -/
def cursorPlaysSpec : ChangeSpec := { name := "cursorPlays", fn := fun _ => fun
  | [d1, d2, d3] => { results := [.lit (.bool true)], args := [d1, d2, d3] }
  | _ => none }
def cursorPlaysRow : OpenClaim := { program := "ytfpcbnkipdjlhaa", sum := "77318a98abf0871540e2d761dc3d6fcbcd15d3eb74af65ee15fb61eb98a1fc3d", func := "gaiter/gaiterlaw17.CursorPlays", spec := "cursorPlays", apart := false }
def CursorPlaysSaid : Prop := cursorPlaysRow.holds Try.pinned (OpenSpec.ofChange cursorPlaysSpec)

/-- ITS FALSE NEIGHBOUR: 'it returns false'. Refute it at one input. -/
def cursorPlaysWrong : ChangeSpec := { name := "cursorPlays", fn := fun _ => fun
  | [d1, d2, d3] => { results := [.lit (.bool false)], args := [d1, d2, d3] }
  | _ => none }
def CursorPlaysWrongFalsely : Prop := cursorPlaysRow.holds Try.pinned (OpenSpec.ofChange cursorPlaysWrong)

/-- 'gaiterlaw17.CursorForth': WHATEVER THE INPUT: true; the input reads as it did. -/
def cursorForthSpec : ChangeSpec := { name := "cursorForth", fn := fun _ => fun
  | [d1, d2] => { results := [.lit (.bool true)], args := [d1, d2] }
  | _ => none }
def cursorForthRow : OpenClaim := { program := "ytfpcbnkipdjlhaa", sum := "77318a98abf0871540e2d761dc3d6fcbcd15d3eb74af65ee15fb61eb98a1fc3d", func := "gaiter/gaiterlaw17.CursorForth", spec := "cursorForth", apart := false }
def CursorForthSaid : Prop := cursorForthRow.holds Try.pinned (OpenSpec.ofChange cursorForthSpec)

/-- ITS FALSE NEIGHBOUR: 'it returns false'. Refute it at one input. -/
def cursorForthWrong : ChangeSpec := { name := "cursorForth", fn := fun _ => fun
  | [d1, d2] => { results := [.lit (.bool false)], args := [d1, d2] }
  | _ => none }
def CursorForthWrongFalsely : Prop := cursorForthRow.holds Try.pinned (OpenSpec.ofChange cursorForthWrong)

/-- 'gaiterlaw02.FillPlays': WHATEVER THE INPUT: true; the input reads as it did. -/
def fillPlaysSpec : ChangeSpec := { name := "fillPlays", fn := fun _ => fun
  | [d1, d2] => { results := [.lit (.bool true)], args := [d1, d2] }
  | _ => none }
def fillPlaysRow : OpenClaim := { program := "ytfpcbnkipdjlhaa", sum := "77318a98abf0871540e2d761dc3d6fcbcd15d3eb74af65ee15fb61eb98a1fc3d", func := "gaiter/gaiterlaw02.FillPlays", spec := "fillPlays", apart := false }
def FillPlaysSaid : Prop := fillPlaysRow.holds Try.pinned (OpenSpec.ofChange fillPlaysSpec)

/-- ITS FALSE NEIGHBOUR: 'it returns false'. Refute it at one input. -/
def fillPlaysWrong : ChangeSpec := { name := "fillPlays", fn := fun _ => fun
  | [d1, d2] => { results := [.lit (.bool false)], args := [d1, d2] }
  | _ => none }
def FillPlaysWrongFalsely : Prop := fillPlaysRow.holds Try.pinned (OpenSpec.ofChange fillPlaysWrong)

/-- 'gaiterlaw02.FillBits': WHATEVER THE INPUT: true; the input reads as it did. -/
def fillBitsSpec : ChangeSpec := { name := "fillBits", fn := fun _ => fun
  | [d1, d2] => { results := [.lit (.bool true)], args := [d1, d2] }
  | _ => none }
def fillBitsRow : OpenClaim := { program := "ytfpcbnkipdjlhaa", sum := "77318a98abf0871540e2d761dc3d6fcbcd15d3eb74af65ee15fb61eb98a1fc3d", func := "gaiter/gaiterlaw02.FillBits", spec := "fillBits", apart := false }
def FillBitsSaid : Prop := fillBitsRow.holds Try.pinned (OpenSpec.ofChange fillBitsSpec)

/-- ITS FALSE NEIGHBOUR: 'it returns false'. Refute it at one input. -/
def fillBitsWrong : ChangeSpec := { name := "fillBits", fn := fun _ => fun
  | [d1, d2] => { results := [.lit (.bool false)], args := [d1, d2] }
  | _ => none }
def FillBitsWrongFalsely : Prop := fillBitsRow.holds Try.pinned (OpenSpec.ofChange fillBitsWrong)

/-- 'gaiterlaw01.BitsTells': WHATEVER THE INPUT: true; the input reads as it did. -/
def bitsTellsSpec : ChangeSpec := { name := "bitsTells", fn := fun _ => fun
  | [d1, d2, d3, d4, d5, d6] => { results := [.lit (.bool true)], args := [d1, d2, d3, d4, d5, d6] }
  | _ => none }
def bitsTellsRow : OpenClaim := { program := "ytfpcbnkipdjlhaa", sum := "77318a98abf0871540e2d761dc3d6fcbcd15d3eb74af65ee15fb61eb98a1fc3d", func := "gaiter/gaiterlaw01.BitsTells", spec := "bitsTells", apart := false }
def BitsTellsSaid : Prop := bitsTellsRow.holds Try.pinned (OpenSpec.ofChange bitsTellsSpec)

/-- ITS FALSE NEIGHBOUR: 'it returns false'. Refute it at one input. -/
def bitsTellsWrong : ChangeSpec := { name := "bitsTells", fn := fun _ => fun
  | [d1, d2, d3, d4, d5, d6] => { results := [.lit (.bool false)], args := [d1, d2, d3, d4, d5, d6] }
  | _ => none }
def BitsTellsWrongFalsely : Prop := bitsTellsRow.holds Try.pinned (OpenSpec.ofChange bitsTellsWrong)

/-- 'gaiterlaw01.BitsBack': WHATEVER THE INPUT: true; the input reads as it did. -/
def bitsBackSpec : ChangeSpec := { name := "bitsBack", fn := fun _ => fun
  | [d1, d2, d3, d4] => { results := [.lit (.bool true)], args := [d1, d2, d3, d4] }
  | _ => none }
def bitsBackRow : OpenClaim := { program := "ytfpcbnkipdjlhaa", sum := "77318a98abf0871540e2d761dc3d6fcbcd15d3eb74af65ee15fb61eb98a1fc3d", func := "gaiter/gaiterlaw01.BitsBack", spec := "bitsBack", apart := false }
def BitsBackSaid : Prop := bitsBackRow.holds Try.pinned (OpenSpec.ofChange bitsBackSpec)

/-- ITS FALSE NEIGHBOUR: 'it returns false'. Refute it at one input. -/
def bitsBackWrong : ChangeSpec := { name := "bitsBack", fn := fun _ => fun
  | [d1, d2, d3, d4] => { results := [.lit (.bool false)], args := [d1, d2, d3, d4] }
  | _ => none }
def BitsBackWrongFalsely : Prop := bitsBackRow.holds Try.pinned (OpenSpec.ofChange bitsBackWrong)

/- THE SECOND FORM. 'bulk': how many values and letters a reading holds, each counted each time it is reached (what is shared counts as often as it is met; a slice's spare places count too). A statement '..UptoSaid' is the law's where the arguments, and the package variables that the reading takes, are together of bulk at most 1048576: NARROWER than '..Said'. Prove '..Said' where nothing that the law and all that it calls make is longer than what came in: it says more and counts as full. Else prove '..UptoSaid'. A law counts once. -/
mutual
def uptoBulk {H : Type} : DataW H → Nat
  | .lit (.string bytes) => bytes.length + 1
  | .lit _ => 1
  | .nil => 1
  | .ptr d => uptoBulk d + 1
  | .slice elems spare => uptoBulkAll elems + uptoBulkAll spare + 1
  | .agg parts => uptoBulkAll parts + 1
  | .iface _ d => uptoBulk d + 1
  | .map entries => uptoBulkEntries entries + 1
  | .held _ => 1
def uptoBulkAll {H : Type} : List (DataW H) → Nat
  | [] => 0
  | d :: r => uptoBulk d + uptoBulkAll r
def uptoBulkEntries {H : Type} : List (Lit × DataW H) → Nat
  | [] => 0
  | x :: r => uptoBulkEntry x + uptoBulkEntries r
def uptoBulkEntry {H : Type} : Lit × DataW H → Nat
  | (.string bytes, d) => bytes.length + uptoBulk d + 1
  | (_, d) => uptoBulk d + 1
 end
def uptoSmall : (H : Type) → List (DataW H) → Bool := fun _ ds => decide (uptoBulkAll ds ≤ 1048576)
def OpenSpec.upto (s : _root_.Go.ChangeSpec) : _root_.Go.OpenSpec := { _root_.Go.OpenSpec.ofChange s with cond := some uptoSmall }

/-- 'gaiterlaw04.ZigTells', WHERE WHAT IT READS IS OF BULK AT MOST 1048576: true; the input reads as it did. -/
def zigTellsUptoRow : OpenClaim := { program := "ytfpcbnkipdjlhaa", sum := "77318a98abf0871540e2d761dc3d6fcbcd15d3eb74af65ee15fb61eb98a1fc3d", func := "gaiter/gaiterlaw04.ZigTells", spec := "zigTells", apart := false, narrowed := true }
def ZigTellsUptoSaid : Prop := zigTellsUptoRow.holds Try.pinned (OpenSpec.upto zigTellsSpec)

/-- 'gaiterlaw04.ZigBack', WHERE WHAT IT READS IS OF BULK AT MOST 1048576: true; the input reads as it did. -/
def zigBackUptoRow : OpenClaim := { program := "ytfpcbnkipdjlhaa", sum := "77318a98abf0871540e2d761dc3d6fcbcd15d3eb74af65ee15fb61eb98a1fc3d", func := "gaiter/gaiterlaw04.ZigBack", spec := "zigBack", apart := false, narrowed := true }
def ZigBackUptoSaid : Prop := zigBackUptoRow.holds Try.pinned (OpenSpec.upto zigBackSpec)

/-- 'gaiterlaw13.CrcTells', WHERE WHAT IT READS IS OF BULK AT MOST 1048576: true; the input reads as it did. -/
def crcTellsUptoRow : OpenClaim := { program := "ytfpcbnkipdjlhaa", sum := "77318a98abf0871540e2d761dc3d6fcbcd15d3eb74af65ee15fb61eb98a1fc3d", func := "gaiter/gaiterlaw13.CrcTells", spec := "crcTells", apart := false, narrowed := true }
def CrcTellsUptoSaid : Prop := crcTellsUptoRow.holds Try.pinned (OpenSpec.upto crcTellsSpec)

/-- 'gaiterlaw13.CrcTurned', WHERE WHAT IT READS IS OF BULK AT MOST 1048576: true; the input reads as it did. -/
def crcTurnedUptoRow : OpenClaim := { program := "ytfpcbnkipdjlhaa", sum := "77318a98abf0871540e2d761dc3d6fcbcd15d3eb74af65ee15fb61eb98a1fc3d", func := "gaiter/gaiterlaw13.CrcTurned", spec := "crcTurned", apart := false, narrowed := true }
def CrcTurnedUptoSaid : Prop := crcTurnedUptoRow.holds Try.pinned (OpenSpec.upto crcTurnedSpec)

/-- 'gaiterlaw03.UvarTells', WHERE WHAT IT READS IS OF BULK AT MOST 1048576: true; the input reads as it did. -/
def uvarTellsUptoRow : OpenClaim := { program := "ytfpcbnkipdjlhaa", sum := "77318a98abf0871540e2d761dc3d6fcbcd15d3eb74af65ee15fb61eb98a1fc3d", func := "gaiter/gaiterlaw03.UvarTells", spec := "uvarTells", apart := false, narrowed := true }
def UvarTellsUptoSaid : Prop := uvarTellsUptoRow.holds Try.pinned (OpenSpec.upto uvarTellsSpec)

/-- 'gaiterlaw03.UvarBack', WHERE WHAT IT READS IS OF BULK AT MOST 1048576: true; the input reads as it did. -/
def uvarBackUptoRow : OpenClaim := { program := "ytfpcbnkipdjlhaa", sum := "77318a98abf0871540e2d761dc3d6fcbcd15d3eb74af65ee15fb61eb98a1fc3d", func := "gaiter/gaiterlaw03.UvarBack", spec := "uvarBack", apart := false, narrowed := true }
def UvarBackUptoSaid : Prop := uvarBackUptoRow.holds Try.pinned (OpenSpec.upto uvarBackSpec)

/-- 'gaiterlaw17.CursorPlays', WHERE WHAT IT READS IS OF BULK AT MOST 1048576: true; the input reads as it did. -/
def cursorPlaysUptoRow : OpenClaim := { program := "ytfpcbnkipdjlhaa", sum := "77318a98abf0871540e2d761dc3d6fcbcd15d3eb74af65ee15fb61eb98a1fc3d", func := "gaiter/gaiterlaw17.CursorPlays", spec := "cursorPlays", apart := false, narrowed := true }
def CursorPlaysUptoSaid : Prop := cursorPlaysUptoRow.holds Try.pinned (OpenSpec.upto cursorPlaysSpec)

/-- 'gaiterlaw17.CursorForth', WHERE WHAT IT READS IS OF BULK AT MOST 1048576: true; the input reads as it did. -/
def cursorForthUptoRow : OpenClaim := { program := "ytfpcbnkipdjlhaa", sum := "77318a98abf0871540e2d761dc3d6fcbcd15d3eb74af65ee15fb61eb98a1fc3d", func := "gaiter/gaiterlaw17.CursorForth", spec := "cursorForth", apart := false, narrowed := true }
def CursorForthUptoSaid : Prop := cursorForthUptoRow.holds Try.pinned (OpenSpec.upto cursorForthSpec)

/-- 'gaiterlaw02.FillPlays', WHERE WHAT IT READS IS OF BULK AT MOST 1048576: true; the input reads as it did. -/
def fillPlaysUptoRow : OpenClaim := { program := "ytfpcbnkipdjlhaa", sum := "77318a98abf0871540e2d761dc3d6fcbcd15d3eb74af65ee15fb61eb98a1fc3d", func := "gaiter/gaiterlaw02.FillPlays", spec := "fillPlays", apart := false, narrowed := true }
def FillPlaysUptoSaid : Prop := fillPlaysUptoRow.holds Try.pinned (OpenSpec.upto fillPlaysSpec)

/-- 'gaiterlaw02.FillBits', WHERE WHAT IT READS IS OF BULK AT MOST 1048576: true; the input reads as it did. -/
def fillBitsUptoRow : OpenClaim := { program := "ytfpcbnkipdjlhaa", sum := "77318a98abf0871540e2d761dc3d6fcbcd15d3eb74af65ee15fb61eb98a1fc3d", func := "gaiter/gaiterlaw02.FillBits", spec := "fillBits", apart := false, narrowed := true }
def FillBitsUptoSaid : Prop := fillBitsUptoRow.holds Try.pinned (OpenSpec.upto fillBitsSpec)

/-- 'gaiterlaw01.BitsTells', WHERE WHAT IT READS IS OF BULK AT MOST 1048576: true; the input reads as it did. -/
def bitsTellsUptoRow : OpenClaim := { program := "ytfpcbnkipdjlhaa", sum := "77318a98abf0871540e2d761dc3d6fcbcd15d3eb74af65ee15fb61eb98a1fc3d", func := "gaiter/gaiterlaw01.BitsTells", spec := "bitsTells", apart := false, narrowed := true }
def BitsTellsUptoSaid : Prop := bitsTellsUptoRow.holds Try.pinned (OpenSpec.upto bitsTellsSpec)

/-- 'gaiterlaw01.BitsBack', WHERE WHAT IT READS IS OF BULK AT MOST 1048576: true; the input reads as it did. -/
def bitsBackUptoRow : OpenClaim := { program := "ytfpcbnkipdjlhaa", sum := "77318a98abf0871540e2d761dc3d6fcbcd15d3eb74af65ee15fb61eb98a1fc3d", func := "gaiter/gaiterlaw01.BitsBack", spec := "bitsBack", apart := false, narrowed := true }
def BitsBackUptoSaid : Prop := bitsBackUptoRow.holds Try.pinned (OpenSpec.upto bitsBackSpec)

end Rows
end Go.Proofs.Ytfpcbnkipdjlhaa
