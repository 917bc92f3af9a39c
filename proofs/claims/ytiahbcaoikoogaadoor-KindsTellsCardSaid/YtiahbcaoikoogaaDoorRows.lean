/-
  NARROWER THAN 'FOR EVERY INPUT', by the rows' own cells (each row's printed sentence says how): XorTells: laid · XorBack: laid · KindsTells: laid · KindsBack: laid · BatchTells: laid · ChunkTells: laid · ChunkApart: laid · SlowTells: laid.
  DERIVED. THE GIVEN ROWS OF THIS SEAT. 8 by the template 'for every input the law returns true; each argument reads behind the call as it read before'; 0 by the template 'total and deterministic' (their statements: YtiahbcaoikoogaaDoorTotals.lean).
  GIVEN WITH THE SEED: the statements are not yours to turn. If you find one false, say at which input.
  Laid BY PROGRAM, IN A SANDBOX (cutbox-rows.mjs): the forced cells as the released guide's own fill.sh prints them over the translation 5081ddfffb24452d… (all of the seat's roots in one cut). By AI agents, Wed Nov 11 2026. No macro, syntax, notation, axiom, sorry.
-/
import Derived.Test.YtiahbcaoikoogaaDoorChecked
import GoSem.Claim
import GoSem.ClaimJoined
import GoSem.ClaimMapViews
import Derived.JoinedTies
import Derived.KernelRfl
namespace Go.Proofs.YtiahbcaoikoogaaDoor
/- THE CELL 'sum', in the pinned program and in every row, IS THE sha256 OF THE DUMP (.gsa) THAT YtiahbcaoikoogaaDoorProg.lean LOADS. Nothing in Lean hashes anything: it is a label: what it is worth is what the hold of that sum in a sandbox is worth. -/
noncomputable def Tryd.pinned : Pinned := { name := "ytiahbcaoikoogaadoor", sum := "5081ddfffb24452d3f1593ecd1602234da1d9383354e3985316b92918f1d48ae", checked := Tryd.checked }
namespace Rows
def none {H : Type} : Left H := { results := [], args := [] }

/- WHAT THE LISTED PACKAGE-LEVEL VARIABLES READ AS WHEN THE CALL BEGINS. Each datum BY PROGRAM (the guide's laid-datum.mjs) off the statement by which the dump's own 'gosem.cut.vars' lays the variable. In a bare row this is a premise. The card (YtiahbcaoikoogaaDoorCards.lean) ties it to the program's text. -/
def laid_math_bits_deBruijn64tab {H : Type} : DataW H := .agg [.lit (.int .u8 0), .lit (.int .u8 1), .lit (.int .u8 56), .lit (.int .u8 2), .lit (.int .u8 57), .lit (.int .u8 49), .lit (.int .u8 28), .lit (.int .u8 3), .lit (.int .u8 61), .lit (.int .u8 58), .lit (.int .u8 42), .lit (.int .u8 50), .lit (.int .u8 38), .lit (.int .u8 29), .lit (.int .u8 17), .lit (.int .u8 4), .lit (.int .u8 62), .lit (.int .u8 47), .lit (.int .u8 59), .lit (.int .u8 36), .lit (.int .u8 45), .lit (.int .u8 43), .lit (.int .u8 51), .lit (.int .u8 22), .lit (.int .u8 53), .lit (.int .u8 39), .lit (.int .u8 33), .lit (.int .u8 30), .lit (.int .u8 24), .lit (.int .u8 18), .lit (.int .u8 12), .lit (.int .u8 5), .lit (.int .u8 63), .lit (.int .u8 55), .lit (.int .u8 48), .lit (.int .u8 27), .lit (.int .u8 60), .lit (.int .u8 41), .lit (.int .u8 37), .lit (.int .u8 16), .lit (.int .u8 46), .lit (.int .u8 35), .lit (.int .u8 44), .lit (.int .u8 21), .lit (.int .u8 52), .lit (.int .u8 32), .lit (.int .u8 23), .lit (.int .u8 11), .lit (.int .u8 54), .lit (.int .u8 26), .lit (.int .u8 40), .lit (.int .u8 15), .lit (.int .u8 34), .lit (.int .u8 20), .lit (.int .u8 31), .lit (.int .u8 10), .lit (.int .u8 25), .lit (.int .u8 14), .lit (.int .u8 19), .lit (.int .u8 9), .lit (.int .u8 13), .lit (.int .u8 8), .lit (.int .u8 7), .lit (.int .u8 6)]

/-- 'gaiterlaw07.XorTells': WHATEVER THE INPUT: true; the input reads as it did. -/
def xorTellsSpec : ChangeSpec := { name := "xorTells", fn := fun _ => fun
  | [d1, d2, d3, d4] => { results := [.lit (.bool true)], args := [d1, d2, d3, d4] }
  | _ => none }
def xorTellsRow : OpenClaim := { program := "ytiahbcaoikoogaadoor", sum := "5081ddfffb24452d3f1593ecd1602234da1d9383354e3985316b92918f1d48ae", func := "gaiter/gaiterlaw07.XorTells", spec := "xorTells", unfollowed := true, recurses := true, named := ["math/bits.deBruijn64tab"], apart := false, laid := [("math/bits.deBruijn64tab", laid_math_bits_deBruijn64tab)] }
def XorTellsSaid : Prop := xorTellsRow.holds Tryd.pinned (OpenSpec.ofChange xorTellsSpec)

/-- ITS FALSE NEIGHBOUR: 'it returns false'. Refute it at one input. -/
def xorTellsWrong : ChangeSpec := { name := "xorTells", fn := fun _ => fun
  | [d1, d2, d3, d4] => { results := [.lit (.bool false)], args := [d1, d2, d3, d4] }
  | _ => none }
def XorTellsWrongFalsely : Prop := xorTellsRow.holds Tryd.pinned (OpenSpec.ofChange xorTellsWrong)

/-- 'gaiterlaw07.XorBack': WHATEVER THE INPUT: true; the input reads as it did. -/
def xorBackSpec : ChangeSpec := { name := "xorBack", fn := fun _ => fun
  | [d1, d2, d3, d4] => { results := [.lit (.bool true)], args := [d1, d2, d3, d4] }
  | _ => none }
def xorBackRow : OpenClaim := { program := "ytiahbcaoikoogaadoor", sum := "5081ddfffb24452d3f1593ecd1602234da1d9383354e3985316b92918f1d48ae", func := "gaiter/gaiterlaw07.XorBack", spec := "xorBack", unfollowed := true, recurses := true, named := ["math/bits.deBruijn64tab"], apart := false, laid := [("math/bits.deBruijn64tab", laid_math_bits_deBruijn64tab)] }
def XorBackSaid : Prop := xorBackRow.holds Tryd.pinned (OpenSpec.ofChange xorBackSpec)

/-- ITS FALSE NEIGHBOUR: 'it returns false'. Refute it at one input. -/
def xorBackWrong : ChangeSpec := { name := "xorBack", fn := fun _ => fun
  | [d1, d2, d3, d4] => { results := [.lit (.bool false)], args := [d1, d2, d3, d4] }
  | _ => none }
def XorBackWrongFalsely : Prop := xorBackRow.holds Tryd.pinned (OpenSpec.ofChange xorBackWrong)

/-- 'gaiterlaw08.KindsTells': WHATEVER THE INPUT: true; the input reads as it did. -/
def kindsTellsSpec : ChangeSpec := { name := "kindsTells", fn := fun _ => fun
  | [d1, d2, d3, d4] => { results := [.lit (.bool true)], args := [d1, d2, d3, d4] }
  | _ => none }
def kindsTellsRow : OpenClaim := { program := "ytiahbcaoikoogaadoor", sum := "5081ddfffb24452d3f1593ecd1602234da1d9383354e3985316b92918f1d48ae", func := "gaiter/gaiterlaw08.KindsTells", spec := "kindsTells", unfollowed := true, recurses := true, named := ["math/bits.deBruijn64tab"], apart := false, laid := [("math/bits.deBruijn64tab", laid_math_bits_deBruijn64tab)] }
def KindsTellsSaid : Prop := kindsTellsRow.holds Tryd.pinned (OpenSpec.ofChange kindsTellsSpec)

/-- ITS FALSE NEIGHBOUR: 'it returns false'. Refute it at one input. -/
def kindsTellsWrong : ChangeSpec := { name := "kindsTells", fn := fun _ => fun
  | [d1, d2, d3, d4] => { results := [.lit (.bool false)], args := [d1, d2, d3, d4] }
  | _ => none }
def KindsTellsWrongFalsely : Prop := kindsTellsRow.holds Tryd.pinned (OpenSpec.ofChange kindsTellsWrong)

/-- 'gaiterlaw08.KindsBack': WHATEVER THE INPUT: true; the input reads as it did. -/
def kindsBackSpec : ChangeSpec := { name := "kindsBack", fn := fun _ => fun
  | [d1, d2, d3, d4] => { results := [.lit (.bool true)], args := [d1, d2, d3, d4] }
  | _ => none }
def kindsBackRow : OpenClaim := { program := "ytiahbcaoikoogaadoor", sum := "5081ddfffb24452d3f1593ecd1602234da1d9383354e3985316b92918f1d48ae", func := "gaiter/gaiterlaw08.KindsBack", spec := "kindsBack", unfollowed := true, recurses := true, named := ["math/bits.deBruijn64tab"], apart := false, laid := [("math/bits.deBruijn64tab", laid_math_bits_deBruijn64tab)] }
def KindsBackSaid : Prop := kindsBackRow.holds Tryd.pinned (OpenSpec.ofChange kindsBackSpec)

/-- ITS FALSE NEIGHBOUR: 'it returns false'. Refute it at one input. -/
def kindsBackWrong : ChangeSpec := { name := "kindsBack", fn := fun _ => fun
  | [d1, d2, d3, d4] => { results := [.lit (.bool false)], args := [d1, d2, d3, d4] }
  | _ => none }
def KindsBackWrongFalsely : Prop := kindsBackRow.holds Tryd.pinned (OpenSpec.ofChange kindsBackWrong)

/-- 'gaiterlaw11.BatchTells': WHATEVER THE INPUT: true; the input reads as it did. -/
def batchTellsSpec : ChangeSpec := { name := "batchTells", fn := fun _ => fun
  | [d1, d2, d3] => { results := [.lit (.bool true)], args := [d1, d2, d3] }
  | _ => none }
def batchTellsRow : OpenClaim := { program := "ytiahbcaoikoogaadoor", sum := "5081ddfffb24452d3f1593ecd1602234da1d9383354e3985316b92918f1d48ae", func := "gaiter/gaiterlaw11.BatchTells", spec := "batchTells", named := ["math/bits.deBruijn64tab"], apart := false, laid := [("math/bits.deBruijn64tab", laid_math_bits_deBruijn64tab)] }
def BatchTellsSaid : Prop := batchTellsRow.holds Tryd.pinned (OpenSpec.ofChange batchTellsSpec)

/-- ITS FALSE NEIGHBOUR: 'it returns false'. Refute it at one input. -/
def batchTellsWrong : ChangeSpec := { name := "batchTells", fn := fun _ => fun
  | [d1, d2, d3] => { results := [.lit (.bool false)], args := [d1, d2, d3] }
  | _ => none }
def BatchTellsWrongFalsely : Prop := batchTellsRow.holds Tryd.pinned (OpenSpec.ofChange batchTellsWrong)

/-- 'gaiterlaw09.ChunkTells': WHATEVER THE INPUT: true; the input reads as it did. -/
def chunkTellsSpec : ChangeSpec := { name := "chunkTells", fn := fun _ => fun
  | [d1, d2] => { results := [.lit (.bool true)], args := [d1, d2] }
  | _ => none }
def chunkTellsRow : OpenClaim := { program := "ytiahbcaoikoogaadoor", sum := "5081ddfffb24452d3f1593ecd1602234da1d9383354e3985316b92918f1d48ae", func := "gaiter/gaiterlaw09.ChunkTells", spec := "chunkTells", named := ["math/bits.deBruijn64tab"], apart := false, laid := [("math/bits.deBruijn64tab", laid_math_bits_deBruijn64tab)] }
def ChunkTellsSaid : Prop := chunkTellsRow.holds Tryd.pinned (OpenSpec.ofChange chunkTellsSpec)

/-- ITS FALSE NEIGHBOUR: 'it returns false'. Refute it at one input. -/
def chunkTellsWrong : ChangeSpec := { name := "chunkTells", fn := fun _ => fun
  | [d1, d2] => { results := [.lit (.bool false)], args := [d1, d2] }
  | _ => none }
def ChunkTellsWrongFalsely : Prop := chunkTellsRow.holds Tryd.pinned (OpenSpec.ofChange chunkTellsWrong)

/-- 'gaiterlaw09.ChunkApart': WHATEVER THE INPUT: true; the input reads as it did. -/
def chunkApartSpec : ChangeSpec := { name := "chunkApart", fn := fun _ => fun
  | [d1, d2, d3, d4] => { results := [.lit (.bool true)], args := [d1, d2, d3, d4] }
  | _ => none }
def chunkApartRow : OpenClaim := { program := "ytiahbcaoikoogaadoor", sum := "5081ddfffb24452d3f1593ecd1602234da1d9383354e3985316b92918f1d48ae", func := "gaiter/gaiterlaw09.ChunkApart", spec := "chunkApart", named := ["math/bits.deBruijn64tab"], apart := false, laid := [("math/bits.deBruijn64tab", laid_math_bits_deBruijn64tab)] }
def ChunkApartSaid : Prop := chunkApartRow.holds Tryd.pinned (OpenSpec.ofChange chunkApartSpec)

/-- ITS FALSE NEIGHBOUR: 'it returns false'. Refute it at one input. -/
def chunkApartWrong : ChangeSpec := { name := "chunkApart", fn := fun _ => fun
  | [d1, d2, d3, d4] => { results := [.lit (.bool false)], args := [d1, d2, d3, d4] }
  | _ => none }
def ChunkApartWrongFalsely : Prop := chunkApartRow.holds Tryd.pinned (OpenSpec.ofChange chunkApartWrong)

/-- 'gaiterlaw10.SlowTells': WHATEVER THE INPUT: true; the input reads as it did. -/
def slowTellsSpec : ChangeSpec := { name := "slowTells", fn := fun _ => fun
  | [d1, d2, d3] => { results := [.lit (.bool true)], args := [d1, d2, d3] }
  | _ => none }
def slowTellsRow : OpenClaim := { program := "ytiahbcaoikoogaadoor", sum := "5081ddfffb24452d3f1593ecd1602234da1d9383354e3985316b92918f1d48ae", func := "gaiter/gaiterlaw10.SlowTells", spec := "slowTells", unfollowed := true, recurses := true, named := ["math/bits.deBruijn64tab"], apart := false, laid := [("math/bits.deBruijn64tab", laid_math_bits_deBruijn64tab)] }
def SlowTellsSaid : Prop := slowTellsRow.holds Tryd.pinned (OpenSpec.ofChange slowTellsSpec)

/-- ITS FALSE NEIGHBOUR: 'it returns false'. Refute it at one input. -/
def slowTellsWrong : ChangeSpec := { name := "slowTells", fn := fun _ => fun
  | [d1, d2, d3] => { results := [.lit (.bool false)], args := [d1, d2, d3] }
  | _ => none }
def SlowTellsWrongFalsely : Prop := slowTellsRow.holds Tryd.pinned (OpenSpec.ofChange slowTellsWrong)

/- THE SECOND FORM. 'bulk': how many values and letters a reading holds, each counted each time it is reached (what is shared counts as often as it is met; a slice's spare places count too). A statement '..UptoSaid' is the law's where the arguments, and the package variables that the reading takes, are together of bulk at most 1048576: NARROWER than '..Said'. Prove '..Said' where nothing that the law and all that it calls make is longer than what came in: it says more and counts as full. Else prove '..UptoSaid'. A law counts once. -/
mutual
def uptoBulk {H : Type} : DataW H → Nat
  | .lit (.string bytes) => bytes.length + 1
  | .lit _ => 1
  | .nil => 1
  | .ptr d => uptoBulk d + 1
  | .slice elems spare => uptoBulkAll elems + uptoBulkAll spare + 1
  | .agg parts => uptoBulkAll parts + 1
  | .iface _ d => uptoBulk d + 1
  | .map entries => uptoBulkEntries entries + 1
  | .held _ => 1
def uptoBulkAll {H : Type} : List (DataW H) → Nat
  | [] => 0
  | d :: r => uptoBulk d + uptoBulkAll r
def uptoBulkEntries {H : Type} : List (Lit × DataW H) → Nat
  | [] => 0
  | x :: r => uptoBulkEntry x + uptoBulkEntries r
def uptoBulkEntry {H : Type} : Lit × DataW H → Nat
  | (.string bytes, d) => bytes.length + uptoBulk d + 1
  | (_, d) => uptoBulk d + 1
 end
def uptoSmall : (H : Type) → List (DataW H) → Bool := fun _ ds => decide (uptoBulkAll ds ≤ 1048576)
def OpenSpec.upto (s : _root_.Go.ChangeSpec) : _root_.Go.OpenSpec := { _root_.Go.OpenSpec.ofChange s with cond := some uptoSmall }

/-- 'gaiterlaw07.XorTells', WHERE WHAT IT READS IS OF BULK AT MOST 1048576: true; the input reads as it did. -/
def xorTellsUptoRow : OpenClaim := { program := "ytiahbcaoikoogaadoor", sum := "5081ddfffb24452d3f1593ecd1602234da1d9383354e3985316b92918f1d48ae", func := "gaiter/gaiterlaw07.XorTells", spec := "xorTells", unfollowed := true, recurses := true, named := ["math/bits.deBruijn64tab"], apart := false, laid := [("math/bits.deBruijn64tab", laid_math_bits_deBruijn64tab)], narrowed := true }
def XorTellsUptoSaid : Prop := xorTellsUptoRow.holds Tryd.pinned (OpenSpec.upto xorTellsSpec)

/-- 'gaiterlaw07.XorBack', WHERE WHAT IT READS IS OF BULK AT MOST 1048576: true; the input reads as it did. -/
def xorBackUptoRow : OpenClaim := { program := "ytiahbcaoikoogaadoor", sum := "5081ddfffb24452d3f1593ecd1602234da1d9383354e3985316b92918f1d48ae", func := "gaiter/gaiterlaw07.XorBack", spec := "xorBack", unfollowed := true, recurses := true, named := ["math/bits.deBruijn64tab"], apart := false, laid := [("math/bits.deBruijn64tab", laid_math_bits_deBruijn64tab)], narrowed := true }
def XorBackUptoSaid : Prop := xorBackUptoRow.holds Tryd.pinned (OpenSpec.upto xorBackSpec)

/-- 'gaiterlaw08.KindsTells', WHERE WHAT IT READS IS OF BULK AT MOST 1048576: true; the input reads as it did. -/
def kindsTellsUptoRow : OpenClaim := { program := "ytiahbcaoikoogaadoor", sum := "5081ddfffb24452d3f1593ecd1602234da1d9383354e3985316b92918f1d48ae", func := "gaiter/gaiterlaw08.KindsTells", spec := "kindsTells", unfollowed := true, recurses := true, named := ["math/bits.deBruijn64tab"], apart := false, laid := [("math/bits.deBruijn64tab", laid_math_bits_deBruijn64tab)], narrowed := true }
def KindsTellsUptoSaid : Prop := kindsTellsUptoRow.holds Tryd.pinned (OpenSpec.upto kindsTellsSpec)

/-- 'gaiterlaw08.KindsBack', WHERE WHAT IT READS IS OF BULK AT MOST 1048576: true; the input reads as it did. -/
def kindsBackUptoRow : OpenClaim := { program := "ytiahbcaoikoogaadoor", sum := "5081ddfffb24452d3f1593ecd1602234da1d9383354e3985316b92918f1d48ae", func := "gaiter/gaiterlaw08.KindsBack", spec := "kindsBack", unfollowed := true, recurses := true, named := ["math/bits.deBruijn64tab"], apart := false, laid := [("math/bits.deBruijn64tab", laid_math_bits_deBruijn64tab)], narrowed := true }
def KindsBackUptoSaid : Prop := kindsBackUptoRow.holds Tryd.pinned (OpenSpec.upto kindsBackSpec)

/-- 'gaiterlaw11.BatchTells', WHERE WHAT IT READS IS OF BULK AT MOST 1048576: true; the input reads as it did. -/
def batchTellsUptoRow : OpenClaim := { program := "ytiahbcaoikoogaadoor", sum := "5081ddfffb24452d3f1593ecd1602234da1d9383354e3985316b92918f1d48ae", func := "gaiter/gaiterlaw11.BatchTells", spec := "batchTells", named := ["math/bits.deBruijn64tab"], apart := false, laid := [("math/bits.deBruijn64tab", laid_math_bits_deBruijn64tab)], narrowed := true }
def BatchTellsUptoSaid : Prop := batchTellsUptoRow.holds Tryd.pinned (OpenSpec.upto batchTellsSpec)

/-- 'gaiterlaw09.ChunkTells', WHERE WHAT IT READS IS OF BULK AT MOST 1048576: true; the input reads as it did. -/
def chunkTellsUptoRow : OpenClaim := { program := "ytiahbcaoikoogaadoor", sum := "5081ddfffb24452d3f1593ecd1602234da1d9383354e3985316b92918f1d48ae", func := "gaiter/gaiterlaw09.ChunkTells", spec := "chunkTells", named := ["math/bits.deBruijn64tab"], apart := false, laid := [("math/bits.deBruijn64tab", laid_math_bits_deBruijn64tab)], narrowed := true }
def ChunkTellsUptoSaid : Prop := chunkTellsUptoRow.holds Tryd.pinned (OpenSpec.upto chunkTellsSpec)

/-- 'gaiterlaw09.ChunkApart', WHERE WHAT IT READS IS OF BULK AT MOST 1048576: true; the input reads as it did. -/
def chunkApartUptoRow : OpenClaim := { program := "ytiahbcaoikoogaadoor", sum := "5081ddfffb24452d3f1593ecd1602234da1d9383354e3985316b92918f1d48ae", func := "gaiter/gaiterlaw09.ChunkApart", spec := "chunkApart", named := ["math/bits.deBruijn64tab"], apart := false, laid := [("math/bits.deBruijn64tab", laid_math_bits_deBruijn64tab)], narrowed := true }
def ChunkApartUptoSaid : Prop := chunkApartUptoRow.holds Tryd.pinned (OpenSpec.upto chunkApartSpec)

/-- 'gaiterlaw10.SlowTells', WHERE WHAT IT READS IS OF BULK AT MOST 1048576: true; the input reads as it did. -/
def slowTellsUptoRow : OpenClaim := { program := "ytiahbcaoikoogaadoor", sum := "5081ddfffb24452d3f1593ecd1602234da1d9383354e3985316b92918f1d48ae", func := "gaiter/gaiterlaw10.SlowTells", spec := "slowTells", unfollowed := true, recurses := true, named := ["math/bits.deBruijn64tab"], apart := false, laid := [("math/bits.deBruijn64tab", laid_math_bits_deBruijn64tab)], narrowed := true }
def SlowTellsUptoSaid : Prop := slowTellsUptoRow.holds Tryd.pinned (OpenSpec.upto slowTellsSpec)

end Rows
end Go.Proofs.YtiahbcaoikoogaaDoor
