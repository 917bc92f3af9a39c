/- Words that the walks of this seat share: how an error is written as a value, and '==' between two errors of the one integer type. -/
import Derived.Test.YthlieaggokdppaaProg
import Derived.Below
import Derived.Deep.Draws
import Derived.Deep.AppendLies
import Derived.Maps.AppendAt
import Derived.OwnWalk
import Derived.Laws.BytesArg
import Derived.Laws.MakeOwn
import Derived.Laws.OwnMore
import Derived.Deep.OwnRows
import Derived.Tactics
import Derived.Lib.ConvBytes
import Derived.Laws.Slices
import Derived.WalkKit
import Derived.KernelRfl
import Derived.RowKit3
import Derived.Deep.LoopGhost
import Derived.Deep.QuietTactic
import Derived.BigQuiet
import Derived.WideLaws
import Derived.WalkSpells
import Derived.Deep.DeepCutAuto
import Derived.Deep.CutBlock
import Derived.Deep.RegionHeld3
import Derived.Laws.Rows
import Derived.Lib.AppendStr
import Derived.ArgAppend
import Derived.Laws.IdiomCopy
import Derived.OrdersHeld
import Derived.Laws.BitsLemmas
import Derived.RowKit
import Derived.LaidEql
import Derived.Outline
import Derived.Lib.Hide
import Derived.LoopTactic
import Derived.Test.YthlieaggokdppaaWWords
import Derived.Test.YthlieaggokdppaaWLast
import Derived.Test.YthlieaggokdppaaWTab
import Derived.Test.YthlieaggokdppaaWFour
import Derived.Test.YthlieaggokdppaaWQPut
import Derived.Test.YthlieaggokdppaaWApart
import Derived.Test.YthlieaggokdppaaWArr
import Derived.Test.YthlieaggokdppaaWZeros
import Derived.Test.YthlieaggokdppaaWFoot
import Derived.Test.YthlieaggokdppaaWKept
import Derived.Test.YthlieaggokdppaaWShare
import Derived.Test.YthlieaggokdppaaWN
import Derived.Test.YthlieaggokdppaaWFootNe
import Derived.Test.YthlieaggokdppaaWAt
import Derived.Test.YthlieaggokdppaaWEqStruct
import Derived.Test.YthlieaggokdppaaWRepsOne
import Derived.Test.YthlieaggokdppaaWInv
import Derived.Test.YthlieaggokdppaaWInvWords
import Derived.Test.YthlieaggokdppaaWGuard
import Derived.Test.YthlieaggokdppaaWNEv
import Derived.Test.YthlieaggokdppaaWMore
set_option linter.unusedVariables false
set_option linter.unusedSimpArgs false
namespace Go.Proofs.Ythlieaggokdppaa
open Go.RowKit Go.Proofs.YthlieaggokdppaaW.PrintWords Go.Proofs.YthlieaggokdppaaW.PrintLast

def errW : Option Int → Value
  | none => .nilIface
  | some c => .iface 47 (.int .i64 c)
theorem errW_none : errW none = .nilIface := rfl
theorem errW_some (c : Int) : errW (some c) = .iface 47 (.int .i64 c) := rfl

section
variable {P : Program} (w : World)
theorem run_equalIn_iface_int (d : Nat) {ti tn : TypeId} {ms : Array (String × TypeId)} {i : TypeInfo} {k : IntKind} (a b : Int)
    (hi : P.underlying ti = some (.interface ms)) (hn : P.underlying tn = some (.int k)) (hinfo : P.info? tn = some i) (hcomp : i.comparable = true) :
    (Op.equalIn (d + 2) ti (.iface tn (.int k a)) (.iface tn (.int k b))).run P w = .ok (a == b) w := by
  simp [Op.equalIn, run_underlying hi, run_underlying hn, typeInfo, hinfo, hcomp]
theorem run_eql_iface_int {ti tn : TypeId} {ms : Array (String × TypeId)} {i : TypeInfo} {k : IntKind} (a b : Int)
    (hi : P.underlying ti = some (.interface ms)) (hn : P.underlying tn = some (.int k)) (hinfo : P.info? tn = some i) (hcomp : i.comparable = true) :
    (Go.binOp .eql ti (.iface tn (.int k a)) (.iface tn (.int k b))).run P w = .ok (.bool (a == b)) w := by
  simp only [Go.binOp]
  simp [Op.equal, Op.maxDepth, run_equalIn_iface_int w 9998 a b hi hn hinfo hcomp]
end

theorem code_comparable : ∃ i, Try.prog.info? 47 = some i ∧ i.comparable = true := by
  have h : (Try.prog.info? 47).map (fun i => i.comparable) = some true := by kernel_rfl
  cases e : Try.prog.info? 47 with
  | none => rw [e] at h; simp at h
  | some i => rw [e] at h; exact ⟨i, rfl, by simpa using h⟩

end Go.Proofs.Ythlieaggokdppaa
