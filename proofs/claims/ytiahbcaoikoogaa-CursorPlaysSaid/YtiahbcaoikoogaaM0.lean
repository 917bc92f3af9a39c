/- Words that the walks of this seat share: how an error is written as a value, '==' between two errors of the one integer type, and the walks of an error's number, of slices.Clone, slices.Grow and slices.Concat. -/
import Derived.Test.YtiahbcaoikoogaaProg
import Derived.Below
import Derived.Deep.Draws
import Derived.Deep.AppendLies
import Derived.Maps.AppendAt
import Derived.OwnWalk
import Derived.Laws.BytesArg
import Derived.Laws.MakeOwn
import Derived.Laws.OwnMore
import Derived.Deep.OwnRows
import Derived.Tactics
import Derived.Lib.ConvBytes
import Derived.Laws.Slices
import Derived.WalkKit
import Derived.KernelRfl
import Derived.RowKit3
import Derived.Deep.LoopGhost
import Derived.Deep.QuietTactic
import Derived.BigQuiet
import Derived.WideLaws
import Derived.WalkSpells
import Derived.Deep.DeepCutAuto
import Derived.Deep.CutBlock
import Derived.Deep.RegionHeld3
import Derived.Laws.Rows
import Derived.Lib.AppendStr
import Derived.ArgAppend
import Derived.Laws.IdiomCopy
import Derived.OrdersHeld
import Derived.Laws.BitsLemmas
import Derived.RowKit
import Derived.LaidEql
import Derived.Outline
import Derived.Lib.Hide
import Derived.LoopTactic
import Derived.Test.YtiahbcaoikoogaaWWords
import Derived.Test.YtiahbcaoikoogaaWLast
import Derived.Test.YtiahbcaoikoogaaWTab
import Derived.Test.YtiahbcaoikoogaaWQPut
import Derived.Test.YtiahbcaoikoogaaWApart
import Derived.Test.YtiahbcaoikoogaaWArr
import Derived.Test.YtiahbcaoikoogaaWZeros
import Derived.Test.YtiahbcaoikoogaaWFoot
import Derived.Test.YtiahbcaoikoogaaWKept
import Derived.Test.YtiahbcaoikoogaaWShare
import Derived.Test.YtiahbcaoikoogaaWN
import Derived.Test.YtiahbcaoikoogaaWEqStruct
import Derived.Test.YtiahbcaoikoogaaWRepsOne
import Derived.Test.YtiahbcaoikoogaaWGuard
import Derived.Test.YtiahbcaoikoogaaWNEv
import Derived.Test.YtiahbcaoikoogaaWMore
import Derived.Test.YtiahbcaoikoogaaSh
namespace Go.Proofs.Ytiahbcaoikoogaa
open Go.RowKit Go.Proofs.YtiahbcaoikoogaaW.PrintWords Go.Proofs.YtiahbcaoikoogaaW.PrintLast

def errW : Option Int → Value
  | none => .nilIface
  | some c => .iface 29 (.int .i64 c)
theorem errW_none : errW none = .nilIface := rfl
theorem errW_some (c : Int) : errW (some c) = .iface 29 (.int .i64 c) := rfl
theorem errW_cells (a : Option Int) : (errW a).cells = #[errW a] := by cases a <;> rfl
theorem errW_match (a : Option Int) : Value.cells.match_1 (fun _ => Array Value) (errW a) (fun cs => cs) (fun v => #[v]) = #[errW a] := by cases a <;> rfl
theorem run_store_errW {P : Program} {w : World} {a : Addr} {m : Mode} (e : Option Int) : (store a (errW e) m).run P w = stored P w a (errW e) m := by
  cases e with
  | none => exact run_store P w a _ m rfl
  | some c => exact run_store P w a _ m rfl

section
variable {P : Program} (w : World)
theorem run_equalIn_iface_int (d : Nat) {ti tn : TypeId} {ms : Array (String × TypeId)} {i : TypeInfo} {k : IntKind} (a b : Int)
    (hi : P.underlying ti = some (.interface ms)) (hn : P.underlying tn = some (.int k)) (hinfo : P.info? tn = some i) (hcomp : i.comparable = true) :
    (Op.equalIn (d + 2) ti (.iface tn (.int k a)) (.iface tn (.int k b))).run P w = .ok (a == b) w := by
  simp [Op.equalIn, run_underlying hi, run_underlying hn, typeInfo, hinfo, hcomp]
theorem run_eql_iface_int {ti tn : TypeId} {ms : Array (String × TypeId)} {i : TypeInfo} {k : IntKind} (a b : Int)
    (hi : P.underlying ti = some (.interface ms)) (hn : P.underlying tn = some (.int k)) (hinfo : P.info? tn = some i) (hcomp : i.comparable = true) :
    (Go.binOp .eql ti (.iface tn (.int k a)) (.iface tn (.int k b))).run P w = .ok (.bool (a == b)) w := by
  simp only [Go.binOp]
  simp [Op.equal, Op.maxDepth, run_equalIn_iface_int w 9998 a b hi hn hinfo hcomp]
end

theorem code_comparable : ∃ i, Try.prog.info? 29 = some i ∧ i.comparable = true := by
  have h : (Try.prog.info? 29).map (fun i => i.comparable) = some true := by kernel_rfl
  cases e : Try.prog.info? 29 with
  | none => rw [e] at h; simp at h
  | some i => rw [e] at h; exact ⟨i, rfl, by simpa using h⟩

end Go.Proofs.Ytiahbcaoikoogaa

namespace Go.Proofs.Ytiahbcaoikoogaa
open Go.RowKit Go.Proofs.YtiahbcaoikoogaaW.PrintWords Go.Proofs.YtiahbcaoikoogaaW.PrintLast
set_option linter.unusedVariables false
set_option linter.unusedSimpArgs false

/-- gaiterlaw00.Code: an error's number; -1 of one that is none of api's. -/
def codeNo : Option Int → Int
  | none => 0
  | some c => if 1 ≤ c ∧ c ≤ 9 then c else -1
def gaiterlaw00_Code.f (a0 : Option Int) : Option Int := some (codeNo a0)
set_option maxHeartbeats 4000000 in
set_option maxRecDepth 100000 in
theorem gaiterlaw00_Code.calls (a0 : Option Int) (r : Int) (w : World) (h : gaiterlaw00_Code.f a0 = some r) :
    Calls Try.prog 18 #[errW a0] w fun e w' => e = .returned (.int .i64 r) ∧ Drawn0 w w' := by
  have hr := Option.some.inj h
  clear h
  cases a0 with
  | none =>
    simp only [codeNo] at hr
    subst hr
    simp only [errW_none]
    go_enter Try.func18, Try.ntmps18
    go_wp2
    go_ret
    exact ⟨rfl, Drawn0.refl _⟩
  | some q =>
    simp only [errW_some]
    obtain ⟨i0, hi0, hc0⟩ := code_comparable
    have he : ∀ (x : Int) (W : World), (Go.binOp .eql 27 (.iface 29 (.int .i64 q)) (.iface 29 (.int .i64 x))).run Try.prog W = .ok (.bool (q == x)) W := fun x W => run_eql_iface_int W q x Try.underlying27 Try.underlying29 hi0 hc0
    have hr' := Lib.hid hr
    clear hr hi0 hc0
    go_enter Try.func18, Try.ntmps18
    go_wp2
    go_loop [3] (fun i => ∃ k : Nat, 1 ≤ k ∧ k ≤ 10 ∧ (∀ j : Nat, 1 ≤ j → j < k → q ≠ (j : Int)) ∧ i = .int .i64 k) (fun i => 10 - (intOf i).toNat)
    case atStart => exact ⟨1, by omega, by omega, fun j h1 h2 => by omega, rfl⟩
    case round =>
      obtain ⟨k, hk1, hk2, hk3, rfl⟩ := hrel
      have HK := Lib.hid hk3
      clear hk3
      by_cases hlt : k ≤ 9
      · by_cases hq : q = (k : Int)
        · have hb : (q == (k : Int)) = true := beq_iff_eq.2 hq
          have HQ := Lib.hid hq
          clear hq
          go_wp2
          go_ret
          refine ⟨?_, Drawn0.refl _⟩
          have hr2 := hr'.out
          have hq2 := HQ.out
          simp only [codeNo] at hr2
          rw [if_pos (by omega)] at hr2
          rw [← hr2, hq2]
          rfl
        · have hb : (q == (k : Int)) = false := beq_eq_false_iff_ne.2 hq
          have HQ := Lib.hid hq
          clear hq
          go_wp2
          go_round
          case rel => exact ⟨k + 1, by omega, by omega, fun j h1 h2 => by
            by_cases e : j = k
            · subst e; exact HQ.out
            · exact HK.out j h1 (by omega), by go_num⟩
          case measure => simp [intOf]; omega
      · go_wp2
        go_ret
        refine ⟨?_, Drawn0.refl _⟩
        have hr2 := hr'.out
        have hk := HK.out
        simp only [codeNo] at hr2
        rw [if_neg (by intro hh; exact hk q.toNat (by omega) (by omega) (by omega))] at hr2
        rw [← hr2]
        rfl

end Go.Proofs.Ytiahbcaoikoogaa
