/- The walks of this seat that the printed texts lean on: an error's number. -/
import Derived.Test.YthlieaggokdppaaM0
namespace Go.Proofs.Ythlieaggokdppaa
open Go.RowKit Go.Proofs.YthlieaggokdppaaW.PrintWords Go.Proofs.YthlieaggokdppaaW.PrintLast
set_option linter.unusedVariables false
set_option linter.unusedSimpArgs false

/-- gaiterlaw00.Code: an error's number; -1 of one that is none of api's. -/
def codeNo : Option Int → Int
  | none => 0
  | some c => if 1 ≤ c ∧ c ≤ 9 then c else -1
def gaiterlaw00_Code.f (a0 : Option Int) : Option Int := some (codeNo a0)
set_option maxHeartbeats 4000000 in
set_option maxRecDepth 100000 in
theorem gaiterlaw00_Code.calls (a0 : Option Int) (r : Int) (w : World) (h : gaiterlaw00_Code.f a0 = some r) :
    Calls Try.prog 28 #[errW a0] w fun e w' => e = .returned (.int .i64 r) ∧ Drawn0 w w' := by
  have hr := Option.some.inj h
  clear h
  cases a0 with
  | none =>
    simp only [codeNo] at hr
    subst hr
    simp only [errW_none]
    go_enter Try.func28, Try.ntmps28
    go_wp2
    go_ret
    exact ⟨rfl, Drawn0.refl _⟩
  | some q =>
    simp only [errW_some]
    obtain ⟨i0, hi0, hc0⟩ := code_comparable
    have he : ∀ (x : Int) (W : World), (Go.binOp .eql 34 (.iface 47 (.int .i64 q)) (.iface 47 (.int .i64 x))).run Try.prog W = .ok (.bool (q == x)) W := fun x W => run_eql_iface_int W q x Try.underlying34 Try.underlying47 hi0 hc0
    have hr' := Lib.hid hr
    clear hr hi0 hc0
    go_enter Try.func28, Try.ntmps28
    go_wp2
    go_loop [3] (fun i => ∃ k : Nat, 1 ≤ k ∧ k ≤ 10 ∧ (∀ j : Nat, 1 ≤ j → j < k → q ≠ (j : Int)) ∧ i = .int .i64 k) (fun i => 10 - (intOf i).toNat)
    case atStart => exact ⟨1, by omega, by omega, fun j h1 h2 => by omega, rfl⟩
    case round =>
      obtain ⟨k, hk1, hk2, hk3, rfl⟩ := hrel
      have HK := Lib.hid hk3
      clear hk3
      by_cases hlt : k ≤ 9
      · by_cases hq : q = (k : Int)
        · have hb : (q == (k : Int)) = true := beq_iff_eq.2 hq
          have HQ := Lib.hid hq
          clear hq
          go_wp2
          go_ret
          refine ⟨?_, Drawn0.refl _⟩
          have hr2 := hr'.out
          have hq2 := HQ.out
          simp only [codeNo] at hr2
          rw [if_pos (by omega)] at hr2
          rw [← hr2, hq2]
          rfl
        · have hb : (q == (k : Int)) = false := beq_eq_false_iff_ne.2 hq
          have HQ := Lib.hid hq
          clear hq
          go_wp2
          go_round
          case rel => exact ⟨k + 1, by omega, by omega, fun j h1 h2 => by
            by_cases e : j = k
            · subst e; exact HQ.out
            · exact HK.out j h1 (by omega), by go_num⟩
          case measure => simp [intOf]; omega
      · go_wp2
        go_ret
        refine ⟨?_, Drawn0.refl _⟩
        have hr2 := hr'.out
        have hk := HK.out
        simp only [codeNo] at hr2
        rw [if_neg (by intro hh; exact hk q.toNat (by omega) (by omega) (by omega))] at hr2
        rw [← hr2]
        rfl

end Go.Proofs.Ythlieaggokdppaa
