/- Layer 4's Zig and Zag are each other's, at every number; a place is odd just below 0; the nearer to 0, the lower: no condition. -/
import Derived.Test.YthlieaggokdppaaAllx7
import Derived.Test.YthlieaggokdppaaIb
set_option linter.unusedVariables false
set_option linter.unusedSimpArgs false
namespace Go.Proofs.Ythlieaggokdppaa.Pure
open Go Go.RowKit Go.Proofs.Ythlieaggokdppaa.All Go.Proofs.YthlieaggokdppaaW.PrintWords Go.Proofs.YthlieaggokdppaaW.PrintLast

theorem zig_is (v : Int) (hv : -9223372036854775808 ≤ v ∧ v < 9223372036854775808) : zig_Zig.f v = some (if v ≥ 0 then 2 * v else -2 * v - 1) := by
  unfold zig_Zig.f
  by_cases h0 : v ≥ 0
  · rw [if_pos h0, show v / 9223372036854775808 = 0 from by omega, show IntKind.u64.wrap 0 = 0 from by decide, Ib.xor_u64_zero _ (by rw [Ib.wrap_u64]; omega)]
    congr 1
    simp only [Ib.wrap_u64, wrap64]; omega
  · rw [if_neg h0, show v / 9223372036854775808 = -1 from by omega, show IntKind.u64.wrap (-1) = 18446744073709551615 from by decide, Ib.xor_u64_ones _ (by rw [Ib.wrap_u64]; omega)]
    congr 1
    simp only [Ib.wrap_u64, wrap64]; omega
theorem zag_is (w : Int) (hw : 0 ≤ w ∧ w < 18446744073709551616) : zig_Zag.f w = some (if w % 2 = 0 then w / 2 else -(w / 2) - 1) := by
  unfold zig_Zag.f
  rw [Ib.and_u64_one w hw]
  by_cases h0 : w % 2 = 0
  · rw [if_pos h0, h0, show wrap64 (-(wrap64 0)) = 0 from by decide +kernel, Ib.xor_i64_zero _ (by unfold wrap64; omega)]
    congr 1
    simp only [wrap64]; omega
  · rw [if_neg h0, show w % 2 = 1 from by omega, show wrap64 (-(wrap64 1)) = -1 from by decide +kernel, Ib.xor_i64_ones _ (by unfold wrap64; omega)]
    congr 1
    simp only [wrap64]; omega
theorem ZigBack : gaiterlaw04_ZigBack.Pure := by
  intro v w hv hw
  have hv := Ib.wf_i64 hv
  have hw := Ib.wf_u64 hw
  have hup : gaiterlaw04_up.f = some true := by decide +kernel
  refine ⟨1, ?_⟩
  unfold gaiterlaw04_ZigBack.f
  obtain ⟨z, hz⟩ : ∃ z, z = (if v ≥ 0 then 2 * v else -2 * v - 1) := ⟨_, rfl⟩
  obtain ⟨g, hg⟩ : ∃ g, g = (if w % 2 = 0 then w / 2 else -(w / 2) - 1) := ⟨_, rfl⟩
  have hzr : 0 ≤ z ∧ z < 18446744073709551616 := by rw [hz]; split <;> omega
  have hgr : -9223372036854775808 ≤ g ∧ g < 9223372036854775808 := by rw [hg]; split <;> omega
  rw [hup, zig_is v hv, ← hz, zag_is w hw, ← hg]
  simp only [Option.bind_some]
  have h1 : (if z % 2 = 0 then z / 2 else -(z / 2) - 1) = v := by rw [hz]; split <;> split <;> omega
  have h2 : (if g ≥ 0 then 2 * g else -2 * g - 1) = w := by rw [hg]; split <;> split <;> omega
  rw [zag_is z hzr, h1]
  simp only [Option.bind_some, if_true]
  rw [zig_is g hgr, h2]
  simp only [Option.bind_some, if_true]
  have h3 : (((Int.tmod z 2) == 1) != (decide (v < 0))) = false := by
    rw [Int.tmod_eq_emod_of_nonneg hzr.1]
    by_cases h0 : v ≥ 0
    · rw [if_pos h0] at hz; have e : z % 2 = 0 := by omega
      rw [e]; simp; omega
    · rw [if_neg h0] at hz; have e : z % 2 = 1 := by omega
      rw [e]; simp; omega
  rw [h3]
  simp only [gaiterlaw04_ZigBack.j0, Bool.false_eq_true, if_false, if_true]
  by_cases h0 : v ≤ 0
  · rw [if_pos h0]
  · rw [if_neg h0, show wrap64 (v - 1) = v - 1 from by unfold wrap64; omega, show wrap64 (-v) = -v from by unfold wrap64; omega, zig_is (v - 1) (by omega), zig_is v hv, zig_is (-v) (by omega)]
    simp only [Option.bind_some]
    rw [if_pos (show v - 1 ≥ 0 by omega), if_pos (show v ≥ 0 by omega), if_neg (show ¬ (-v ≥ 0) by omega), if_pos (show 2 * (v - 1) < 2 * v by omega)]
    congr 1
    exact decide_eq_true (by omega)

end Go.Proofs.Ythlieaggokdppaa.Pure
