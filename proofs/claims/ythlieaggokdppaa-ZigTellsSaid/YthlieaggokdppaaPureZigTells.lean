/- Layer 4's Zig and Zag answer as the document's, at every number: no condition. -/
import Derived.Test.YthlieaggokdppaaPZigTellsx1
import Derived.Test.YthlieaggokdppaaIb
namespace Go.Proofs.Ythlieaggokdppaa.Pure
open Go Go.RowKit Go.Proofs.Ythlieaggokdppaa.PZigTells Go.Proofs.YthlieaggokdppaaW.PrintWords Go.Proofs.YthlieaggokdppaaW.PrintLast

theorem ZigTells : gaiterlaw04_ZigTells.Pure := by
  intro v w hv hw
  have hv := Ib.wf_i64 hv
  have hw := Ib.wf_u64 hw
  have hup : gaiterlaw04_up.f = some true := by decide +kernel
  have hzig : zig_Zig.f v = gaiterref01_Zig.f v := by
    unfold zig_Zig.f gaiterref01_Zig.f
    by_cases h0 : v ≥ 0
    · rw [if_pos h0, show v / 9223372036854775808 = 0 from by omega, show IntKind.u64.wrap 0 = 0 from by decide, Ib.xor_u64_zero _ (by rw [Ib.wrap_u64]; omega)]
      congr 1
      simp only [Ib.wrap_u64, wrap64]; omega
    · rw [if_neg h0, show v / 9223372036854775808 = -1 from by omega, show IntKind.u64.wrap (-1) = 18446744073709551615 from by decide, Ib.xor_u64_ones _ (by rw [Ib.wrap_u64]; omega)]
      congr 1
      simp only [Ib.wrap_u64, wrap64]; omega
  have hzag : zig_Zag.f w = gaiterref01_Zag.f w := by
    unfold zig_Zag.f gaiterref01_Zag.f
    rw [Ib.and_u64_one w hw, Int.tmod_eq_emod_of_nonneg hw.1, Int.tdiv_eq_ediv_of_nonneg hw.1]
    by_cases h0 : w % 2 = 0
    · rw [if_pos h0, h0, show wrap64 (-(wrap64 0)) = 0 from by decide +kernel, Ib.xor_i64_zero _ (by unfold wrap64; omega)]
      congr 1
      simp only [Ib.wrap_u64, wrap64]; omega
    · rw [if_neg h0, show w % 2 = 1 from by omega, show wrap64 (-(wrap64 1)) = -1 from by decide +kernel, Ib.xor_i64_ones _ (by unfold wrap64; omega)]
      congr 1
      simp only [Ib.wrap_u64, wrap64]; omega
  unfold gaiterlaw04_ZigTells.f
  rw [hup, hzig, hzag]
  simp only [Option.bind_some, if_true]
  obtain ⟨a, ha⟩ : ∃ a, gaiterref01_Zig.f v = some a := by unfold gaiterref01_Zig.f; split <;> exact ⟨_, rfl⟩
  obtain ⟨b, hb⟩ : ∃ b, gaiterref01_Zag.f w = some b := by unfold gaiterref01_Zag.f; split <;> exact ⟨_, rfl⟩
  rw [ha, hb]
  simp

end Go.Proofs.Ythlieaggokdppaa.Pure
