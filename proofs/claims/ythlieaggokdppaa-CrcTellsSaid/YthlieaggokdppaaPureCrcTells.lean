/- Layer 13's sum of any bytes is the document's; no condition beside the statement's own bound of 2000 bytes. -/
import Derived.Test.YthlieaggokdppaaAllx10
import Derived.Test.YthlieaggokdppaaPCrc
set_option linter.unusedVariables false
set_option linter.unusedSimpArgs false
namespace Go.Proofs.Ythlieaggokdppaa.Pure
open Go Go.RowKit Go.Proofs.Ythlieaggokdppaa.All Go.Proofs.YthlieaggokdppaaW.PrintWords Go.Proofs.YthlieaggokdppaaW.PrintLast

theorem CrcTells : gaiterlaw13_CrcTells.Pure := by
  intro l _ hl _
  have h1 := PCrc.sum_is l (by omega)
  have h2 := PCrc.ref_is l (by omega)
  obtain ⟨K1, h1⟩ := h1
  obtain ⟨K2, h2⟩ := h2
  replace h1 : ∀ k, K1 ≤ k → crc_Sum.f k l = some _ := h1
  replace h2 : ∀ k, K2 ≤ k → gaiterref09_Sum.f k l = some _ := h2
  refine ⟨K1 + K2, ?_⟩
  unfold gaiterlaw13_CrcTells.f
  rw [show gaiterlaw13_up.f = some true from rfl]
  simp only [Option.bind_some, if_true]
  split
  · rfl
  · rw [h1 _ (by omega), h2 _ (by omega)]
    simp

end Go.Proofs.Ythlieaggokdppaa.Pure
