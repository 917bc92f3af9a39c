-- copied by a program of the session
import Derived.Test.YtiahbcaoikoogabDoorKqAllx14
import Derived.Test.YtiahbcaoikoogabDoorKqXw
namespace Go.Proofs.YtiahbcaoikoogabDoor.All
open Go.RowKit Go.Proofs.YtiahbcaoikoogabDoorW.PrintWords Go.Proofs.YtiahbcaoikoogabDoorW.PrintLast Go.Proofs.YtiahbcaoikoogabDoorW.PrintMore
attribute [local go_sem] A2i A2j A2v A2w A14 A15 A2k A2l
set_option linter.unusedVariables false
set_option linter.unusedSimpArgs false
def xor_window.f (a0 : Int) : Option (Int × Int) := (bits_LeadingZeros64.f a0).bind fun aa => ((bits_TrailingZeros64.f a0).bind fun ac => (some (aa, wrap64 ((wrap64 (64 - aa)) - ac))))
set_option maxHeartbeats 8000000 in
set_option maxRecDepth 100000 in
theorem xor_window.calls (a0 : Int) (r1 : Int) (r2 : Int) (w : World) (hT : TabOk w) (h : xor_window.f a0 = some (r1, r2)) :
  Calls Tryd.prog 50 #[.int .u64 a0] w fun e w' => e = .returned (.tuple #[.int .i64 r1, .int .i64 r2]) ∧ A1y w w' := by
 have HT := ak hT; clear hT; have H : ((bits_LeadingZeros64.f a0).bind fun aa => ((bits_TrailingZeros64.f a0).bind fun ac => (some (aa, wrap64 ((wrap64 (64 - aa)) - ac))))) = some (r1, r2) := h; clear h; replace H := bkH H; obtain ⟨aa, A2, H⟩ := H; replace H := bkH H; obtain ⟨ac, A3, H⟩ := H; simp only [Option.some.injEq, Prod.mk.injEq] at H; obtain ⟨rfl, rfl⟩ := H
 go_enter Tryd.func50, Tryd.ntmps50
 go_wp2_with (first | ((with_reducible refine A0i (f := 63) rfl ?_); refine A09 (some 6) rfl rfl Tryd.func63 (by kernel_rfl) rfl #[.int .u64 a0] rfl km ?_; (with_reducible refine (bits_LeadingZeros64.calls a0 aa _ A2.out).mono ?_); rintro e w' ⟨rfl, ⟨nd, rfl⟩⟩; refine ⟨_, rfl, ?_⟩) | ((with_reducible refine A0i (f := 64) rfl ?_); refine A09 (some 11) rfl rfl Tryd.func64 (by kernel_rfl) rfl #[.int .u64 a0] rfl km ?_; (with_reducible refine (bits_TrailingZeros64.calls a0 ac _ ?ad A3.out).mono ?_); (case ad => exact HT.out); rintro e w' ⟨rfl, ⟨nd, rfl⟩⟩; refine ⟨_, rfl, ?_⟩))
 go_ret2
 exact ⟨by first | rfl | (simp; done) | (simp [*]; done), by repeat (first | exact A1y.refl _ | apply A1y.step)⟩
end Go.Proofs.YtiahbcaoikoogabDoor.All
