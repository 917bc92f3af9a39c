-- declarations that this claim needs, copied by a program of the session
import Derived.Test.YtiahbcaoikoogabDoorKbAllx2
import Derived.Test.YtiahbcaoikoogabDoorKbXw
namespace Go.Proofs.YtiahbcaoikoogabDoor.All
open Go.RowKit Go.Proofs.YtiahbcaoikoogabDoorW.PrintWords Go.Proofs.YtiahbcaoikoogabDoorW.PrintLast Go.Proofs.YtiahbcaoikoogabDoorW.PrintMore
attribute [local go_sem] max2_int min2_int max_two min_two max_three min_three max_four min_four   
set_option linter.unusedVariables false
set_option linter.unusedSimpArgs false
def xor_window.f (a0 : Int) : Option (Int × Int) := (bits_LeadingZeros64.f a0).bind fun t127 => ((bits_TrailingZeros64.f a0).bind fun t128 => (some (t127, wrap64 ((wrap64 (64 - t127)) - t128))))
set_option maxHeartbeats 8000000 in
set_option maxRecDepth 100000 in
theorem xor_window.calls (a0 : Int) (r1 : Int) (r2 : Int) (w : World) (hT : TabOk w) (h : xor_window.f a0 = some (r1, r2)) :
  Calls Tryd.prog 50 #[.int .u64 a0] w fun e w' => e = .returned (.tuple #[.int .i64 r1, .int .i64 r2]) ∧ Drawn0 w w' := by
 have HT := Aside0.mk hT; clear hT; have H : ((bits_LeadingZeros64.f a0).bind fun t127 => ((bits_TrailingZeros64.f a0).bind fun t128 => (some (t127, wrap64 ((wrap64 (64 - t127)) - t128))))) = some (r1, r2) := h; clear h; replace H := Option.bind_eq_some_iff.mp H; obtain ⟨t127, A20, H⟩ := H; replace H : ((bits_TrailingZeros64.f a0).bind fun t128 => (some (t127, wrap64 ((wrap64 (64 - t127)) - t128)))) = some (r1, r2) := H; have A2 := Aside0.mk A20; clear A20; replace H := Option.bind_eq_some_iff.mp H; obtain ⟨t128, A30, H⟩ := H; replace H : (some (t127, wrap64 ((wrap64 (64 - t127)) - t128))) = some (r1, r2) := H; have A3 := Aside0.mk A30; clear A30; simp only [Option.some.injEq, Prod.mk.injEq] at H; obtain ⟨rfl, rfl⟩ := H
 go_enter Tryd.func50, Tryd.ntmps50
 go_wp2_with (first | ((with_reducible refine gate_callee (f := 63) rfl ?_); refine goesL_ (some 6) rfl rfl Tryd.func63 (by kernel_rfl) rfl #[.int .u64 a0] rfl km ?_; (with_reducible refine (bits_LeadingZeros64.calls a0 t127 _ A2.out).mono ?_); rintro e w' ⟨rfl, ⟨nd, rfl⟩⟩; refine ⟨_, rfl, ?_⟩) | ((with_reducible refine gate_callee (f := 64) rfl ?_); refine goesL_ (some 11) rfl rfl Tryd.func64 (by kernel_rfl) rfl #[.int .u64 a0] rfl km ?_; (with_reducible refine (bits_TrailingZeros64.calls a0 t128 _ ?side1 A3.out).mono ?_); (case side1 => exact HT.out); rintro e w' ⟨rfl, ⟨nd, rfl⟩⟩; refine ⟨_, rfl, ?_⟩))
 go_ret2
 exact ⟨by first | rfl | (simp; done) | (simp [*]; done), by repeat (first | exact Drawn0.refl _ | apply Drawn0.step)⟩
end Go.Proofs.YtiahbcaoikoogabDoor.All
