-- copied by a program of the session
import Derived.Test.YtiahbcaoikoogaaDoorKtAllx19
namespace Go.Proofs.YtiahbcaoikoogaaDoor.All
open Go.RowKit Go.Proofs.YtiahbcaoikoogaaDoorW.PrintWords Go.Proofs.YtiahbcaoikoogaaDoorW.PrintLast Go.Proofs.YtiahbcaoikoogaaDoorW.PrintMore
attribute [local go_sem] A2f A2g A2w A2x A18 A19 A2h A2i
set_option linter.unusedVariables false
set_option linter.unusedSimpArgs false
def A0o.l0 : Nat → List Int → Int → Int → Option (Int)
 | 0, _, _, _ => none
 | k + 1, x0, x3, x4 => if x4 < (x0.length : Int) then (if 0 ≤ x4 then (A0o.l0 k x0 (IntKind.u64.wrap ((IntKind.u64.wrap (2 * x3)) + (IntKind.u64.wrap (rd x0 x4)))) (wrap64 (x4 + 1))) else (none)) else (some x3)
def A0o.f (k : Nat) (l0 : List Int) : Option (Int) := A0o.l0 k l0 0 0
set_option maxHeartbeats 8000000 in
set_option maxRecDepth 100000 in
theorem A0o.calls (k : Nat) (A0 : Option Addr) (c0 : Nat) (l0 : List Int) (r : Int) (w : World) (hr0 : Kd.C (Kd.int .u8) w A0 l0.length l0) (hc0 : l0.length ≤ c0) (h : A0o.f k l0 = some r) :
  Calls Tryd.prog 50 #[.slice A0 l0.length c0] w fun e w' => e = .returned (.int .u64 r) ∧ A1c w w' := by
 have al := ak hr0; have an := ak hc0; clear hr0 hc0; have H : (A0o.l0 k l0 0 0) = some r := h; clear h; have H' := ak H; clear H
 go_enter Tryd.func50, Tryd.ntmps50
 go_wp2
 go_loopg [3, 4] k (fun kq v3 v4 w' => ∃ (ac : Int) (x4_1 : Int), v3 = .int .u64 ac ∧ v4 = .int .i64 x4_1 ∧ A0b (A0o.l0 kq l0 ac x4_1 = some r) ∧ A0b (kq ≤ k) ∧ A1c w w')
 case atStart => exact ⟨(0), (0), kE, kE, H', ⟨Nat.le_refl _⟩, by repeat (first | exact A1c.refl _ | apply A1c.step)⟩
 case round =>
  clear H'; obtain ⟨ac, x4_1, rfl, rfl, HA, ai, ⟨m1, rfl⟩⟩ := hrel
  cases gk with
  | zero => exact absurd HA.out (by simp [A0o.l0])
  | succ k1 =>
   have H := HA.out; clear HA; simp only [A0o.l0] at H
   by_cases c2 : x4_1 < (l0.length : Int)
   ·rw [if_pos c2] at H; have ag := decide_eq_true c2; clear c2
    by_cases c3 : 0 ≤ x4_1
    ·rw [if_pos c3] at H; have am := decide_eq_true c3; clear c3; have H' := ak H; clear H; have ae : 0 ≤ (x4_1 : Int) := kD; have ad : x4_1 < (l0.length : Int) := kD; obtain ⟨aj, ah, af⟩ := Kd.A33 al.out x4_1 ae ad
     cases ah
     replace ae := eq_true ae
     (try (have aa := ad; simp only [List.length_drop, List.length_take] at aa; replace aa := eq_true aa)); replace ad := eq_true ad
     go_wp2
     go_roundg k1
     case measure => have := ai.out; omega
     case rel => exact ⟨(IntKind.u64.wrap ((IntKind.u64.wrap (2 * ac)) + (IntKind.u64.wrap (rd l0 x4_1)))), (wrap64 (x4_1 + 1)), kE, kE, H', ⟨by have := ai.out; omega⟩, by repeat (first | exact A1c.refl _ | apply A1c.step)⟩
    ·rw [if_neg c3] at H
     exact absurd H (by simp)
   ·rw [if_neg c2] at H; have ag := decide_eq_false c2; clear c2; obtain rfl := Option.some.inj H
    go_wp2
    go_ret
    exact ⟨by first | rfl | (simp; done) | (simp [*]; done), by repeat (first | exact A1c.refl _ | apply A1c.step)⟩
end Go.Proofs.YtiahbcaoikoogaaDoor.All
