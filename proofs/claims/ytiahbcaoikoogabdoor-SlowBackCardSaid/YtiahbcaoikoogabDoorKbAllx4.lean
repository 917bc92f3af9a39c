-- declarations that this claim needs, copied by a program of the session
import Derived.Test.YtiahbcaoikoogabDoorKbAllx2
namespace Go.Proofs.YtiahbcaoikoogabDoor.All
open Go.RowKit Go.Proofs.YtiahbcaoikoogabDoorW.PrintWords Go.Proofs.YtiahbcaoikoogabDoorW.PrintLast Go.Proofs.YtiahbcaoikoogabDoorW.PrintMore
attribute [local go_sem] max2_int min2_int max_two min_two max_three min_three max_four min_four   
set_option linter.unusedVariables false
set_option linter.unusedSimpArgs false
def dod_body.f (a0 : Int) : Option (Int) := if a0 = 1 then (some 7) else (if a0 = 2 then (some 9) else (if a0 = 3 then (some 12) else (if a0 = 4 then (some 64) else (some 0))))
set_option maxHeartbeats 8000000 in
set_option maxRecDepth 100000 in
theorem dod_body.calls (a0 : Int) (r : Int) (w : World) (h : dod_body.f a0 = some r) :
  Calls Tryd.prog 49 #[.int .i64 a0] w fun e w' => e = .returned (.int .i64 r) ∧ Drawn0 w w' := by
 have H : (if a0 = 1 then (some 7) else (if a0 = 2 then (some 9) else (if a0 = 3 then (some 12) else (if a0 = 4 then (some 64) else (some 0))))) = some r := h; clear h
 by_cases c2 : a0 = 1
 ·rw [if_pos c2] at H; have c2b0 : (a0 == 1) = true := beq_iff_eq.mpr c2; have c2b1 : (a0 != 1) = false := bne_eq_false_iff_eq.mpr c2; clear c2; obtain rfl := Option.some.inj H
  go_enter Tryd.func49, Tryd.ntmps49
  go_wp2
  go_ret
  exact ⟨by first | rfl | (simp; done) | (simp [*]; done), by repeat (first | exact Drawn0.refl _ | apply Drawn0.step)⟩
 ·rw [if_neg c2] at H; have c2b0 : (a0 == 1) = false := beq_eq_false_iff_ne.mpr c2; have c2b1 : (a0 != 1) = true := bne_iff_ne.mpr c2
  by_cases c3 : a0 = 2
  ·rw [if_pos c3] at H; have c3b0 : (a0 == 2) = true := beq_iff_eq.mpr c3; have c3b1 : (a0 != 2) = false := bne_eq_false_iff_eq.mpr c3; clear c3; obtain rfl := Option.some.inj H
   go_enter Tryd.func49, Tryd.ntmps49
   go_wp2
   go_ret
   exact ⟨by first | rfl | (simp; done) | (simp [*]; done), by repeat (first | exact Drawn0.refl _ | apply Drawn0.step)⟩
  ·rw [if_neg c3] at H; have c3b0 : (a0 == 2) = false := beq_eq_false_iff_ne.mpr c3; have c3b1 : (a0 != 2) = true := bne_iff_ne.mpr c3
   by_cases c4 : a0 = 3
   ·rw [if_pos c4] at H; have c4b0 : (a0 == 3) = true := beq_iff_eq.mpr c4; have c4b1 : (a0 != 3) = false := bne_eq_false_iff_eq.mpr c4; clear c4; obtain rfl := Option.some.inj H
    go_enter Tryd.func49, Tryd.ntmps49
    go_wp2
    go_ret
    exact ⟨by first | rfl | (simp; done) | (simp [*]; done), by repeat (first | exact Drawn0.refl _ | apply Drawn0.step)⟩
   ·rw [if_neg c4] at H; have c4b0 : (a0 == 3) = false := beq_eq_false_iff_ne.mpr c4; have c4b1 : (a0 != 3) = true := bne_iff_ne.mpr c4
    by_cases c5 : a0 = 4
    ·rw [if_pos c5] at H; have c5b0 : (a0 == 4) = true := beq_iff_eq.mpr c5; have c5b1 : (a0 != 4) = false := bne_eq_false_iff_eq.mpr c5; clear c5; obtain rfl := Option.some.inj H
     go_enter Tryd.func49, Tryd.ntmps49
     go_wp2
     go_ret
     exact ⟨by first | rfl | (simp; done) | (simp [*]; done), by repeat (first | exact Drawn0.refl _ | apply Drawn0.step)⟩
    ·rw [if_neg c5] at H; have c5b0 : (a0 == 4) = false := beq_eq_false_iff_ne.mpr c5; have c5b1 : (a0 != 4) = true := bne_iff_ne.mpr c5; obtain rfl := Option.some.inj H
     go_enter Tryd.func49, Tryd.ntmps49
     go_wp2
     go_ret
     exact ⟨by first | rfl | (simp; done) | (simp [*]; done), by repeat (first | exact Drawn0.refl _ | apply Drawn0.step)⟩
def dod_ones.l0 : Nat → Int → Int → Option (Int)
 | 0, _, _ => none
 | k + 1, x0, x3 => if x3 < 4 then ((dod_body.f x3).bind fun t107 => (if 0 ≤ (wrap64 (t107 - 1)) then (if x0 ≥ (wrap64 (-(shl .i64 1 (wrap64 (t107 - 1))))) then (if x0 < (shl .i64 1 (wrap64 (t107 - 1))) then (some x3) else (dod_ones.l0 k x0 (wrap64 (x3 + 1)))) else (dod_ones.l0 k x0 (wrap64 (x3 + 1)))) else (none))) else (some 4)
def dod_ones.f (k : Nat) (a0 : Int) : Option (Int) := if a0 = 0 then (some 0) else (dod_ones.l0 k a0 1)
theorem dod_ones.mono_l : ∀ k, (∀ y0 y1, LeO (dod_ones.l0 k y0 y1) (dod_ones.l0 (k + 1) y0 y1))
 | 0 => fun _ _ r h => by simp [dod_ones.l0] at h
 | k + 1 => by
  have ih0 := dod_ones.mono_l k
  ·intro y0 y1
   unfold dod_ones.l0
   repeat' first
   | (with_reducible exact ih0 _ _)
   | (with_reducible exact LeO.refl _)
   | (with_reducible exact LeO.none _)
   | (with_reducible refine LeO.ite ?_ ?_)
   | (with_reducible refine LeO.bind ?_ (fun _ => ?_))
   | exact ih0 _ _
   | exact LeO.none _
   | refine LeO.ite ?_ ?_
   | refine LeO.bind ?_ (fun _ => ?_)
theorem dod_ones.mono : ∀ a0 k, LeO (dod_ones.f k a0) (dod_ones.f (k + 1) a0) := by
 intro a0 k
 have ih0 := dod_ones.mono_l k
 unfold dod_ones.f
 repeat' first
   | (with_reducible exact ih0 _ _)
   | (with_reducible exact LeO.refl _)
   | (with_reducible exact LeO.none _)
   | (with_reducible refine LeO.ite ?_ ?_)
   | (with_reducible refine LeO.bind ?_ (fun _ => ?_))
   | exact ih0 _ _
   | exact LeO.none _
   | refine LeO.ite ?_ ?_
   | refine LeO.bind ?_ (fun _ => ?_)
set_option maxHeartbeats 8000000 in
set_option maxRecDepth 100000 in
theorem dod_ones.calls (k : Nat) (a0 : Int) (r : Int) (w : World) (h : dod_ones.f k a0 = some r) :
  Calls Tryd.prog 48 #[.int .i64 a0] w fun e w' => e = .returned (.int .i64 r) ∧ Drawn0 w w' := by
 have H : (if a0 = 0 then (some 0) else (dod_ones.l0 k a0 1)) = some r := h; clear h
 by_cases c2 : a0 = 0
 ·rw [if_pos c2] at H; have c2b0 : (a0 == 0) = true := beq_iff_eq.mpr c2; have c2b1 : (a0 != 0) = false := bne_eq_false_iff_eq.mpr c2; clear c2; obtain rfl := Option.some.inj H
  go_enter Tryd.func48, Tryd.ntmps48
  go_wp2
  go_ret
  exact ⟨by first | rfl | (simp; done) | (simp [*]; done), by repeat (first | exact Drawn0.refl _ | apply Drawn0.step)⟩
 ·rw [if_neg c2] at H; have c2b0 : (a0 == 0) = false := beq_eq_false_iff_ne.mpr c2; have c2b1 : (a0 != 0) = true := bne_iff_ne.mpr c2; have H' := Aside0.mk H; clear H
  go_enter Tryd.func48, Tryd.ntmps48
  go_wp2
  go_loopg [3] k (fun kq v3 w' => ∃ (x3_1 : Int), v3 = .int .i64 x3_1 ∧ Aside0 (dod_ones.l0 kq a0 x3_1 = some r) ∧ Aside0 (kq ≤ k) ∧ Drawn0 w w')
  case atStart => exact ⟨(1), (by first | rfl | (simp; done) | (simp [*]; done)), H', ⟨Nat.le_refl _⟩, by repeat (first | exact Drawn0.refl _ | apply Drawn0.step)⟩
  case round =>
   clear H'; (try clear c2); (try clear c2b0); (try clear c2b1); (try clear p2); obtain ⟨x3_1, rfl, HA, HK1, ⟨m1, rfl⟩⟩ := hrel
   cases gk with
   | zero => exact absurd HA.out (by simp [dod_ones.l0])
   | succ k1 =>
    have H := HA.out; clear HA; simp only [dod_ones.l0] at H
    by_cases c3 : x3_1 < 4
    ·rw [if_pos c3] at H; have c3b0 : decide (x3_1 < 4) = true := decide_eq_true c3; clear c3; replace H := Option.bind_eq_some_iff.mp H; obtain ⟨t107, A40, H⟩ := H; replace H : (if 0 ≤ (wrap64 (t107 - 1)) then (if a0 ≥ (wrap64 (-(shl .i64 1 (wrap64 (t107 - 1))))) then (if a0 < (shl .i64 1 (wrap64 (t107 - 1))) then (some x3_1) else (dod_ones.l0 k1 a0 (wrap64 (x3_1 + 1)))) else (dod_ones.l0 k1 a0 (wrap64 (x3_1 + 1)))) else (none)) = some r := H; have A4 := Aside0.mk A40; clear A40; obtain ⟨ji5, hji5⟩ : ∃ j_ : Int, (wrap64 (t107 - 1)) = j_ := ⟨_, rfl⟩
     replace H : (if 0 ≤ (ji5) then (if a0 ≥ (wrap64 (-(shl .i64 1 (ji5)))) then (if a0 < (shl .i64 1 (ji5)) then (some x3_1) else (dod_ones.l0 k1 a0 (wrap64 (x3_1 + 1)))) else (dod_ones.l0 k1 a0 (wrap64 (x3_1 + 1)))) else (none)) = some r := by first | (rw [hji5] at H; exact H) | (simp only [hji5] at H ⊢; exact H)
     (try rw [hji5] at A4); have hji5w : (IntKind.i64.wrap (t107 - 1)) = ji5 := (i64_w _).trans hji5
     by_cases c6 : 0 ≤ (ji5)
     ·rw [if_pos c6] at H; have c6b0 := eq_true c6; have c6b1 : decide (0 ≤ (ji5)) = true := decide_eq_true c6; clear c6; obtain ⟨ji7, hji7⟩ : ∃ j_ : Int, (shl .i64 1 (ji5)) = j_ := ⟨_, rfl⟩
      replace H : (if a0 ≥ (wrap64 (-(ji7))) then (if a0 < (ji7) then (some x3_1) else (dod_ones.l0 k1 a0 (wrap64 (x3_1 + 1)))) else (dod_ones.l0 k1 a0 (wrap64 (x3_1 + 1)))) = some r := by first | (rw [hji7] at H; exact H) | (simp only [hji7] at H ⊢; exact H)
      (try rw [hji7] at A4); have hji7_ : (IntKind.i64.wrap (1 * 2 ^ min (ji5).toNat 64)) = ji7 := hji7; have hji7z : (ji5) ≤ 64 → (IntKind.i64.wrap (1 * 2 ^ (ji5).toNat)) = ji7 := shl_small hji7
      have hji7u : (IntKind.i64.wrap (2 ^ min (ji5).toNat 64)) = ji7 := by have h_ := hji7_; rw [Int.one_mul] at h_; exact h_
      have hji7v : (ji5) ≤ 64 → (IntKind.i64.wrap (2 ^ (ji5).toNat)) = ji7 := fun hle_ => by have h_ := hji7z hle_; rw [Int.one_mul] at h_; exact h_
      have hji7y : (wrap64 (1 * 2 ^ min (ji5).toNat 64)) = ji7 := (i64_w _).symm.trans hji7_
      have hji7x : (ji5) ≤ 64 → (wrap64 (1 * 2 ^ (ji5).toNat)) = ji7 := fun h_ => (i64_w _).symm.trans (hji7z h_)
      by_cases c8 : a0 ≥ (wrap64 (-(ji7)))
      ·rw [if_pos c8] at H; have c8b0 : decide ((wrap64 (-(ji7))) ≤ a0) = true := decide_eq_true c8; clear c8
       by_cases c9 : a0 < (ji7)
       ·rw [if_pos c9] at H; have c9b0 : decide (a0 < (ji7)) = true := decide_eq_true c9; clear c9; obtain rfl := Option.some.inj H
        go_wp2_with (first | ((with_reducible refine gate_callee (f := 49) rfl ?_); refine goesL_ (some 12) rfl rfl Tryd.func49 (by kernel_rfl) rfl #[.int .i64 x3_1] rfl km ?_; (with_reducible refine (dod_body.calls x3_1 t107 _ A4.out).mono ?_); rintro e w' ⟨rfl, ⟨nd, rfl⟩⟩; refine ⟨_, rfl, ?_⟩))
        go_ret
        exact ⟨by first | rfl | (simp; done) | (simp only [← hji5, ← hji7] <;> (first | rfl | simp)) | (simp [*]; done), by repeat (first | exact Drawn0.refl _ | apply Drawn0.step)⟩
       ·rw [if_neg c9] at H; have c9b0 : decide (a0 < (ji7)) = false := decide_eq_false c9; clear c9; have H' := Aside0.mk H; clear H
        go_wp2_with (first | ((with_reducible refine gate_callee (f := 49) rfl ?_); refine goesL_ (some 12) rfl rfl Tryd.func49 (by kernel_rfl) rfl #[.int .i64 x3_1] rfl km ?_; (with_reducible refine (dod_body.calls x3_1 t107 _ A4.out).mono ?_); rintro e w' ⟨rfl, ⟨nd, rfl⟩⟩; refine ⟨_, rfl, ?_⟩))
        go_roundg k1
        case measure => have := HK1.out; omega
        case rel => exact ⟨(wrap64 (x3_1 + 1)), (by first | rfl | (simp; done) | (simp [*]; done)), H', ⟨by have := HK1.out; omega⟩, by repeat (first | exact Drawn0.refl _ | apply Drawn0.step)⟩
      ·rw [if_neg c8] at H; have c8b0 : decide ((wrap64 (-(ji7))) ≤ a0) = false := decide_eq_false c8; clear c8; have H' := Aside0.mk H; clear H
       go_wp2_with (first | ((with_reducible refine gate_callee (f := 49) rfl ?_); refine goesL_ (some 12) rfl rfl Tryd.func49 (by kernel_rfl) rfl #[.int .i64 x3_1] rfl km ?_; (with_reducible refine (dod_body.calls x3_1 t107 _ A4.out).mono ?_); rintro e w' ⟨rfl, ⟨nd, rfl⟩⟩; refine ⟨_, rfl, ?_⟩))
       go_roundg k1
       case measure => have := HK1.out; omega
       case rel => exact ⟨(wrap64 (x3_1 + 1)), (by first | rfl | (simp; done) | (simp [*]; done)), H', ⟨by have := HK1.out; omega⟩, by repeat (first | exact Drawn0.refl _ | apply Drawn0.step)⟩
     ·rw [if_neg c6] at H
      exact absurd H (by simp)
    ·rw [if_neg c3] at H; have c3b0 : decide (x3_1 < 4) = false := decide_eq_false c3; clear c3; obtain rfl := Option.some.inj H
     go_wp2
     go_ret
     exact ⟨by first | rfl | (simp; done) | (simp [*]; done), by repeat (first | exact Drawn0.refl _ | apply Drawn0.step)⟩
mutual
def dod_Get.j2 : Nat → List Int → Int → Int → Int → Option (Int × Int × Option Int)
 | 0, _, _, _, _ => none
 | k + 1, x0, x1, x7, x8 => (dod_body.f x7).bind fun t110 => ((bits_Take.f k x0 (wrap64 (x1 + x8)) t110).bind fun bt111 => (if bt111.2 = true then (if t110 > 0 then (if 0 ≤ (wrap64 (64 - t110)) then ((dod_ones.f k (shr .i64 (wrap64 (shl .u64 bt111.1 (wrap64 (64 - t110)))) (wrap64 (64 - t110)))).bind fun t113 => (if t113 = x7 then (some (shr .i64 (wrap64 (shl .u64 bt111.1 (wrap64 (64 - t110)))) (wrap64 (64 - t110)), wrap64 (x8 + t110), none)) else (some (0, 0, some 3)))) else (none)) else ((dod_ones.f k (wrap64 (bt111.1))).bind fun t114 => (if t114 = x7 then (some (wrap64 (bt111.1), wrap64 (x8 + t110), none)) else (some (0, 0, some 3))))) else (some (0, 0, some 2))))
def dod_Get.l0 : Nat → List Int → Int → Int → Int → Option (Int × Int × Option Int)
 | 0, _, _, _, _ => none
 | k + 1, x0, x1, x7, x8 => if x7 < 4 then ((bits_Take.f k x0 (wrap64 (x1 + x8)) 1).bind fun bt108 => (if x1 < 0 then (dod_Get.j1 k x0 x1 x7 x8 bt108.1 true) else (dod_Get.j1 k x0 x1 x7 x8 bt108.1 (!bt108.2)))) else (dod_Get.j2 k x0 x1 x7 x8)
def dod_Get.j1 : Nat → List Int → Int → Int → Int → Int → Bool → Option (Int × Int × Option Int)
 | 0, _, _, _, _, _, _ => none
 | k + 1, x0, x1, x7, x8, x9, x30 => if x30 = true then (some (0, 0, some 2)) else (if x9 = 0 then (dod_Get.j2 k x0 x1 x7 (wrap64 (x8 + 1))) else (dod_Get.l0 k x0 x1 (wrap64 (x7 + 1)) (wrap64 (x8 + 1))))
end
def dod_Get.f (k : Nat) (l0 : List Int) (a1 : Int) : Option (Int × Int × Option Int) := dod_Get.l0 k l0 a1 0 0
theorem dod_Get.mono_l : ∀ k, (∀ y0 y1 y2 y3, LeO (dod_Get.j2 k y0 y1 y2 y3) (dod_Get.j2 (k + 1) y0 y1 y2 y3)) ∧ (∀ y0 y1 y2 y3, LeO (dod_Get.l0 k y0 y1 y2 y3) (dod_Get.l0 (k + 1) y0 y1 y2 y3)) ∧ (∀ y0 y1 y2 y3 y4 y5, LeO (dod_Get.j1 k y0 y1 y2 y3 y4 y5) (dod_Get.j1 (k + 1) y0 y1 y2 y3 y4 y5))
 | 0 => ⟨fun _ _ _ _ r h => by simp [dod_Get.j2] at h, fun _ _ _ _ r h => by simp [dod_Get.l0] at h, fun _ _ _ _ _ _ r h => by simp [dod_Get.j1] at h⟩
 | k + 1 => by
  obtain ⟨ih0, ih1, ih2⟩ := dod_Get.mono_l k
  refine ⟨?_, ?_, ?_⟩
  ·intro y0 y1 y2 y3
   unfold dod_Get.j2
   repeat' first
   | (with_reducible exact ih0 _ _ _ _)
   | (with_reducible exact ih1 _ _ _ _)
   | (with_reducible exact ih2 _ _ _ _ _ _)
   | (with_reducible exact bits_Take.mono _ _ _ _)
   | (with_reducible exact dod_ones.mono _ _)
   | (with_reducible exact LeO.refl _)
   | (with_reducible exact LeO.none _)
   | (with_reducible refine LeO.ite ?_ ?_)
   | (with_reducible refine LeO.bind ?_ (fun _ => ?_))
   | exact ih0 _ _ _ _
   | exact ih1 _ _ _ _
   | exact ih2 _ _ _ _ _ _
   | exact bits_Take.mono _ _ _ _
   | exact dod_ones.mono _ _
   | exact LeO.none _
   | refine LeO.ite ?_ ?_
   | refine LeO.bind ?_ (fun _ => ?_)
  ·intro y0 y1 y2 y3
   unfold dod_Get.l0
   repeat' first
   | (with_reducible exact ih0 _ _ _ _)
   | (with_reducible exact ih1 _ _ _ _)
   | (with_reducible exact ih2 _ _ _ _ _ _)
   | (with_reducible exact bits_Take.mono _ _ _ _)
   | (with_reducible exact dod_ones.mono _ _)
   | (with_reducible exact LeO.refl _)
   | (with_reducible exact LeO.none _)
   | (with_reducible refine LeO.ite ?_ ?_)
   | (with_reducible refine LeO.bind ?_ (fun _ => ?_))
   | exact ih0 _ _ _ _
   | exact ih1 _ _ _ _
   | exact ih2 _ _ _ _ _ _
   | exact bits_Take.mono _ _ _ _
   | exact dod_ones.mono _ _
   | exact LeO.none _
   | refine LeO.ite ?_ ?_
   | refine LeO.bind ?_ (fun _ => ?_)
  ·intro y0 y1 y2 y3 y4 y5
   unfold dod_Get.j1
   repeat' first
   | (with_reducible exact ih0 _ _ _ _)
   | (with_reducible exact ih1 _ _ _ _)
   | (with_reducible exact ih2 _ _ _ _ _ _)
   | (with_reducible exact bits_Take.mono _ _ _ _)
   | (with_reducible exact dod_ones.mono _ _)
   | (with_reducible exact LeO.refl _)
   | (with_reducible exact LeO.none _)
   | (with_reducible refine LeO.ite ?_ ?_)
   | (with_reducible refine LeO.bind ?_ (fun _ => ?_))
   | exact ih0 _ _ _ _
   | exact ih1 _ _ _ _
   | exact ih2 _ _ _ _ _ _
   | exact bits_Take.mono _ _ _ _
   | exact dod_ones.mono _ _
   | exact LeO.none _
   | refine LeO.ite ?_ ?_
   | refine LeO.bind ?_ (fun _ => ?_)
theorem dod_Get.mono : ∀ a0 a1 k, LeO (dod_Get.f k a0 a1) (dod_Get.f (k + 1) a0 a1) := by
 intro a0 a1 k
 obtain ⟨ih0, ih1, ih2⟩ := dod_Get.mono_l k
 unfold dod_Get.f
 repeat' first
   | (with_reducible exact ih0 _ _ _ _)
   | (with_reducible exact ih1 _ _ _ _)
   | (with_reducible exact ih2 _ _ _ _ _ _)
   | (with_reducible exact bits_Take.mono _ _ _ _)
   | (with_reducible exact dod_ones.mono _ _)
   | (with_reducible exact LeO.refl _)
   | (with_reducible exact LeO.none _)
   | (with_reducible refine LeO.ite ?_ ?_)
   | (with_reducible refine LeO.bind ?_ (fun _ => ?_))
   | exact ih0 _ _ _ _
   | exact ih1 _ _ _ _
   | exact ih2 _ _ _ _ _ _
   | exact bits_Take.mono _ _ _ _
   | exact dod_ones.mono _ _
   | exact LeO.none _
   | refine LeO.ite ?_ ?_
   | refine LeO.bind ?_ (fun _ => ?_)
set_option maxHeartbeats 8000000 in
set_option maxRecDepth 100000 in
theorem dod_Get.calls (k : Nat) (A0 : Option Addr) (c0 : Nat) (l0 : List Int) (a1 : Int) (r1 : Int) (r2 : Int) (r3 : Option Int) (w : World) (hr0 : Kd.C (Kd.int .u8) w A0 l0.length l0) (hc0 : l0.length ≤ c0) (h : dod_Get.f k l0 a1 = some (r1, r2, r3)) :
  Calls Tryd.prog 46 #[.slice A0 l0.length c0, .int .i64 a1] w fun e w' => e = .returned (.tuple #[.int .i64 r1, .int .i64 r2, errW r3]) ∧ Drawn0 w w' := by
 have hu27 := Tryd.underlying27; have hu54 := Tryd.underlying54; have HR0 := Aside0.mk hr0; have HC0 := Aside0.mk hc0; clear hr0 hc0; have H : (dod_Get.l0 k l0 a1 0 0) = some (r1, r2, r3) := h; clear h; have HC3 := Aside0.mk H; clear H
 go_enter Tryd.func46, Tryd.ntmps46
 go_upto_block 0 with (fail)
 go_cut [7, 8] (fun v7 v8 wc => ∃ (kq : Nat) (x7_2 : Int) (x8_2 : Int), v7 = .int .i64 x7_2 ∧ v8 = .int .i64 x8_2 ∧ Aside0 (dod_Get.j2 kq l0 a1 x7_2 x8_2 = some (r1, r2, r3)) ∧ Aside0 (kq ≤ k) ∧ Drawn0 w wc)
 case first =>
  have H := HC3.out; clear HC3; have H' := Aside0.mk H; clear H
  go_wp2
  go_loopg [7, 8] k (fun kq v7 v8 w' => ∃ (x7_1 : Int) (x8_1 : Int), v7 = .int .i64 x7_1 ∧ v8 = .int .i64 x8_1 ∧ Aside0 (dod_Get.l0 kq l0 a1 x7_1 x8_1 = some (r1, r2, r3)) ∧ Aside0 (kq ≤ k) ∧ Drawn0 w w')
  case atStart => exact ⟨(0), (0), (by first | rfl | (simp; done) | (simp [*]; done)), (by first | rfl | (simp; done) | (simp [*]; done)), H', ⟨Nat.le_refl _⟩, by repeat (first | exact Drawn0.refl _ | apply Drawn0.step)⟩
  case round =>
   clear H'; (try clear p2); obtain ⟨x7_1, x8_1, rfl, rfl, HA, HK1, ⟨m1, rfl⟩⟩ := hrel
   cases gk with
   | zero => exact absurd HA.out (by simp [dod_Get.l0])
   | succ k1 =>
    have H := HA.out; clear HA; simp only [dod_Get.l0] at H
    by_cases c4 : x7_1 < 4
    ·rw [if_pos c4] at H; have c4b0 : decide (x7_1 < 4) = true := decide_eq_true c4; clear c4
     (first | rw [c4b0] | (simp only [i64_w, i32_w]; rw [c4b0]) | skip)
     replace H := Option.bind_eq_some_iff.mp H; obtain ⟨⟨t108, t109⟩, A50, H⟩ := H; replace H : (if a1 < 0 then (dod_Get.j1 k1 l0 a1 x7_1 x8_1 t108 true) else (dod_Get.j1 k1 l0 a1 x7_1 x8_1 t108 (!t109))) = some (r1, r2, r3) := H; have A5 := Aside0.mk A50; clear A50; have HC6 := Aside0.mk H; clear H
     go_upto_region 4 with (first | ((with_reducible refine gate_callee (f := 24) rfl ?_); refine goesL_ (some 22) rfl rfl Tryd.func24 (by kernel_rfl) rfl #[.slice A0 l0.length c0, .int .i64 (wrap64 (a1 + x8_1)), .int .i64 1] rfl km ?_; (with_reducible refine (bits_Take.calls k1 _ _ l0 (wrap64 (a1 + x8_1)) 1 t108 t109 _ ?side1 ?side2 A5.out).mono ?_); (case side1 => repeat (first | exact HR0.out | (with_reducible refine Kd.C_alloc ?_ _) | (with_reducible refine Kd.C_drewN ?_ _) | (with_reducible refine Kd.C_drew ?_))); (case side2 => exact HC0.out); rintro e w' ⟨rfl, ⟨nd, rfl⟩⟩; refine ⟨_, rfl, ?_⟩))
     (try simp only [Act.put, List.setIfInBounds_toArray, List.set_cons_zero, List.set_cons_succ])
     go_cut [30] (fun v30 wc => ∃ (kq : Nat) (x30_5 : Bool), v30 = .bool x30_5 ∧ Aside0 (dod_Get.j1 kq l0 a1 x7_1 x8_1 t108 x30_5 = some (r1, r2, r3)) ∧ Aside0 (kq ≤ k1) ∧ Drawn0 w wc)
     case first =>
      have H := HC6.out; clear HC6
      by_cases c7 : a1 < 0
      ·rw [if_pos c7] at H; have c7b0 : decide (a1 < 0) = true := decide_eq_true c7; clear c7
       (first | rw [c7b0] | (simp only [i64_w, i32_w]; rw [c7b0]) | skip)
       have H' := Aside0.mk H; clear H
       go_wp2
       go_meet
       case rel => exact ⟨_, (true), (by first | rfl | (simp; done) | (simp [*]; done)), H', ⟨by have := HK1.out; first | omega | exact Nat.le_refl _⟩, by repeat (first | exact Drawn0.refl _ | apply Drawn0.step)⟩
      ·rw [if_neg c7] at H; have c7b0 : decide (a1 < 0) = false := decide_eq_false c7; clear c7
       (first | rw [c7b0] | (simp only [i64_w, i32_w]; rw [c7b0]) | skip)
       have H' := Aside0.mk H; clear H
       go_wp2
       go_meet
       case rel => exact ⟨_, (!t109), (by first | rfl | (simp; done) | (simp [*]; done)), H', ⟨by have := HK1.out; first | omega | exact Nat.le_refl _⟩, by repeat (first | exact Drawn0.refl _ | apply Drawn0.step)⟩
     case rest =>
      clear HC6; (try clear c2); (try clear p2); (try clear c4); (try clear c4b0); (try clear p6); (try clear c7); (try clear c7b0); (try clear p2); obtain ⟨kq, x30_5, rfl, HA, HJ5, ⟨mc5, rfl⟩⟩ := hcut
      cases kq with
      | zero => exact absurd HA.out (by simp [dod_Get.j1])
      | succ kj5 =>
       have H := HA.out; clear HA; simp only [dod_Get.j1] at H
       by_cases c8 : x30_5 = true
       ·subst c8
        have H1 : (some (0, 0, some 2)) = some (r1, r2, r3) := by rw [if_pos rfl] at H; exact H
        clear H; have H := H1; clear H1; simp only [Option.some.injEq, Prod.mk.injEq] at H; obtain ⟨rfl, rfl, rfl⟩ := H
        go_wp2
        go_ret3
        exact ⟨by first | rfl | (simp; done) | (simp [*]; done), by repeat (first | exact Drawn0.refl _ | apply Drawn0.step)⟩
       ·replace c8 := Bool.eq_false_iff.mpr c8; subst c8
        have H1 : (if t108 = 0 then (dod_Get.j2 kj5 l0 a1 x7_1 (wrap64 (x8_1 + 1))) else (dod_Get.l0 kj5 l0 a1 (wrap64 (x7_1 + 1)) (wrap64 (x8_1 + 1)))) = some (r1, r2, r3) := by rw [if_neg (show ¬ (false = true) by decide)] at H; exact H
        clear H; have H := H1; clear H1
        by_cases c9 : t108 = 0
        ·rw [if_pos c9] at H; have c9b0 : (t108 == 0) = true := beq_iff_eq.mpr c9; have c9b1 : (t108 != 0) = false := bne_eq_false_iff_eq.mpr c9; clear c9; have H' := Aside0.mk H; clear H
         go_wp2
         go_meet
         case rel => exact ⟨_, (x7_1), (wrap64 (x8_1 + 1)), (by first | rfl | (simp; done) | (simp [*]; done)), (by first | rfl | (simp; done) | (simp [*]; done)), H', ⟨by have := HK1.out; have := HJ5.out; first | omega | exact Nat.le_refl _⟩, by repeat (first | exact Drawn0.refl _ | apply Drawn0.step)⟩
        ·rw [if_neg c9] at H; have c9b0 : (t108 == 0) = false := beq_eq_false_iff_ne.mpr c9; have c9b1 : (t108 != 0) = true := bne_iff_ne.mpr c9; have H' := Aside0.mk H; clear H
         go_wp2
         go_roundg kj5
         case measure => have := HK1.out; have := HJ5.out; omega
         case rel => exact ⟨(wrap64 (x7_1 + 1)), (wrap64 (x8_1 + 1)), (by first | rfl | (simp; done) | (simp [*]; done)), (by first | rfl | (simp; done) | (simp [*]; done)), H', ⟨by have := HK1.out; have := HJ5.out; omega⟩, by repeat (first | exact Drawn0.refl _ | apply Drawn0.step)⟩
    ·rw [if_neg c4] at H; have c4b0 : decide (x7_1 < 4) = false := decide_eq_false c4; clear c4
     (first | rw [c4b0] | (simp only [i64_w, i32_w]; rw [c4b0]) | skip)
     have H' := Aside0.mk H; clear H
     go_wp2
     go_meet
     case rel => exact ⟨_, (x7_1), (x8_1), (by first | rfl | (simp; done) | (simp [*]; done)), (by first | rfl | (simp; done) | (simp [*]; done)), H', ⟨by have := HK1.out; first | omega | exact Nat.le_refl _⟩, by repeat (first | exact Drawn0.refl _ | apply Drawn0.step)⟩
 case rest =>
  clear HC3; (try clear c2); (try clear p2); (try clear c4); (try clear c4b0); (try clear c5); (try clear p6); (try clear c7); (try clear c7b0); (try clear c8); (try clear c9); (try clear c9b0); (try clear c9b1); (try clear p2); (try clear p6); obtain ⟨kq, x7_2, x8_2, rfl, rfl, HA, HJ2, ⟨mc2, rfl⟩⟩ := hcut
  cases kq with
  | zero => exact absurd HA.out (by simp [dod_Get.j2])
  | succ kj2 =>
   have H := HA.out; clear HA; simp only [dod_Get.j2] at H; replace H := Option.bind_eq_some_iff.mp H; obtain ⟨t110, A100, H⟩ := H; replace H : ((bits_Take.f kj2 l0 (wrap64 (a1 + x8_2)) t110).bind fun bt111 => (if bt111.2 = true then (if t110 > 0 then (if 0 ≤ (wrap64 (64 - t110)) then ((dod_ones.f kj2 (shr .i64 (wrap64 (shl .u64 bt111.1 (wrap64 (64 - t110)))) (wrap64 (64 - t110)))).bind fun t113 => (if t113 = x7_2 then (some (shr .i64 (wrap64 (shl .u64 bt111.1 (wrap64 (64 - t110)))) (wrap64 (64 - t110)), wrap64 (x8_2 + t110), none)) else (some (0, 0, some 3)))) else (none)) else ((dod_ones.f kj2 (wrap64 (bt111.1))).bind fun t114 => (if t114 = x7_2 then (some (wrap64 (bt111.1), wrap64 (x8_2 + t110), none)) else (some (0, 0, some 3))))) else (some (0, 0, some 2)))) = some (r1, r2, r3) := H; have A10 := Aside0.mk A100; clear A100; replace H := Option.bind_eq_some_iff.mp H; obtain ⟨⟨t111, t112⟩, A110, H⟩ := H; replace H : (if t112 = true then (if t110 > 0 then (if 0 ≤ (wrap64 (64 - t110)) then ((dod_ones.f kj2 (shr .i64 (wrap64 (shl .u64 t111 (wrap64 (64 - t110)))) (wrap64 (64 - t110)))).bind fun t113 => (if t113 = x7_2 then (some (shr .i64 (wrap64 (shl .u64 t111 (wrap64 (64 - t110)))) (wrap64 (64 - t110)), wrap64 (x8_2 + t110), none)) else (some (0, 0, some 3)))) else (none)) else ((dod_ones.f kj2 (wrap64 (t111))).bind fun t114 => (if t114 = x7_2 then (some (wrap64 (t111), wrap64 (x8_2 + t110), none)) else (some (0, 0, some 3))))) else (some (0, 0, some 2))) = some (r1, r2, r3) := H; have A11 := Aside0.mk A110; clear A110
   by_cases c12 : t112 = true
   ·subst c12
    have H1 : (if t110 > 0 then (if 0 ≤ (wrap64 (64 - t110)) then ((dod_ones.f kj2 (shr .i64 (wrap64 (shl .u64 t111 (wrap64 (64 - t110)))) (wrap64 (64 - t110)))).bind fun t113 => (if t113 = x7_2 then (some (shr .i64 (wrap64 (shl .u64 t111 (wrap64 (64 - t110)))) (wrap64 (64 - t110)), wrap64 (x8_2 + t110), none)) else (some (0, 0, some 3)))) else (none)) else ((dod_ones.f kj2 (wrap64 (t111))).bind fun t114 => (if t114 = x7_2 then (some (wrap64 (t111), wrap64 (x8_2 + t110), none)) else (some (0, 0, some 3))))) = some (r1, r2, r3) := by rw [if_pos rfl] at H; exact H
    clear H; have H := H1; clear H1
    by_cases c13 : t110 > 0
    ·rw [if_pos c13] at H; have c13b0 : decide (0 < t110) = true := decide_eq_true c13; clear c13; obtain ⟨ji14, hji14⟩ : ∃ j_ : Int, (wrap64 (64 - t110)) = j_ := ⟨_, rfl⟩
     replace H : (if 0 ≤ (ji14) then ((dod_ones.f kj2 (shr .i64 (wrap64 (shl .u64 t111 (ji14))) (ji14))).bind fun t113 => (if t113 = x7_2 then (some (shr .i64 (wrap64 (shl .u64 t111 (ji14))) (ji14), wrap64 (x8_2 + t110), none)) else (some (0, 0, some 3)))) else (none)) = some (r1, r2, r3) := by first | (rw [hji14] at H; exact H) | (simp only [hji14] at H ⊢; exact H)
     (try rw [hji14] at A10); (try rw [hji14] at A11); have hji14w : (IntKind.i64.wrap (64 - t110)) = ji14 := (i64_w _).trans hji14
     by_cases c15 : 0 ≤ (ji14)
     ·rw [if_pos c15] at H; have c15b0 := eq_true c15; have c15b1 : decide (0 ≤ (ji14)) = true := decide_eq_true c15; clear c15; obtain ⟨ji16, hji16⟩ : ∃ j_ : Int, (shl .u64 t111 (ji14)) = j_ := ⟨_, rfl⟩
      replace H : ((dod_ones.f kj2 (shr .i64 (wrap64 (ji16)) (ji14))).bind fun t113 => (if t113 = x7_2 then (some (shr .i64 (wrap64 (ji16)) (ji14), wrap64 (x8_2 + t110), none)) else (some (0, 0, some 3)))) = some (r1, r2, r3) := by first | (rw [hji16] at H; exact H) | (simp only [hji16] at H ⊢; exact H)
      (try rw [hji16] at A10); (try rw [hji16] at A11); have hji16_ : (IntKind.u64.wrap (t111 * 2 ^ min (ji14).toNat 64)) = ji16 := hji16; have hji16z : (ji14) ≤ 64 → (IntKind.u64.wrap (t111 * 2 ^ (ji14).toNat)) = ji16 := shl_small hji16; have c17b0 := eq_true (of_decide_eq_true (by first | (with_reducible assumption) | assumption) : 0 ≤ (ji14)); obtain ⟨ji18, hji18⟩ : ∃ j_ : Int, (shr .i64 (wrap64 (ji16)) (ji14)) = j_ := ⟨_, rfl⟩
      replace H : ((dod_ones.f kj2 (ji18)).bind fun t113 => (if t113 = x7_2 then (some (ji18, wrap64 (x8_2 + t110), none)) else (some (0, 0, some 3)))) = some (r1, r2, r3) := by first | (rw [hji18] at H; exact H) | (simp only [hji18] at H ⊢; exact H)
      (try rw [hji18] at A10); (try rw [hji18] at A11); have hji18_ : ((wrap64 (ji16)) / 2 ^ min (ji14).toNat 64) = ji18 := hji18; have hji18z : (ji14) ≤ 64 → ((wrap64 (ji16)) / 2 ^ (ji14).toNat) = ji18 := shr_small hji18; replace H := Option.bind_eq_some_iff.mp H; obtain ⟨t113, A190, H⟩ := H; replace H : (if t113 = x7_2 then (some (ji18, wrap64 (x8_2 + t110), none)) else (some (0, 0, some 3))) = some (r1, r2, r3) := H; have A19 := Aside0.mk A190; clear A190
      by_cases c20 : t113 = x7_2
      ·rw [if_pos c20] at H; have c20b0 : (t113 == x7_2) = true := beq_iff_eq.mpr c20; have c20b1 : (t113 != x7_2) = false := bne_eq_false_iff_eq.mpr c20; clear c20; simp only [Option.some.injEq, Prod.mk.injEq] at H; obtain ⟨rfl, rfl, rfl⟩ := H
       go_wp2_with (first | ((with_reducible refine gate_callee (f := 49) rfl ?_); refine goesL_ (some 39) rfl rfl Tryd.func49 (by kernel_rfl) rfl #[.int .i64 x7_2] rfl km ?_; (with_reducible refine (dod_body.calls x7_2 t110 _ A10.out).mono ?_); rintro e w' ⟨rfl, ⟨nd, rfl⟩⟩; refine ⟨_, rfl, ?_⟩) | ((with_reducible refine gate_callee (f := 24) rfl ?_); refine goesL_ (some 46) rfl rfl Tryd.func24 (by kernel_rfl) rfl #[.slice A0 l0.length c0, .int .i64 (wrap64 (a1 + x8_2)), .int .i64 t110] rfl km ?_; (with_reducible refine (bits_Take.calls kj2 _ _ l0 (wrap64 (a1 + x8_2)) t110 t111 true _ ?side1 ?side2 A11.out).mono ?_); (case side1 => repeat (first | exact HR0.out | (with_reducible refine Kd.C_alloc ?_ _) | (with_reducible refine Kd.C_drewN ?_ _) | (with_reducible refine Kd.C_drew ?_))); (case side2 => exact HC0.out); rintro e w' ⟨rfl, ⟨nd, rfl⟩⟩; refine ⟨_, rfl, ?_⟩) | ((with_reducible refine gate_callee (f := 48) rfl ?_); refine goesL_ (some 65) rfl rfl Tryd.func48 (by kernel_rfl) rfl #[.int .i64 ji18] rfl (by (try simp only [List.map_toArray, List.map_cons, List.map_nil]); first | done | (simp only [hji18]; rfl) | rfl | (simp only [List.length_drop, List.length_take]; rfl)) ?_; (with_reducible refine (dod_ones.calls kj2 ji18 t113 _ A19.out).mono ?_); rintro e w' ⟨rfl, ⟨nd, rfl⟩⟩; refine ⟨_, rfl, ?_⟩))
       go_ret3
       exact ⟨by first | rfl | (simp; done) | (simp only [← hji14, ← hji16, ← hji18] <;> (first | rfl | simp)) | (simp [*]; done), by repeat (first | exact Drawn0.refl _ | apply Drawn0.step)⟩
      ·rw [if_neg c20] at H; have c20b0 : (t113 == x7_2) = false := beq_eq_false_iff_ne.mpr c20; have c20b1 : (t113 != x7_2) = true := bne_iff_ne.mpr c20; simp only [Option.some.injEq, Prod.mk.injEq] at H; obtain ⟨rfl, rfl, rfl⟩ := H
       go_wp2_with (first | ((with_reducible refine gate_callee (f := 49) rfl ?_); refine goesL_ (some 39) rfl rfl Tryd.func49 (by kernel_rfl) rfl #[.int .i64 x7_2] rfl km ?_; (with_reducible refine (dod_body.calls x7_2 t110 _ A10.out).mono ?_); rintro e w' ⟨rfl, ⟨nd, rfl⟩⟩; refine ⟨_, rfl, ?_⟩) | ((with_reducible refine gate_callee (f := 24) rfl ?_); refine goesL_ (some 46) rfl rfl Tryd.func24 (by kernel_rfl) rfl #[.slice A0 l0.length c0, .int .i64 (wrap64 (a1 + x8_2)), .int .i64 t110] rfl km ?_; (with_reducible refine (bits_Take.calls kj2 _ _ l0 (wrap64 (a1 + x8_2)) t110 t111 true _ ?side1 ?side2 A11.out).mono ?_); (case side1 => repeat (first | exact HR0.out | (with_reducible refine Kd.C_alloc ?_ _) | (with_reducible refine Kd.C_drewN ?_ _) | (with_reducible refine Kd.C_drew ?_))); (case side2 => exact HC0.out); rintro e w' ⟨rfl, ⟨nd, rfl⟩⟩; refine ⟨_, rfl, ?_⟩) | ((with_reducible refine gate_callee (f := 48) rfl ?_); refine goesL_ (some 65) rfl rfl Tryd.func48 (by kernel_rfl) rfl #[.int .i64 ji18] rfl (by (try simp only [List.map_toArray, List.map_cons, List.map_nil]); first | done | (simp only [hji18]; rfl) | rfl | (simp only [List.length_drop, List.length_take]; rfl)) ?_; (with_reducible refine (dod_ones.calls kj2 ji18 t113 _ A19.out).mono ?_); rintro e w' ⟨rfl, ⟨nd, rfl⟩⟩; refine ⟨_, rfl, ?_⟩))
       go_ret3
       exact ⟨by first | rfl | (simp; done) | (simp only [← hji14, ← hji16, ← hji18] <;> (first | rfl | simp)) | (simp [*]; done), by repeat (first | exact Drawn0.refl _ | apply Drawn0.step)⟩
     ·rw [if_neg c15] at H
      exact absurd H (by simp)
    ·rw [if_neg c13] at H; have c13b0 : decide (0 < t110) = false := decide_eq_false c13; clear c13; replace H := Option.bind_eq_some_iff.mp H; obtain ⟨t114, A210, H⟩ := H; replace H : (if t114 = x7_2 then (some (wrap64 (t111), wrap64 (x8_2 + t110), none)) else (some (0, 0, some 3))) = some (r1, r2, r3) := H; have A21 := Aside0.mk A210; clear A210
     by_cases c22 : t114 = x7_2
     ·rw [if_pos c22] at H; have c22b0 : (t114 == x7_2) = true := beq_iff_eq.mpr c22; have c22b1 : (t114 != x7_2) = false := bne_eq_false_iff_eq.mpr c22; clear c22; simp only [Option.some.injEq, Prod.mk.injEq] at H; obtain ⟨rfl, rfl, rfl⟩ := H
      go_wp2_with (first | ((with_reducible refine gate_callee (f := 49) rfl ?_); refine goesL_ (some 39) rfl rfl Tryd.func49 (by kernel_rfl) rfl #[.int .i64 x7_2] rfl km ?_; (with_reducible refine (dod_body.calls x7_2 t110 _ A10.out).mono ?_); rintro e w' ⟨rfl, ⟨nd, rfl⟩⟩; refine ⟨_, rfl, ?_⟩) | ((with_reducible refine gate_callee (f := 24) rfl ?_); refine goesL_ (some 46) rfl rfl Tryd.func24 (by kernel_rfl) rfl #[.slice A0 l0.length c0, .int .i64 (wrap64 (a1 + x8_2)), .int .i64 t110] rfl km ?_; (with_reducible refine (bits_Take.calls kj2 _ _ l0 (wrap64 (a1 + x8_2)) t110 t111 true _ ?side1 ?side2 A11.out).mono ?_); (case side1 => repeat (first | exact HR0.out | (with_reducible refine Kd.C_alloc ?_ _) | (with_reducible refine Kd.C_drewN ?_ _) | (with_reducible refine Kd.C_drew ?_))); (case side2 => exact HC0.out); rintro e w' ⟨rfl, ⟨nd, rfl⟩⟩; refine ⟨_, rfl, ?_⟩) | ((with_reducible refine gate_callee (f := 48) rfl ?_); refine goesL_ (some 65) rfl rfl Tryd.func48 (by kernel_rfl) rfl #[.int .i64 (wrap64 (t111))] rfl km ?_; (with_reducible refine (dod_ones.calls kj2 (wrap64 (t111)) t114 _ A21.out).mono ?_); rintro e w' ⟨rfl, ⟨nd, rfl⟩⟩; refine ⟨_, rfl, ?_⟩))
      go_ret3
      exact ⟨by first | rfl | (simp; done) | (simp [*]; done), by repeat (first | exact Drawn0.refl _ | apply Drawn0.step)⟩
     ·rw [if_neg c22] at H; have c22b0 : (t114 == x7_2) = false := beq_eq_false_iff_ne.mpr c22; have c22b1 : (t114 != x7_2) = true := bne_iff_ne.mpr c22; simp only [Option.some.injEq, Prod.mk.injEq] at H; obtain ⟨rfl, rfl, rfl⟩ := H
      go_wp2_with (first | ((with_reducible refine gate_callee (f := 49) rfl ?_); refine goesL_ (some 39) rfl rfl Tryd.func49 (by kernel_rfl) rfl #[.int .i64 x7_2] rfl km ?_; (with_reducible refine (dod_body.calls x7_2 t110 _ A10.out).mono ?_); rintro e w' ⟨rfl, ⟨nd, rfl⟩⟩; refine ⟨_, rfl, ?_⟩) | ((with_reducible refine gate_callee (f := 24) rfl ?_); refine goesL_ (some 46) rfl rfl Tryd.func24 (by kernel_rfl) rfl #[.slice A0 l0.length c0, .int .i64 (wrap64 (a1 + x8_2)), .int .i64 t110] rfl km ?_; (with_reducible refine (bits_Take.calls kj2 _ _ l0 (wrap64 (a1 + x8_2)) t110 t111 true _ ?side1 ?side2 A11.out).mono ?_); (case side1 => repeat (first | exact HR0.out | (with_reducible refine Kd.C_alloc ?_ _) | (with_reducible refine Kd.C_drewN ?_ _) | (with_reducible refine Kd.C_drew ?_))); (case side2 => exact HC0.out); rintro e w' ⟨rfl, ⟨nd, rfl⟩⟩; refine ⟨_, rfl, ?_⟩) | ((with_reducible refine gate_callee (f := 48) rfl ?_); refine goesL_ (some 65) rfl rfl Tryd.func48 (by kernel_rfl) rfl #[.int .i64 (wrap64 (t111))] rfl km ?_; (with_reducible refine (dod_ones.calls kj2 (wrap64 (t111)) t114 _ A21.out).mono ?_); rintro e w' ⟨rfl, ⟨nd, rfl⟩⟩; refine ⟨_, rfl, ?_⟩))
      go_ret3
      exact ⟨by first | rfl | (simp; done) | (simp [*]; done), by repeat (first | exact Drawn0.refl _ | apply Drawn0.step)⟩
   ·replace c12 := Bool.eq_false_iff.mpr c12; subst c12
    have H1 : (some (0, 0, some 2)) = some (r1, r2, r3) := by rw [if_neg (show ¬ (false = true) by decide)] at H; exact H
    clear H; have H := H1; clear H1; simp only [Option.some.injEq, Prod.mk.injEq] at H; obtain ⟨rfl, rfl, rfl⟩ := H
    go_wp2_with (first | ((with_reducible refine gate_callee (f := 49) rfl ?_); refine goesL_ (some 39) rfl rfl Tryd.func49 (by kernel_rfl) rfl #[.int .i64 x7_2] rfl km ?_; (with_reducible refine (dod_body.calls x7_2 t110 _ A10.out).mono ?_); rintro e w' ⟨rfl, ⟨nd, rfl⟩⟩; refine ⟨_, rfl, ?_⟩) | ((with_reducible refine gate_callee (f := 24) rfl ?_); refine goesL_ (some 46) rfl rfl Tryd.func24 (by kernel_rfl) rfl #[.slice A0 l0.length c0, .int .i64 (wrap64 (a1 + x8_2)), .int .i64 t110] rfl km ?_; (with_reducible refine (bits_Take.calls kj2 _ _ l0 (wrap64 (a1 + x8_2)) t110 t111 false _ ?side1 ?side2 A11.out).mono ?_); (case side1 => repeat (first | exact HR0.out | (with_reducible refine Kd.C_alloc ?_ _) | (with_reducible refine Kd.C_drewN ?_ _) | (with_reducible refine Kd.C_drew ?_))); (case side2 => exact HC0.out); rintro e w' ⟨rfl, ⟨nd, rfl⟩⟩; refine ⟨_, rfl, ?_⟩))
    go_ret3
    exact ⟨by first | rfl | (simp; done) | (simp [*]; done), by repeat (first | exact Drawn0.refl _ | apply Drawn0.step)⟩
end Go.Proofs.YtiahbcaoikoogabDoor.All
