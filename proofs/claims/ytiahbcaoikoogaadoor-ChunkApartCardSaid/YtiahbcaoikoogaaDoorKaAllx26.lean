-- declarations that this claim needs, copied by a program of the session
import Derived.Test.YtiahbcaoikoogaaDoorKaAllx6
namespace Go.Proofs.YtiahbcaoikoogaaDoor.All
open Go.RowKit Go.Proofs.YtiahbcaoikoogaaDoorW.PrintWords Go.Proofs.YtiahbcaoikoogaaDoorW.PrintLast Go.Proofs.YtiahbcaoikoogaaDoorW.PrintMore
attribute [local go_sem] max2_int min2_int max_two min_two max_three min_three max_four min_four   
set_option linter.unusedVariables false
set_option linter.unusedSimpArgs false
def dod_body.f (a0 : Int) : Option (Int) := if a0 = 1 then (some 7) else (if a0 = 2 then (some 9) else (if a0 = 3 then (some 12) else (if a0 = 4 then (some 64) else (some 0))))
set_option maxHeartbeats 8000000 in
set_option maxRecDepth 100000 in
theorem dod_body.calls (a0 : Int) (r : Int) (w : World) (h : dod_body.f a0 = some r) :
  Calls Tryd.prog 66 #[.int .i64 a0] w fun e w' => e = .returned (.int .i64 r) ∧ Drawn0 w w' := by
 have H : (if a0 = 1 then (some 7) else (if a0 = 2 then (some 9) else (if a0 = 3 then (some 12) else (if a0 = 4 then (some 64) else (some 0))))) = some r := h; clear h
 by_cases c2 : a0 = 1
 ·rw [if_pos c2] at H; have c2b0 : (a0 == 1) = true := beq_iff_eq.mpr c2; have c2b1 : (a0 != 1) = false := bne_eq_false_iff_eq.mpr c2; clear c2; obtain rfl := Option.some.inj H
  go_enter Tryd.func66, Tryd.ntmps66
  go_wp2
  go_ret
  exact ⟨by first | rfl | (simp; done) | (simp [*]; done), by repeat (first | exact Drawn0.refl _ | apply Drawn0.step)⟩
 ·rw [if_neg c2] at H; have c2b0 : (a0 == 1) = false := beq_eq_false_iff_ne.mpr c2; have c2b1 : (a0 != 1) = true := bne_iff_ne.mpr c2
  by_cases c3 : a0 = 2
  ·rw [if_pos c3] at H; have c3b0 : (a0 == 2) = true := beq_iff_eq.mpr c3; have c3b1 : (a0 != 2) = false := bne_eq_false_iff_eq.mpr c3; clear c3; obtain rfl := Option.some.inj H
   go_enter Tryd.func66, Tryd.ntmps66
   go_wp2
   go_ret
   exact ⟨by first | rfl | (simp; done) | (simp [*]; done), by repeat (first | exact Drawn0.refl _ | apply Drawn0.step)⟩
  ·rw [if_neg c3] at H; have c3b0 : (a0 == 2) = false := beq_eq_false_iff_ne.mpr c3; have c3b1 : (a0 != 2) = true := bne_iff_ne.mpr c3
   by_cases c4 : a0 = 3
   ·rw [if_pos c4] at H; have c4b0 : (a0 == 3) = true := beq_iff_eq.mpr c4; have c4b1 : (a0 != 3) = false := bne_eq_false_iff_eq.mpr c4; clear c4; obtain rfl := Option.some.inj H
    go_enter Tryd.func66, Tryd.ntmps66
    go_wp2
    go_ret
    exact ⟨by first | rfl | (simp; done) | (simp [*]; done), by repeat (first | exact Drawn0.refl _ | apply Drawn0.step)⟩
   ·rw [if_neg c4] at H; have c4b0 : (a0 == 3) = false := beq_eq_false_iff_ne.mpr c4; have c4b1 : (a0 != 3) = true := bne_iff_ne.mpr c4
    by_cases c5 : a0 = 4
    ·rw [if_pos c5] at H; have c5b0 : (a0 == 4) = true := beq_iff_eq.mpr c5; have c5b1 : (a0 != 4) = false := bne_eq_false_iff_eq.mpr c5; clear c5; obtain rfl := Option.some.inj H
     go_enter Tryd.func66, Tryd.ntmps66
     go_wp2
     go_ret
     exact ⟨by first | rfl | (simp; done) | (simp [*]; done), by repeat (first | exact Drawn0.refl _ | apply Drawn0.step)⟩
    ·rw [if_neg c5] at H; have c5b0 : (a0 == 4) = false := beq_eq_false_iff_ne.mpr c5; have c5b1 : (a0 != 4) = true := bne_iff_ne.mpr c5; obtain rfl := Option.some.inj H
     go_enter Tryd.func66, Tryd.ntmps66
     go_wp2
     go_ret
     exact ⟨by first | rfl | (simp; done) | (simp [*]; done), by repeat (first | exact Drawn0.refl _ | apply Drawn0.step)⟩
def dod_ones.l0 : Nat → Int → Int → Option (Int)
 | 0, _, _ => none
 | k + 1, x0, x3 => if x3 < 4 then ((dod_body.f x3).bind fun t479 => (if 0 ≤ (wrap64 (t479 - 1)) then (if x0 ≥ (wrap64 (-(shl .i64 1 (wrap64 (t479 - 1))))) then (if x0 < (shl .i64 1 (wrap64 (t479 - 1))) then (some x3) else (dod_ones.l0 k x0 (wrap64 (x3 + 1)))) else (dod_ones.l0 k x0 (wrap64 (x3 + 1)))) else (none))) else (some 4)
def dod_ones.f (k : Nat) (a0 : Int) : Option (Int) := if a0 = 0 then (some 0) else (dod_ones.l0 k a0 1)
theorem dod_ones.mono_l : ∀ k, (∀ y0 y1, LeO (dod_ones.l0 k y0 y1) (dod_ones.l0 (k + 1) y0 y1))
 | 0 => fun _ _ r h => by simp [dod_ones.l0] at h
 | k + 1 => by
  have ih0 := dod_ones.mono_l k
  ·intro y0 y1
   unfold dod_ones.l0
   repeat' first
   | (with_reducible exact ih0 _ _)
   | (with_reducible exact LeO.refl _)
   | (with_reducible exact LeO.none _)
   | (with_reducible refine LeO.ite ?_ ?_)
   | (with_reducible refine LeO.bind ?_ (fun _ => ?_))
   | exact ih0 _ _
   | exact LeO.none _
   | refine LeO.ite ?_ ?_
   | refine LeO.bind ?_ (fun _ => ?_)
theorem dod_ones.mono : ∀ a0 k, LeO (dod_ones.f k a0) (dod_ones.f (k + 1) a0) := by
 intro a0 k
 have ih0 := dod_ones.mono_l k
 unfold dod_ones.f
 repeat' first
   | (with_reducible exact ih0 _ _)
   | (with_reducible exact LeO.refl _)
   | (with_reducible exact LeO.none _)
   | (with_reducible refine LeO.ite ?_ ?_)
   | (with_reducible refine LeO.bind ?_ (fun _ => ?_))
   | exact ih0 _ _
   | exact LeO.none _
   | refine LeO.ite ?_ ?_
   | refine LeO.bind ?_ (fun _ => ?_)
set_option maxHeartbeats 8000000 in
set_option maxRecDepth 100000 in
theorem dod_ones.calls (k : Nat) (a0 : Int) (r : Int) (w : World) (h : dod_ones.f k a0 = some r) :
  Calls Tryd.prog 65 #[.int .i64 a0] w fun e w' => e = .returned (.int .i64 r) ∧ Drawn0 w w' := by
 have H : (if a0 = 0 then (some 0) else (dod_ones.l0 k a0 1)) = some r := h; clear h
 by_cases c2 : a0 = 0
 ·rw [if_pos c2] at H; have c2b0 : (a0 == 0) = true := beq_iff_eq.mpr c2; have c2b1 : (a0 != 0) = false := bne_eq_false_iff_eq.mpr c2; clear c2; obtain rfl := Option.some.inj H
  go_enter Tryd.func65, Tryd.ntmps65
  go_wp2
  go_ret
  exact ⟨by first | rfl | (simp; done) | (simp [*]; done), by repeat (first | exact Drawn0.refl _ | apply Drawn0.step)⟩
 ·rw [if_neg c2] at H; have c2b0 : (a0 == 0) = false := beq_eq_false_iff_ne.mpr c2; have c2b1 : (a0 != 0) = true := bne_iff_ne.mpr c2; have H' := Aside0.mk H; clear H
  go_enter Tryd.func65, Tryd.ntmps65
  go_wp2
  go_loopg [3] k (fun kq v3 w' => ∃ (x3_1 : Int), v3 = .int .i64 x3_1 ∧ Aside0 (dod_ones.l0 kq a0 x3_1 = some r) ∧ Aside0 (kq ≤ k) ∧ Drawn0 w w')
  case atStart => exact ⟨(1), (by first | rfl | (simp; done) | (simp [*]; done)), H', ⟨Nat.le_refl _⟩, by repeat (first | exact Drawn0.refl _ | apply Drawn0.step)⟩
  case round =>
   clear H'; (try clear c2); (try clear c2b0); (try clear c2b1); (try clear p2); obtain ⟨x3_1, rfl, HA, HK1, ⟨m1, rfl⟩⟩ := hrel
   cases gk with
   | zero => exact absurd HA.out (by simp [dod_ones.l0])
   | succ k1 =>
    have H := HA.out; clear HA; simp only [dod_ones.l0] at H
    by_cases c3 : x3_1 < 4
    ·rw [if_pos c3] at H; have c3b0 : decide (x3_1 < 4) = true := decide_eq_true c3; clear c3; replace H := Option.bind_eq_some_iff.mp H; obtain ⟨t479, A40, H⟩ := H; replace H : (if 0 ≤ (wrap64 (t479 - 1)) then (if a0 ≥ (wrap64 (-(shl .i64 1 (wrap64 (t479 - 1))))) then (if a0 < (shl .i64 1 (wrap64 (t479 - 1))) then (some x3_1) else (dod_ones.l0 k1 a0 (wrap64 (x3_1 + 1)))) else (dod_ones.l0 k1 a0 (wrap64 (x3_1 + 1)))) else (none)) = some r := H; have A4 := Aside0.mk A40; clear A40; obtain ⟨ji5, hji5⟩ : ∃ j_ : Int, (wrap64 (t479 - 1)) = j_ := ⟨_, rfl⟩
     replace H : (if 0 ≤ (ji5) then (if a0 ≥ (wrap64 (-(shl .i64 1 (ji5)))) then (if a0 < (shl .i64 1 (ji5)) then (some x3_1) else (dod_ones.l0 k1 a0 (wrap64 (x3_1 + 1)))) else (dod_ones.l0 k1 a0 (wrap64 (x3_1 + 1)))) else (none)) = some r := by first | (rw [hji5] at H; exact H) | (simp only [hji5] at H ⊢; exact H)
     (try rw [hji5] at A4); have hji5w : (IntKind.i64.wrap (t479 - 1)) = ji5 := (i64_w _).trans hji5
     by_cases c6 : 0 ≤ (ji5)
     ·rw [if_pos c6] at H; have c6b0 := eq_true c6; have c6b1 : decide (0 ≤ (ji5)) = true := decide_eq_true c6; clear c6; obtain ⟨ji7, hji7⟩ : ∃ j_ : Int, (shl .i64 1 (ji5)) = j_ := ⟨_, rfl⟩
      replace H : (if a0 ≥ (wrap64 (-(ji7))) then (if a0 < (ji7) then (some x3_1) else (dod_ones.l0 k1 a0 (wrap64 (x3_1 + 1)))) else (dod_ones.l0 k1 a0 (wrap64 (x3_1 + 1)))) = some r := by first | (rw [hji7] at H; exact H) | (simp only [hji7] at H ⊢; exact H)
      (try rw [hji7] at A4); have hji7_ : (IntKind.i64.wrap (1 * 2 ^ min (ji5).toNat 64)) = ji7 := hji7; have hji7z : (ji5) ≤ 64 → (IntKind.i64.wrap (1 * 2 ^ (ji5).toNat)) = ji7 := shl_small hji7
      have hji7u : (IntKind.i64.wrap (2 ^ min (ji5).toNat 64)) = ji7 := by have h_ := hji7_; rw [Int.one_mul] at h_; exact h_
      have hji7v : (ji5) ≤ 64 → (IntKind.i64.wrap (2 ^ (ji5).toNat)) = ji7 := fun hle_ => by have h_ := hji7z hle_; rw [Int.one_mul] at h_; exact h_
      have hji7y : (wrap64 (1 * 2 ^ min (ji5).toNat 64)) = ji7 := (i64_w _).symm.trans hji7_
      have hji7x : (ji5) ≤ 64 → (wrap64 (1 * 2 ^ (ji5).toNat)) = ji7 := fun h_ => (i64_w _).symm.trans (hji7z h_)
      by_cases c8 : a0 ≥ (wrap64 (-(ji7)))
      ·rw [if_pos c8] at H; have c8b0 : decide ((wrap64 (-(ji7))) ≤ a0) = true := decide_eq_true c8; clear c8
       by_cases c9 : a0 < (ji7)
       ·rw [if_pos c9] at H; have c9b0 : decide (a0 < (ji7)) = true := decide_eq_true c9; clear c9; obtain rfl := Option.some.inj H
        go_wp2_with (first | ((with_reducible refine gate_callee (f := 66) rfl ?_); refine goesL_ (some 12) rfl rfl Tryd.func66 (by kernel_rfl) rfl #[.int .i64 x3_1] rfl km ?_; (with_reducible refine (dod_body.calls x3_1 t479 _ A4.out).mono ?_); rintro e w' ⟨rfl, ⟨nd, rfl⟩⟩; refine ⟨_, rfl, ?_⟩))
        go_ret
        exact ⟨by first | rfl | (simp; done) | (simp only [← hji5, ← hji7] <;> (first | rfl | simp)) | (simp [*]; done), by repeat (first | exact Drawn0.refl _ | apply Drawn0.step)⟩
       ·rw [if_neg c9] at H; have c9b0 : decide (a0 < (ji7)) = false := decide_eq_false c9; clear c9; have H' := Aside0.mk H; clear H
        go_wp2_with (first | ((with_reducible refine gate_callee (f := 66) rfl ?_); refine goesL_ (some 12) rfl rfl Tryd.func66 (by kernel_rfl) rfl #[.int .i64 x3_1] rfl km ?_; (with_reducible refine (dod_body.calls x3_1 t479 _ A4.out).mono ?_); rintro e w' ⟨rfl, ⟨nd, rfl⟩⟩; refine ⟨_, rfl, ?_⟩))
        go_roundg k1
        case measure => have := HK1.out; omega
        case rel => exact ⟨(wrap64 (x3_1 + 1)), (by first | rfl | (simp; done) | (simp [*]; done)), H', ⟨by have := HK1.out; omega⟩, by repeat (first | exact Drawn0.refl _ | apply Drawn0.step)⟩
      ·rw [if_neg c8] at H; have c8b0 : decide ((wrap64 (-(ji7))) ≤ a0) = false := decide_eq_false c8; clear c8; have H' := Aside0.mk H; clear H
       go_wp2_with (first | ((with_reducible refine gate_callee (f := 66) rfl ?_); refine goesL_ (some 12) rfl rfl Tryd.func66 (by kernel_rfl) rfl #[.int .i64 x3_1] rfl km ?_; (with_reducible refine (dod_body.calls x3_1 t479 _ A4.out).mono ?_); rintro e w' ⟨rfl, ⟨nd, rfl⟩⟩; refine ⟨_, rfl, ?_⟩))
       go_roundg k1
       case measure => have := HK1.out; omega
       case rel => exact ⟨(wrap64 (x3_1 + 1)), (by first | rfl | (simp; done) | (simp [*]; done)), H', ⟨by have := HK1.out; omega⟩, by repeat (first | exact Drawn0.refl _ | apply Drawn0.step)⟩
     ·rw [if_neg c6] at H
      exact absurd H (by simp)
    ·rw [if_neg c3] at H; have c3b0 : decide (x3_1 < 4) = false := decide_eq_false c3; clear c3; obtain rfl := Option.some.inj H
     go_wp2
     go_ret
     exact ⟨by first | rfl | (simp; done) | (simp [*]; done), by repeat (first | exact Drawn0.refl _ | apply Drawn0.step)⟩
def dod_Code.f (k : Nat) (a0 : Int) : Option (List Int × Int) := (dod_ones.f k a0).bind fun t481 => (if 0 ≤ t481 then ((bits_Put.f k ([] : List Int) 0 (IntKind.u64.wrap ((shl .u64 1 t481) - 1)) t481).bind fun bt482 => (if t481 < 4 then ((bits_Put.f k bt482.1 bt482.2 0 1).bind fun bt487 => ((dod_body.f t481).bind fun t491 => ((bits_Put.f k bt487.1 bt487.2 (IntKind.u64.wrap (a0)) t491).bind fun bt492 => (some (bt492.1, bt492.2))))) else ((dod_body.f t481).bind fun t496 => ((bits_Put.f k bt482.1 bt482.2 (IntKind.u64.wrap (a0)) t496).bind fun bt497 => (some (bt497.1, bt497.2)))))) else (none))
theorem dod_Code.mono : ∀ a0 k, LeO (dod_Code.f k a0) (dod_Code.f (k + 1) a0) := by
 intro a0 k
 unfold dod_Code.f
 repeat' first
   | (with_reducible exact bits_Put.mono _ _ _ _ _)
   | (with_reducible exact dod_ones.mono _ _)
   | (with_reducible exact LeO.refl _)
   | (with_reducible exact LeO.none _)
   | (with_reducible refine LeO.ite ?_ ?_)
   | (with_reducible refine LeO.bind ?_ (fun _ => ?_))
   | exact bits_Put.mono _ _ _ _ _
   | exact dod_ones.mono _ _
   | exact LeO.none _
   | refine LeO.ite ?_ ?_
   | refine LeO.bind ?_ (fun _ => ?_)
set_option maxHeartbeats 8000000 in
set_option maxRecDepth 100000 in
theorem dod_Code.calls (k : Nat) (a0 : Int) (r1 : List Int) (r2 : Int) (w : World) (h : dod_Code.f k a0 = some (r1, r2)) :
  Calls Tryd.prog 55 #[.int .i64 a0] w fun e w' => ∃ v0_ : Value, e = .returned (.agg #[v0_, .int .i64 r2]) ∧ Kd.R (Kd.int .u8) 5 w' w.heap.size (fun _ => True) v0_ r1 ∧ Below w.heap.size w w' := by
 have hu31 := Tryd.underlying31; have HB := Aside0.mk (Below.refl w.heap.size w); have H : ((dod_ones.f k a0).bind fun t481 => (if 0 ≤ t481 then ((bits_Put.f k ([] : List Int) 0 (IntKind.u64.wrap ((shl .u64 1 t481) - 1)) t481).bind fun bt482 => (if t481 < 4 then ((bits_Put.f k bt482.1 bt482.2 0 1).bind fun bt487 => ((dod_body.f t481).bind fun t491 => ((bits_Put.f k bt487.1 bt487.2 (IntKind.u64.wrap (a0)) t491).bind fun bt492 => (some (bt492.1, bt492.2))))) else ((dod_body.f t481).bind fun t496 => ((bits_Put.f k bt482.1 bt482.2 (IntKind.u64.wrap (a0)) t496).bind fun bt497 => (some (bt497.1, bt497.2)))))) else (none))) = some (r1, r2) := h; clear h; replace H := Option.bind_eq_some_iff.mp H; obtain ⟨t481, A20, H⟩ := H; replace H : (if 0 ≤ t481 then ((bits_Put.f k ([] : List Int) 0 (IntKind.u64.wrap ((shl .u64 1 t481) - 1)) t481).bind fun bt482 => (if t481 < 4 then ((bits_Put.f k bt482.1 bt482.2 0 1).bind fun bt487 => ((dod_body.f t481).bind fun t491 => ((bits_Put.f k bt487.1 bt487.2 (IntKind.u64.wrap (a0)) t491).bind fun bt492 => (some (bt492.1, bt492.2))))) else ((dod_body.f t481).bind fun t496 => ((bits_Put.f k bt482.1 bt482.2 (IntKind.u64.wrap (a0)) t496).bind fun bt497 => (some (bt497.1, bt497.2)))))) else (none)) = some (r1, r2) := H; have A2 := Aside0.mk A20; clear A20
 by_cases c3 : 0 ≤ t481
 ·rw [if_pos c3] at H; have c3b0 := eq_true c3; have c3b1 : decide (0 ≤ t481) = true := decide_eq_true c3; clear c3; obtain ⟨ji4, hji4⟩ : ∃ j_ : Int, (shl .u64 1 t481) = j_ := ⟨_, rfl⟩
  replace H : ((bits_Put.f k ([] : List Int) 0 (IntKind.u64.wrap ((ji4) - 1)) t481).bind fun bt482 => (if t481 < 4 then ((bits_Put.f k bt482.1 bt482.2 0 1).bind fun bt487 => ((dod_body.f t481).bind fun t491 => ((bits_Put.f k bt487.1 bt487.2 (IntKind.u64.wrap (a0)) t491).bind fun bt492 => (some (bt492.1, bt492.2))))) else ((dod_body.f t481).bind fun t496 => ((bits_Put.f k bt482.1 bt482.2 (IntKind.u64.wrap (a0)) t496).bind fun bt497 => (some (bt497.1, bt497.2)))))) = some (r1, r2) := by first | (rw [hji4] at H; exact H) | (simp only [hji4] at H ⊢; exact H)
  (try rw [hji4] at A2); have hji4_ : (IntKind.u64.wrap (1 * 2 ^ min t481.toNat 64)) = ji4 := hji4; have hji4z : t481 ≤ 64 → (IntKind.u64.wrap (1 * 2 ^ t481.toNat)) = ji4 := shl_small hji4
  have hji4u : (IntKind.u64.wrap (2 ^ min t481.toNat 64)) = ji4 := by have h_ := hji4_; rw [Int.one_mul] at h_; exact h_
  have hji4v : t481 ≤ 64 → (IntKind.u64.wrap (2 ^ t481.toNat)) = ji4 := fun hle_ => by have h_ := hji4z hle_; rw [Int.one_mul] at h_; exact h_
  replace H := Option.bind_eq_some_iff.mp H; obtain ⟨⟨t482, t485⟩, A50, H⟩ := H; replace H : (if t481 < 4 then ((bits_Put.f k t482 t485 0 1).bind fun bt487 => ((dod_body.f t481).bind fun t491 => ((bits_Put.f k bt487.1 bt487.2 (IntKind.u64.wrap (a0)) t491).bind fun bt492 => (some (bt492.1, bt492.2))))) else ((dod_body.f t481).bind fun t496 => ((bits_Put.f k t482 t485 (IntKind.u64.wrap (a0)) t496).bind fun bt497 => (some (bt497.1, bt497.2))))) = some (r1, r2) := H; have A5 := Aside0.mk A50; clear A50
  by_cases c6 : t481 < 4
  ·rw [if_pos c6] at H; have c6b0 : decide (t481 < 4) = true := decide_eq_true c6; clear c6; replace H := Option.bind_eq_some_iff.mp H; obtain ⟨⟨t487, t490⟩, A70, H⟩ := H; replace H : ((dod_body.f t481).bind fun t491 => ((bits_Put.f k t487 t490 (IntKind.u64.wrap (a0)) t491).bind fun bt492 => (some (bt492.1, bt492.2)))) = some (r1, r2) := H; have A7 := Aside0.mk A70; clear A70; replace H := Option.bind_eq_some_iff.mp H; obtain ⟨t491, A80, H⟩ := H; replace H : ((bits_Put.f k t487 t490 (IntKind.u64.wrap (a0)) t491).bind fun bt492 => (some (bt492.1, bt492.2))) = some (r1, r2) := H; have A8 := Aside0.mk A80; clear A80; replace H := Option.bind_eq_some_iff.mp H; obtain ⟨⟨t492, t495⟩, A90, H⟩ := H; replace H : (some (t492, t495)) = some (r1, r2) := H; have A9 := Aside0.mk A90; clear A90; simp only [Option.some.injEq, Prod.mk.injEq] at H; obtain ⟨rfl, rfl⟩ := H
   go_enter Tryd.func55, Tryd.ntmps55
   try go_wp2_with (first | ((with_reducible refine gate_dst (N := 2) rfl ?_); refine box_event ?hg (N := 2) ?hd (cs := #[.slice none 0 0, .int .i64 0]) (t := 31) ?hr ?_; (case hd => rfl); (case hg => rfl); (case hr => first | (go_simp; done) | (go_simp; rfl)); intro gb480 hg w10 hbox hb; have BK480 := Aside0.mk (hbox); have GW480 := kG hg HB; have GE480 := kG hg HB; replace HB := kH HB hb; clear hb hbox hg) | ((with_reducible refine gate_callee (f := 65) rfl ?_); refine goesL_ (some 6) rfl rfl Tryd.func65 (by kernel_rfl) rfl #[.int .i64 a0] rfl km ?_; (with_reducible refine (dod_ones.calls k a0 t481 _ A2.out).mono ?_); rintro e w' ⟨rfl, ⟨nd, rfl⟩⟩; refine ⟨_, rfl, ?_⟩; (try (rw [drewN_self w10]; generalize hq_ : World.drewN w10 _ = w10; have n0_ : Aside0 (w10.heap[gb480]? = some (.cells #[.slice none 0 0, .int .i64 0] 31 (0, 0))) := ⟨by rw [← hq_]; exact (kb BK480)⟩; have n1_ : Aside0 (Below w.heap.size w w10) := ⟨by rw [← hq_]; exact (kl HB)⟩; clear BK480 HB hq_; have BK480 := n0_; have HB := n1_; clear n0_ n1_))) | ((with_reducible refine gate_callee (f := 44) rfl ?_); refine goesL_ (some 12) rfl rfl Tryd.func44 (by kernel_rfl) rfl #[.agg #[.slice none 0 0, .int .i64 0], .int .u64 (IntKind.u64.wrap ((ji4) - 1)), .int .i64 t481] rfl (by (try simp only [List.map_toArray, List.map_cons, List.map_nil]); first | done | (simp only [hji4]; rfl) | rfl | (simp only [List.length_drop, List.length_take]; rfl)) ?_; (refine (bits_Put.calls k _ _ ([] : List Int) 0 (IntKind.u64.wrap ((ji4) - 1)) t481 t482 t485 _ ?side1 ?side2 A5.out).mono ?_); (case side1 => exact Kd.C_nil _ _); (case side2 => exact Nat.le_refl _); rintro e w11 ⟨v483, rfl, ho0, hb⟩; refine ⟨_, rfl, ?_⟩; have HO484 := Aside0.mk (Kd.R_lower ho0 (below_size (kl HB))); replace BK480 := kB BK480 hb; replace HB := kH HB hb; (try clear hb); (try clear hb2); (try clear hk); (try clear hi); (try clear hgw); (try clear ho0)) | ((with_reducible refine gate_dst (N := 4) rfl ?_); refine box_event ?hg (N := 4) ?hd (cs := #[.slice none 0 0, .int .i64 0]) (t := 31) ?hr ?_; (case hd => rfl); (case hg => rfl); (case hr => first | (go_simp; done) | (go_simp; rfl)); intro gb486 hg w12 hbox hb; replace HO484 := Aside0.mk (Kd.R_below (kr HO484) hb); have BK486 := Aside0.mk (hbox); have GW486 := kG hg HB; have GE486 := kG hg HB; replace HB := kH HB hb; obtain ⟨NB480_486, NB486_480⟩ := kN hg BK480; replace BK480 := kB BK480 hb; clear hb hbox hg; obtain ⟨Ao13, co13, eo13⟩ := Kd.R_slice HO484.out; subst eo13; have hnb14 := NB486_480.out; have hnc14 := NB480_486.out; have hcz15_0 : w12.cell? ⟨gb486, 0, none⟩ = some (.slice none 0 0) := (blk_cell BK486.out 0).trans rfl; have hcz15_1 : w12.cell? ⟨gb486, 1, none⟩ = some (.int .i64 0) := (blk_cell BK486.out 1).trans rfl; have hfz15_0 := blk_frozen BK486.out 0; have hfz15_1 := blk_frozen BK486.out 1) | ((with_reducible refine gate_callee (f := 44) rfl ?_); refine goesL_ (some 16) rfl rfl Tryd.func44 (by kernel_rfl) rfl #[.agg #[.slice Ao13 t482.length co13, .int .i64 t485], .int .u64 0, .int .i64 1] rfl km ?_; (with_reducible refine (bits_Put.calls k _ _ t482 t485 0 1 t487 t490 _ ?side1 ?side2 A7.out).mono ?_); (case side1 => refine (Kd.R_reads' (e := 5) (base := w.heap.size) (ok := fun k_ => True) (n := t482.length) (c := co13) ?_).2.2; exact (by (with_reducible repeat (first | apply Kd.R_alloc | apply Kd.R_drewN | apply Kd.R_drew)); exact (Kd.R_mono (Kd.R_far (p := ⟨gb486, 1, none⟩) (Kd.R_far (p := ⟨gb486, 0, none⟩) (Kd.R_types HO484.out BK486.out (by decide)) (fun _ hk => hk.2) (.slice Ao13 t482.length co13)) (fun _ hk => hk.2) (.int .i64 t485)) (fun _ h_ => h_.1)))); (case side2 => exact (Kd.R_reads' HO484.out).2.1); rintro e w16 ⟨v488, rfl, ho0, hb⟩; refine ⟨_, rfl, ?_⟩; have HO489 := Aside0.mk (Kd.R_lower (Kd.R_new' ho0 (Kd.R_lt (by (with_reducible repeat (first | apply Kd.R_alloc | apply Kd.R_drewN | apply Kd.R_drew)); exact (Kd.R_mono (Kd.R_far (p := ⟨gb486, 1, none⟩) (Kd.R_far (p := ⟨gb486, 0, none⟩) (Kd.R_types HO484.out BK486.out (by decide)) (fun _ hk => hk.2) (.slice Ao13 t482.length co13)) (fun _ hk => hk.2) (.int .i64 t485)) (fun _ h_ => h_.1))))) (below_size (kl HB))); replace HO484 := Aside0.mk (Kd.R_elder' (by (with_reducible repeat (first | apply Kd.R_alloc | apply Kd.R_drewN | apply Kd.R_drew)); exact (Kd.R_mono (Kd.R_far (p := ⟨gb486, 1, none⟩) (Kd.R_far (p := ⟨gb486, 0, none⟩) (Kd.R_types HO484.out BK486.out (by decide)) (fun _ hk => hk.2) (.slice Ao13 t482.length co13)) (fun _ hk => hk.2) (.int .i64 t485)) (fun _ h_ => h_.1))) (Kd.R_base ho0) hb); replace BK480 := Aside0.mk (blk_below (g := gb480) (o := .cells #[.slice none 0 0, .int .i64 0] 31 (0, 0)) (kb BK480) hb); replace BK486 := Aside0.mk (blk_below (g := gb486) (o := .cells #[.slice Ao13 t482.length co13, .int .i64 t485] 31 (0, 0)) (kb BK486) hb); replace HB := kH HB hb; (try clear hb); (try clear hb2); (try clear hk); (try clear hi); (try clear hgw); (try clear ho0); obtain ⟨Ao17, co17, eo17⟩ := Kd.R_slice HO489.out; subst eo17; have hcz18_0 : w16.cell? ⟨gb486, 0, none⟩ = some (.slice Ao13 t482.length co13) := (blk_cell BK486.out 0).trans rfl; have hcz18_1 : w16.cell? ⟨gb486, 1, none⟩ = some (.int .i64 t485) := (blk_cell BK486.out 1).trans rfl; have hfz18_0 := blk_frozen BK486.out 0; have hfz18_1 := blk_frozen BK486.out 1))
   generalize hw_ : ((w16.setCell ⟨gb486, 0, none⟩ (.slice Ao17 t487.length co17)).setCell ⟨gb486, 1, none⟩ (.int .i64 t490)) = w19; have n0_ : Aside0 (Kd.R (Kd.int .u8) 5 w19 w.heap.size (fun k_ => some k_ ≠ (.slice Ao17 t487.length co17 : Value).ownBlock) (.slice Ao13 t482.length co13) t482) := ⟨by rw [← hw_]; (with_reducible repeat (first | apply Kd.R_alloc | apply Kd.R_drewN | apply Kd.R_drew)); exact Kd.R_mono (Kd.R_far (p := ⟨gb486, 1, none⟩) (Kd.R_far (p := ⟨gb486, 0, none⟩) (Kd.R_types HO484.out BK486.out (by decide)) (fun _ hk => hk.2) (.slice Ao17 t487.length co17)) (fun _ hk => hk.2) (.int .i64 t490)) (fun _ hk => hk.1.2)⟩; have n1_ : Aside0 (Kd.R (Kd.int .u8) 5 w19 w.heap.size (fun k_ => some k_ ≠ (.slice Ao13 t482.length co13 : Value).ownBlock) (.slice Ao17 t487.length co17) t487) := ⟨by rw [← hw_]; (with_reducible repeat (first | apply Kd.R_alloc | apply Kd.R_drewN | apply Kd.R_drew)); exact Kd.R_mono (Kd.R_far (p := ⟨gb486, 1, none⟩) (Kd.R_far (p := ⟨gb486, 0, none⟩) (Kd.R_types HO489.out BK486.out (by decide)) (fun _ hk => hk.2) (.slice Ao17 t487.length co17)) (fun _ hk => hk.2) (.int .i64 t490)) (fun _ hk => hk.1.2)⟩; have n2_ : Aside0 (w19.heap[gb480]? = some (.cells #[.slice none 0 0, .int .i64 0] 31 (0, 0))) := ⟨by rw [← hw_]; exact kb BK480⟩; have n3_ : Aside0 (w19.heap[gb486]? = some (.cells #[.slice Ao17 t487.length co17, .int .i64 t490] 31 (0, 0))) := ⟨by rw [← hw_]; exact kb BK486⟩; have n4_ : Aside0 (Below w.heap.size w w19) := ⟨by rw [← hw_]; repeat (first | (with_reducible first | exact HB.out | apply below_alloc | apply pw_below_drewN | apply below_drew1 | refine below_set ?_ GE480.out | refine below_set ?_ GE486.out) | exact HB.out)⟩; (try clear HO484); (try clear HO489); (try clear BK480); (try clear BK486); (try clear HB); clear hw_; have HO484 := n0_; have HO489 := n1_; have BK480 := n2_; have BK486 := n3_; have HB := n4_; clear n0_ n1_ n2_ n3_ n4_; replace HO484 := Aside0.mk (Kd.R_drew HO484.out); replace HO489 := Aside0.mk (Kd.R_drew HO489.out); replace BK480 := Aside0.mk (blk_drew BK480.out); replace BK486 := Aside0.mk (blk_drew BK486.out); replace HB := Aside0.mk (below_drew1 HB.out); refine start_ (n := 7) (S := fun w' => w'.cell? ⟨gb486, 0, none⟩ = some (.slice Ao17 t487.length co17) ∧ w'.cell? ⟨gb486, 1, none⟩ = some (.int .i64 t490)) (ds := []) (bl 7 0) (by kernel_rfl) rfl rfl kz (fun hHeld => ?_); generalize w19.drew = w20 at HO484 HO489 BK480 BK486 HB hHeld ⊢; refine pu 1 (some 18) (bl 7 2) (h := ?_); refine pu 2 (some 19) (bl 7 6) (h := ?_); refine pu 3 (some 20) (bl 7 14) (h := ?_); refine ta 0 (some 17) (bl 7 15) (h := ?_); refine one_ (i := 4) (N := some 21) #[true, true, true, true, true, false, false] rfl rfl (by kernel_rfl) (by decide) (fun K hK => ?_); refine goes_ Tryd.func66 (by kernel_rfl) rfl #[.int .i64 t481] (by rfl) rfl rfl km ?_
   with_reducible refine (dod_body.calls t481 t491 _ A8.out).mono ?_
   rintro e w' ⟨rfl, ⟨nd, rfl⟩⟩; refine ⟨_, rfl, ?_⟩; refine hK.out _ _ kz (fun hHeld => ?_); clear hK K; refine norm_ (a' := ?_) ?_ ?_
   rotate_left
   ·show Act.put _ (some 21) _ = _
    simp only [Act.put, List.setIfInBounds_toArray, List.set_cons_zero, List.set_cons_succ, i64_w, i32_w]
    rfl
   refine one_ (i := 5) (N := some 22) #[true, true, true, true, true, true, false] rfl rfl (by kernel_rfl) (by decide) (fun K hK => ?_); refine goes_ Tryd.func44 (by kernel_rfl) rfl #[.agg #[.slice Ao17 t487.length co17, .int .i64 t490], .int .u64 (IntKind.u64.wrap (a0)), .int .i64 t491] (by rfl) rfl rfl km ?_
   with_reducible refine (bits_Put.calls k _ _ t487 t490 (IntKind.u64.wrap (a0)) t491 t492 t495 _ ?side1 ?side2 A9.out).mono ?_
   (case side1 => repeat (first | exact (Kd.R_reads' HO489.out).2.2 | (with_reducible refine Kd.C_alloc ?_ _) | (with_reducible refine Kd.C_drewN ?_ _) | (with_reducible refine Kd.C_drew ?_)))
   (case side2 => exact (Kd.R_reads' HO489.out).2.1)
   rintro e w21 ⟨v493, rfl, ho0, hb⟩; refine ⟨_, rfl, ?_⟩; have HO494 := Aside0.mk (Kd.R_lower (Kd.R_new' (Kd.R_new' ho0 (Kd.R_lt (kr HO484))) (Kd.R_lt (kr HO489))) (below_size (kl HB))); replace HO484 := Aside0.mk (Kd.R_elder' (kr HO484) (Kd.R_base ho0) hb); replace HO489 := Aside0.mk (Kd.R_elder' (kr HO489) (Kd.R_base ho0) hb); replace BK480 := kB BK480 hb; replace BK486 := kB BK486 hb; replace HB := kH HB hb; (try clear hb); (try clear hb2); (try clear hk); (try clear hi); (try clear hgw); (try clear ho0); obtain ⟨Ao22, co22, eo22⟩ := Kd.R_slice HO494.out
   (first | subst eo22 | (injection eo22 with f1_ f2_ f3_; have f4_ := f1_.symm; have f5_ := f3_.symm; clear f1_ f2_ f3_; subst f4_; subst f5_))
   refine hK.out _ _ kz (fun hHeld => ?_); clear hK K; refine norm_ (a' := ?_) ?_ ?_
   rotate_left
   ·show Act.put _ (some 22) _ = _
    simp only [Act.put, List.setIfInBounds_toArray, List.set_cons_zero, List.set_cons_succ, i64_w, i32_w]
    rfl
   refine one_ (i := 6) (N := none) #[true, true, true, true, true, true, true] rfl rfl (by kernel_rfl) (by decide) (fun K hK => ?_); have hs23 : w21.cell? ⟨gb480, 0, none⟩ = some (.slice none 0 0) := (blk_cell BK480.out 0).trans rfl; have hfs23 := blk_frozen BK480.out 0; have hns23_1 := NB486_480.out; have hms23_1 := NB480_486.out; have hs24 : w21.cell? ⟨gb480, 1, none⟩ = some (.int .i64 0) := (blk_cell BK480.out 1).trans rfl; have hfs24 := blk_frozen BK480.out 1; refine skip_ (w1 := ?_) (by rfl) rfl ?_ ?_
   rotate_left
   ·go_simp
    rfl
   refine hK.out _ _ (ks hHeld) (fun hHeld => ?_); clear hK K; refine done_ (by kernel_rfl) ?_
   try go_wp2
   refine bodyPost_ret (results_cell_row rfl _ _ gb480 31 #[.slice Ao22 t492.length co22, .int .i64 t495] (0, 0) _ rfl (kb BK480) Tryd.underlying31 rfl (by kernel_rfl)) rfl ?_
   exact ⟨_, by first | rfl | (simp [errW_none, errW_some] <;> rfl) | (simp only [← hji4]; first | rfl | (simp [errW_none, errW_some] <;> rfl)) | (simp [*, errW_none, errW_some] <;> rfl), by (with_reducible repeat (first | apply Kd.R_alloc | apply Kd.R_drewN | apply Kd.R_drew)); exact Kd.R_mono (Kd.R_far (p := ⟨gb480, 1, none⟩) (Kd.R_far (p := ⟨gb480, 0, none⟩) (Kd.R_types HO494.out BK480.out (by decide)) (fun _ hk => hk.2) (.slice Ao22 t492.length co22)) (fun _ hk => hk.2) (.int .i64 t495)) (fun _ hk => trivial), (kl HB)⟩
  ·rw [if_neg c6] at H; have c6b0 : decide (t481 < 4) = false := decide_eq_false c6; clear c6; replace H := Option.bind_eq_some_iff.mp H; obtain ⟨t496, A250, H⟩ := H; replace H : ((bits_Put.f k t482 t485 (IntKind.u64.wrap (a0)) t496).bind fun bt497 => (some (bt497.1, bt497.2))) = some (r1, r2) := H; have A25 := Aside0.mk A250; clear A250; replace H := Option.bind_eq_some_iff.mp H; obtain ⟨⟨t497, t500⟩, A260, H⟩ := H; replace H : (some (t497, t500)) = some (r1, r2) := H; have A26 := Aside0.mk A260; clear A260; simp only [Option.some.injEq, Prod.mk.injEq] at H; obtain ⟨rfl, rfl⟩ := H
   go_enter Tryd.func55, Tryd.ntmps55
   try go_wp2_with (first | ((with_reducible refine gate_dst (N := 2) rfl ?_); refine box_event ?hg (N := 2) ?hd (cs := #[.slice none 0 0, .int .i64 0]) (t := 31) ?hr ?_; (case hd => rfl); (case hg => rfl); (case hr => first | (go_simp; done) | (go_simp; rfl)); intro gb480 hg w27 hbox hb; have BK480 := Aside0.mk (hbox); have GW480 := kG hg HB; have GE480 := kG hg HB; replace HB := kH HB hb; clear hb hbox hg) | ((with_reducible refine gate_callee (f := 65) rfl ?_); refine goesL_ (some 6) rfl rfl Tryd.func65 (by kernel_rfl) rfl #[.int .i64 a0] rfl km ?_; (with_reducible refine (dod_ones.calls k a0 t481 _ A2.out).mono ?_); rintro e w' ⟨rfl, ⟨nd, rfl⟩⟩; refine ⟨_, rfl, ?_⟩; (try (rw [drewN_self w27]; generalize hq_ : World.drewN w27 _ = w27; have n0_ : Aside0 (w27.heap[gb480]? = some (.cells #[.slice none 0 0, .int .i64 0] 31 (0, 0))) := ⟨by rw [← hq_]; exact (kb BK480)⟩; have n1_ : Aside0 (Below w.heap.size w w27) := ⟨by rw [← hq_]; exact (kl HB)⟩; clear BK480 HB hq_; have BK480 := n0_; have HB := n1_; clear n0_ n1_))) | ((with_reducible refine gate_callee (f := 44) rfl ?_); refine goesL_ (some 12) rfl rfl Tryd.func44 (by kernel_rfl) rfl #[.agg #[.slice none 0 0, .int .i64 0], .int .u64 (IntKind.u64.wrap ((ji4) - 1)), .int .i64 t481] rfl (by (try simp only [List.map_toArray, List.map_cons, List.map_nil]); first | done | (simp only [hji4]; rfl) | rfl | (simp only [List.length_drop, List.length_take]; rfl)) ?_; (refine (bits_Put.calls k _ _ ([] : List Int) 0 (IntKind.u64.wrap ((ji4) - 1)) t481 t482 t485 _ ?side1 ?side2 A5.out).mono ?_); (case side1 => exact Kd.C_nil _ _); (case side2 => exact Nat.le_refl _); rintro e w28 ⟨v483, rfl, ho0, hb⟩; refine ⟨_, rfl, ?_⟩; have HO484 := Aside0.mk (Kd.R_lower ho0 (below_size (kl HB))); replace BK480 := kB BK480 hb; replace HB := kH HB hb; (try clear hb); (try clear hb2); (try clear hk); (try clear hi); (try clear hgw); (try clear ho0)) | ((with_reducible refine gate_dst (N := 4) rfl ?_); refine box_event ?hg (N := 4) ?hd (cs := #[.slice none 0 0, .int .i64 0]) (t := 31) ?hr ?_; (case hd => rfl); (case hg => rfl); (case hr => first | (go_simp; done) | (go_simp; rfl)); intro gb486 hg w29 hbox hb; replace HO484 := Aside0.mk (Kd.R_below (kr HO484) hb); have BK486 := Aside0.mk (hbox); have GW486 := kG hg HB; have GE486 := kG hg HB; replace HB := kH HB hb; obtain ⟨NB480_486, NB486_480⟩ := kN hg BK480; replace BK480 := kB BK480 hb; clear hb hbox hg; obtain ⟨Ao30, co30, eo30⟩ := Kd.R_slice HO484.out; subst eo30; have hnb31 := NB486_480.out; have hnc31 := NB480_486.out; have hcz32_0 : w29.cell? ⟨gb486, 0, none⟩ = some (.slice none 0 0) := (blk_cell BK486.out 0).trans rfl; have hcz32_1 : w29.cell? ⟨gb486, 1, none⟩ = some (.int .i64 0) := (blk_cell BK486.out 1).trans rfl; have hfz32_0 := blk_frozen BK486.out 0; have hfz32_1 := blk_frozen BK486.out 1))
   generalize hw_ : ((w29.setCell ⟨gb486, 0, none⟩ (.slice Ao30 t482.length co30)).setCell ⟨gb486, 1, none⟩ (.int .i64 t485)) = w33; have n0_ : Aside0 (Kd.R (Kd.int .u8) 5 w33 w.heap.size (fun _ => True) (.slice Ao30 t482.length co30) t482) := ⟨by rw [← hw_]; (with_reducible repeat (first | apply Kd.R_alloc | apply Kd.R_drewN | apply Kd.R_drew)); exact Kd.R_mono (Kd.R_far (p := ⟨gb486, 1, none⟩) (Kd.R_far (p := ⟨gb486, 0, none⟩) (Kd.R_types HO484.out BK486.out (by decide)) (fun _ hk => hk.2) (.slice Ao30 t482.length co30)) (fun _ hk => hk.2) (.int .i64 t485)) (fun _ hk => trivial)⟩; have n1_ : Aside0 (w33.heap[gb480]? = some (.cells #[.slice none 0 0, .int .i64 0] 31 (0, 0))) := ⟨by rw [← hw_]; exact kb BK480⟩; have n2_ : Aside0 (w33.heap[gb486]? = some (.cells #[.slice Ao30 t482.length co30, .int .i64 t485] 31 (0, 0))) := ⟨by rw [← hw_]; exact kb BK486⟩; have n3_ : Aside0 (Below w.heap.size w w33) := ⟨by rw [← hw_]; repeat (first | (with_reducible first | exact HB.out | apply below_alloc | apply pw_below_drewN | apply below_drew1 | refine below_set ?_ GE480.out | refine below_set ?_ GE486.out) | exact HB.out)⟩; (try clear HO484); (try clear BK480); (try clear BK486); (try clear HB); clear hw_; have HO484 := n0_; have BK480 := n1_; have BK486 := n2_; have HB := n3_; clear n0_ n1_ n2_ n3_; replace HO484 := Aside0.mk (Kd.R_drew HO484.out); replace BK480 := Aside0.mk (blk_drew BK480.out); replace BK486 := Aside0.mk (blk_drew BK486.out); replace HB := Aside0.mk (below_drew1 HB.out); refine start_ (n := 7) (S := fun w' => w'.cell? ⟨gb486, 0, none⟩ = some (.slice Ao30 t482.length co30) ∧ w'.cell? ⟨gb486, 1, none⟩ = some (.int .i64 t485)) (ds := []) (bl 7 0) (by kernel_rfl) rfl rfl kz (fun hHeld => ?_); generalize w33.drew = w34 at HO484 BK480 BK486 HB hHeld ⊢; refine pu 1 (some 18) (bl 7 2) (h := ?_); refine pu 2 (some 19) (bl 7 6) (h := ?_); refine pu 3 (some 20) (bl 7 14) (h := ?_); refine ta 0 (some 17) (bl 7 15) (h := ?_); refine one_ (i := 4) (N := some 21) #[true, true, true, true, true, false, false] rfl rfl (by kernel_rfl) (by decide) (fun K hK => ?_); refine goes_ Tryd.func66 (by kernel_rfl) rfl #[.int .i64 t481] (by rfl) rfl rfl km ?_
   with_reducible refine (dod_body.calls t481 t496 _ A25.out).mono ?_
   rintro e w' ⟨rfl, ⟨nd, rfl⟩⟩; refine ⟨_, rfl, ?_⟩; refine hK.out _ _ kz (fun hHeld => ?_); clear hK K; refine norm_ (a' := ?_) ?_ ?_
   rotate_left
   ·show Act.put _ (some 21) _ = _
    simp only [Act.put, List.setIfInBounds_toArray, List.set_cons_zero, List.set_cons_succ, i64_w, i32_w]
    rfl
   refine one_ (i := 5) (N := some 22) #[true, true, true, true, true, true, false] rfl rfl (by kernel_rfl) (by decide) (fun K hK => ?_); refine goes_ Tryd.func44 (by kernel_rfl) rfl #[.agg #[.slice Ao30 t482.length co30, .int .i64 t485], .int .u64 (IntKind.u64.wrap (a0)), .int .i64 t496] (by rfl) rfl rfl km ?_
   with_reducible refine (bits_Put.calls k _ _ t482 t485 (IntKind.u64.wrap (a0)) t496 t497 t500 _ ?side1 ?side2 A26.out).mono ?_
   (case side1 => repeat (first | exact (Kd.R_reads' HO484.out).2.2 | (with_reducible refine Kd.C_alloc ?_ _) | (with_reducible refine Kd.C_drewN ?_ _) | (with_reducible refine Kd.C_drew ?_)))
   (case side2 => exact (Kd.R_reads' HO484.out).2.1)
   rintro e w35 ⟨v498, rfl, ho0, hb⟩; refine ⟨_, rfl, ?_⟩; have HO499 := Aside0.mk (Kd.R_lower (Kd.R_new' ho0 (Kd.R_lt (kr HO484))) (below_size (kl HB))); replace HO484 := Aside0.mk (Kd.R_elder' (kr HO484) (Kd.R_base ho0) hb); replace BK480 := kB BK480 hb; replace BK486 := kB BK486 hb; replace HB := kH HB hb; (try clear hb); (try clear hb2); (try clear hk); (try clear hi); (try clear hgw); (try clear ho0); obtain ⟨Ao36, co36, eo36⟩ := Kd.R_slice HO499.out
   (first | subst eo36 | (injection eo36 with f1_ f2_ f3_; have f4_ := f1_.symm; have f5_ := f3_.symm; clear f1_ f2_ f3_; subst f4_; subst f5_))
   refine hK.out _ _ kz (fun hHeld => ?_); clear hK K; refine norm_ (a' := ?_) ?_ ?_
   rotate_left
   ·show Act.put _ (some 22) _ = _
    simp only [Act.put, List.setIfInBounds_toArray, List.set_cons_zero, List.set_cons_succ, i64_w, i32_w]
    rfl
   refine one_ (i := 6) (N := none) #[true, true, true, true, true, true, true] rfl rfl (by kernel_rfl) (by decide) (fun K hK => ?_); have hs37 : w35.cell? ⟨gb480, 0, none⟩ = some (.slice none 0 0) := (blk_cell BK480.out 0).trans rfl; have hfs37 := blk_frozen BK480.out 0; have hns37_1 := NB486_480.out; have hms37_1 := NB480_486.out; have hs38 : w35.cell? ⟨gb480, 1, none⟩ = some (.int .i64 0) := (blk_cell BK480.out 1).trans rfl; have hfs38 := blk_frozen BK480.out 1; refine skip_ (w1 := ?_) (by rfl) rfl ?_ ?_
   rotate_left
   ·go_simp
    rfl
   refine hK.out _ _ (ks hHeld) (fun hHeld => ?_); clear hK K; refine done_ (by kernel_rfl) ?_
   try go_wp2
   refine bodyPost_ret (results_cell_row rfl _ _ gb480 31 #[.slice Ao36 t497.length co36, .int .i64 t500] (0, 0) _ rfl (kb BK480) Tryd.underlying31 rfl (by kernel_rfl)) rfl ?_
   exact ⟨_, by first | rfl | (simp [errW_none, errW_some] <;> rfl) | (simp only [← hji4]; first | rfl | (simp [errW_none, errW_some] <;> rfl)) | (simp [*, errW_none, errW_some] <;> rfl), by (with_reducible repeat (first | apply Kd.R_alloc | apply Kd.R_drewN | apply Kd.R_drew)); exact Kd.R_mono (Kd.R_far (p := ⟨gb480, 1, none⟩) (Kd.R_far (p := ⟨gb480, 0, none⟩) (Kd.R_types HO499.out BK480.out (by decide)) (fun _ hk => hk.2) (.slice Ao36 t497.length co36)) (fun _ hk => hk.2) (.int .i64 t500)) (fun _ hk => trivial), (kl HB)⟩
 ·rw [if_neg c3] at H
  exact absurd H (by simp)
end Go.Proofs.YtiahbcaoikoogaaDoor.All
