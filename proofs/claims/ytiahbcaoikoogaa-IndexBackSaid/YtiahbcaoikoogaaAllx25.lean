-- written by a program of the session out of the translation; Lean checks it
import Derived.Test.YtiahbcaoikoogaaAllx0
namespace Go.Proofs.Ytiahbcaoikoogaa.All
open Go.RowKit Go.Proofs.YtiahbcaoikoogaaW.PrintWords Go.Proofs.YtiahbcaoikoogaaW.PrintLast Go.Proofs.YtiahbcaoikoogaaW.PrintMore
attribute [local go_sem] max2_int min2_int max_two min_two max_three min_three max_four min_four   -- for this text's walks alone
set_option linter.unusedVariables false
set_option linter.unusedSimpArgs false

/-! ### gaiterref01_GetUvar: function 40 -/
mutual
def gaiterref01_GetUvar.j0 : Nat → List Int → Int → Bool → Option (Int × Int × Int)
 | 0, _, _, _ => none
 | k + 1, x0, x1, x18 => if x18 = true then (some (0, 0, 2)) else (if 0 ≤ x1 then (if x1 ≤ (x0.length : Int) then (gaiterref01_GetUvar.l0 k (x0.drop (x1 : Int).toNat) 0) else (none)) else (none))
def gaiterref01_GetUvar.j2 : Nat → List Int → Int → Option (Int × Int × Int)
 | 0, _, _ => none
 | k + 1, x7, x8 => if x8 < 9 then (gaiterref01_GetUvar.j3 k x7 x8 (x8 == (x7.length : Int))) else (gaiterref01_GetUvar.j3 k x7 x8 false)
def gaiterref01_GetUvar.j3 : Nat → List Int → Int → Bool → Option (Int × Int × Int)
 | 0, _, _, _ => none
 | k + 1, x7, x8, x46 => if x46 = true then (some (0, 0, 2)) else (if x8 ≥ 9 then (if (x7.length : Int) < 10 then (some (0, 0, 2)) else (if 9 < (x7.length : Int) then (if (rd x7 9) > 1 then (some (0, 0, 3)) else (gaiterref01_GetUvar.j4 k x7 x8)) else (none))) else (gaiterref01_GetUvar.j4 k x7 x8))
def gaiterref01_GetUvar.j4 : Nat → List Int → Int → Option (Int × Int × Int)
 | 0, _, _ => none
 | k + 1, x7, x8 => if x8 > 0 then (if 0 ≤ x8 then (if x8 < (x7.length : Int) then (gaiterref01_GetUvar.j5 k x7 x8 ((rd x7 x8) == 0)) else (none)) else (none)) else (gaiterref01_GetUvar.j5 k x7 x8 false)
def gaiterref01_GetUvar.j5 : Nat → List Int → Int → Bool → Option (Int × Int × Int)
 | 0, _, _, _ => none
 | k + 1, x7, x8, x64 => if x64 = true then (some (0, 0, 3)) else (gaiterref01_GetUvar.l1 k x7 x8 0 x8)
def gaiterref01_GetUvar.l1 : Nat → List Int → Int → Int → Int → Option (Int × Int × Int)
 | 0, _, _, _, _ => none
 | k + 1, x7, x8, x9, x10 => if x10 ≥ 0 then (if 0 ≤ x10 then (if x10 < (x7.length : Int) then (gaiterref01_GetUvar.l1 k x7 x8 (IntKind.u64.wrap ((IntKind.u64.wrap (128 * x9)) + (IntKind.u64.wrap (Int.tmod (rd x7 x10) 128)))) (wrap64 (x10 - 1))) else (none)) else (none)) else (some (x9, wrap64 (x8 + 1), 0))
def gaiterref01_GetUvar.l0 : Nat → List Int → Int → Option (Int × Int × Int)
 | 0, _, _ => none
 | k + 1, x7, x8 => if x8 < (x7.length : Int) then (if x8 < 10 then (if 0 ≤ x8 then (if (rd x7 x8) ≥ 128 then (gaiterref01_GetUvar.l0 k x7 (wrap64 (x8 + 1))) else (gaiterref01_GetUvar.j2 k x7 x8)) else (none)) else (gaiterref01_GetUvar.j2 k x7 x8)) else (gaiterref01_GetUvar.j2 k x7 x8)
end
def gaiterref01_GetUvar.f (k : Nat) (l0 : List Int) (a1 : Int) : Option (Int × Int × Int) := if a1 < 0 then (gaiterref01_GetUvar.j0 k l0 a1 true) else (gaiterref01_GetUvar.j0 k l0 a1 (decide (a1 > (l0.length : Int))))
theorem gaiterref01_GetUvar.mono_l : ∀ k, (∀ y0 y1 y2, LeO (gaiterref01_GetUvar.j0 k y0 y1 y2) (gaiterref01_GetUvar.j0 (k + 1) y0 y1 y2)) ∧ (∀ y0 y1, LeO (gaiterref01_GetUvar.j2 k y0 y1) (gaiterref01_GetUvar.j2 (k + 1) y0 y1)) ∧ (∀ y0 y1 y2, LeO (gaiterref01_GetUvar.j3 k y0 y1 y2) (gaiterref01_GetUvar.j3 (k + 1) y0 y1 y2)) ∧ (∀ y0 y1, LeO (gaiterref01_GetUvar.j4 k y0 y1) (gaiterref01_GetUvar.j4 (k + 1) y0 y1)) ∧ (∀ y0 y1 y2, LeO (gaiterref01_GetUvar.j5 k y0 y1 y2) (gaiterref01_GetUvar.j5 (k + 1) y0 y1 y2)) ∧ (∀ y0 y1 y2 y3, LeO (gaiterref01_GetUvar.l1 k y0 y1 y2 y3) (gaiterref01_GetUvar.l1 (k + 1) y0 y1 y2 y3)) ∧ (∀ y0 y1, LeO (gaiterref01_GetUvar.l0 k y0 y1) (gaiterref01_GetUvar.l0 (k + 1) y0 y1))
 | 0 => ⟨fun _ _ _ r h => by simp [gaiterref01_GetUvar.j0] at h, fun _ _ r h => by simp [gaiterref01_GetUvar.j2] at h, fun _ _ _ r h => by simp [gaiterref01_GetUvar.j3] at h, fun _ _ r h => by simp [gaiterref01_GetUvar.j4] at h, fun _ _ _ r h => by simp [gaiterref01_GetUvar.j5] at h, fun _ _ _ _ r h => by simp [gaiterref01_GetUvar.l1] at h, fun _ _ r h => by simp [gaiterref01_GetUvar.l0] at h⟩
 | k + 1 => by
  obtain ⟨ih0, ih1, ih2, ih3, ih4, ih5, ih6⟩ := gaiterref01_GetUvar.mono_l k
  refine ⟨?_, ?_, ?_, ?_, ?_, ?_, ?_⟩
  ·intro y0 y1 y2
   unfold gaiterref01_GetUvar.j0
   repeat' first
   | (with_reducible exact ih0 _ _ _)
   | (with_reducible exact ih1 _ _)
   | (with_reducible exact ih2 _ _ _)
   | (with_reducible exact ih3 _ _)
   | (with_reducible exact ih4 _ _ _)
   | (with_reducible exact ih5 _ _ _ _)
   | (with_reducible exact ih6 _ _)
   | (with_reducible exact LeO.refl _)
   | (with_reducible exact LeO.none _)
   | (with_reducible refine LeO.ite ?_ ?_)
   | (with_reducible refine LeO.bind ?_ (fun _ => ?_))
   | exact ih0 _ _ _
   | exact ih1 _ _
   | exact ih2 _ _ _
   | exact ih3 _ _
   | exact ih4 _ _ _
   | exact ih5 _ _ _ _
   | exact ih6 _ _
   | exact LeO.none _
   | refine LeO.ite ?_ ?_
   | refine LeO.bind ?_ (fun _ => ?_)
  ·intro y0 y1
   unfold gaiterref01_GetUvar.j2
   repeat' first
   | (with_reducible exact ih0 _ _ _)
   | (with_reducible exact ih1 _ _)
   | (with_reducible exact ih2 _ _ _)
   | (with_reducible exact ih3 _ _)
   | (with_reducible exact ih4 _ _ _)
   | (with_reducible exact ih5 _ _ _ _)
   | (with_reducible exact ih6 _ _)
   | (with_reducible exact LeO.refl _)
   | (with_reducible exact LeO.none _)
   | (with_reducible refine LeO.ite ?_ ?_)
   | (with_reducible refine LeO.bind ?_ (fun _ => ?_))
   | exact ih0 _ _ _
   | exact ih1 _ _
   | exact ih2 _ _ _
   | exact ih3 _ _
   | exact ih4 _ _ _
   | exact ih5 _ _ _ _
   | exact ih6 _ _
   | exact LeO.none _
   | refine LeO.ite ?_ ?_
   | refine LeO.bind ?_ (fun _ => ?_)
  ·intro y0 y1 y2
   unfold gaiterref01_GetUvar.j3
   repeat' first
   | (with_reducible exact ih0 _ _ _)
   | (with_reducible exact ih1 _ _)
   | (with_reducible exact ih2 _ _ _)
   | (with_reducible exact ih3 _ _)
   | (with_reducible exact ih4 _ _ _)
   | (with_reducible exact ih5 _ _ _ _)
   | (with_reducible exact ih6 _ _)
   | (with_reducible exact LeO.refl _)
   | (with_reducible exact LeO.none _)
   | (with_reducible refine LeO.ite ?_ ?_)
   | (with_reducible refine LeO.bind ?_ (fun _ => ?_))
   | exact ih0 _ _ _
   | exact ih1 _ _
   | exact ih2 _ _ _
   | exact ih3 _ _
   | exact ih4 _ _ _
   | exact ih5 _ _ _ _
   | exact ih6 _ _
   | exact LeO.none _
   | refine LeO.ite ?_ ?_
   | refine LeO.bind ?_ (fun _ => ?_)
  ·intro y0 y1
   unfold gaiterref01_GetUvar.j4
   repeat' first
   | (with_reducible exact ih0 _ _ _)
   | (with_reducible exact ih1 _ _)
   | (with_reducible exact ih2 _ _ _)
   | (with_reducible exact ih3 _ _)
   | (with_reducible exact ih4 _ _ _)
   | (with_reducible exact ih5 _ _ _ _)
   | (with_reducible exact ih6 _ _)
   | (with_reducible exact LeO.refl _)
   | (with_reducible exact LeO.none _)
   | (with_reducible refine LeO.ite ?_ ?_)
   | (with_reducible refine LeO.bind ?_ (fun _ => ?_))
   | exact ih0 _ _ _
   | exact ih1 _ _
   | exact ih2 _ _ _
   | exact ih3 _ _
   | exact ih4 _ _ _
   | exact ih5 _ _ _ _
   | exact ih6 _ _
   | exact LeO.none _
   | refine LeO.ite ?_ ?_
   | refine LeO.bind ?_ (fun _ => ?_)
  ·intro y0 y1 y2
   unfold gaiterref01_GetUvar.j5
   repeat' first
   | (with_reducible exact ih0 _ _ _)
   | (with_reducible exact ih1 _ _)
   | (with_reducible exact ih2 _ _ _)
   | (with_reducible exact ih3 _ _)
   | (with_reducible exact ih4 _ _ _)
   | (with_reducible exact ih5 _ _ _ _)
   | (with_reducible exact ih6 _ _)
   | (with_reducible exact LeO.refl _)
   | (with_reducible exact LeO.none _)
   | (with_reducible refine LeO.ite ?_ ?_)
   | (with_reducible refine LeO.bind ?_ (fun _ => ?_))
   | exact ih0 _ _ _
   | exact ih1 _ _
   | exact ih2 _ _ _
   | exact ih3 _ _
   | exact ih4 _ _ _
   | exact ih5 _ _ _ _
   | exact ih6 _ _
   | exact LeO.none _
   | refine LeO.ite ?_ ?_
   | refine LeO.bind ?_ (fun _ => ?_)
  ·intro y0 y1 y2 y3
   unfold gaiterref01_GetUvar.l1
   repeat' first
   | (with_reducible exact ih0 _ _ _)
   | (with_reducible exact ih1 _ _)
   | (with_reducible exact ih2 _ _ _)
   | (with_reducible exact ih3 _ _)
   | (with_reducible exact ih4 _ _ _)
   | (with_reducible exact ih5 _ _ _ _)
   | (with_reducible exact ih6 _ _)
   | (with_reducible exact LeO.refl _)
   | (with_reducible exact LeO.none _)
   | (with_reducible refine LeO.ite ?_ ?_)
   | (with_reducible refine LeO.bind ?_ (fun _ => ?_))
   | exact ih0 _ _ _
   | exact ih1 _ _
   | exact ih2 _ _ _
   | exact ih3 _ _
   | exact ih4 _ _ _
   | exact ih5 _ _ _ _
   | exact ih6 _ _
   | exact LeO.none _
   | refine LeO.ite ?_ ?_
   | refine LeO.bind ?_ (fun _ => ?_)
  ·intro y0 y1
   unfold gaiterref01_GetUvar.l0
   repeat' first
   | (with_reducible exact ih0 _ _ _)
   | (with_reducible exact ih1 _ _)
   | (with_reducible exact ih2 _ _ _)
   | (with_reducible exact ih3 _ _)
   | (with_reducible exact ih4 _ _ _)
   | (with_reducible exact ih5 _ _ _ _)
   | (with_reducible exact ih6 _ _)
   | (with_reducible exact LeO.refl _)
   | (with_reducible exact LeO.none _)
   | (with_reducible refine LeO.ite ?_ ?_)
   | (with_reducible refine LeO.bind ?_ (fun _ => ?_))
   | exact ih0 _ _ _
   | exact ih1 _ _
   | exact ih2 _ _ _
   | exact ih3 _ _
   | exact ih4 _ _ _
   | exact ih5 _ _ _ _
   | exact ih6 _ _
   | exact LeO.none _
   | refine LeO.ite ?_ ?_
   | refine LeO.bind ?_ (fun _ => ?_)
theorem gaiterref01_GetUvar.mono : ∀ a0 a1 k, LeO (gaiterref01_GetUvar.f k a0 a1) (gaiterref01_GetUvar.f (k + 1) a0 a1) := by
 intro a0 a1 k
 obtain ⟨ih0, ih1, ih2, ih3, ih4, ih5, ih6⟩ := gaiterref01_GetUvar.mono_l k
 unfold gaiterref01_GetUvar.f
 repeat' first
   | (with_reducible exact ih0 _ _ _)
   | (with_reducible exact ih1 _ _)
   | (with_reducible exact ih2 _ _ _)
   | (with_reducible exact ih3 _ _)
   | (with_reducible exact ih4 _ _ _)
   | (with_reducible exact ih5 _ _ _ _)
   | (with_reducible exact ih6 _ _)
   | (with_reducible exact LeO.refl _)
   | (with_reducible exact LeO.none _)
   | (with_reducible refine LeO.ite ?_ ?_)
   | (with_reducible refine LeO.bind ?_ (fun _ => ?_))
   | exact ih0 _ _ _
   | exact ih1 _ _
   | exact ih2 _ _ _
   | exact ih3 _ _
   | exact ih4 _ _ _
   | exact ih5 _ _ _ _
   | exact ih6 _ _
   | exact LeO.none _
   | refine LeO.ite ?_ ?_
   | refine LeO.bind ?_ (fun _ => ?_)
set_option maxHeartbeats 8000000 in
set_option maxRecDepth 100000 in
theorem gaiterref01_GetUvar.calls (k : Nat) (A0 : Option Addr) (c0 : Nat) (l0 : List Int) (a1 : Int) (r1 : Int) (r2 : Int) (r3 : Int) (w : World) (hr0 : Kd.C (Kd.int .u8) w A0 l0.length l0) (hc0 : l0.length ≤ c0) (h : gaiterref01_GetUvar.f k l0 a1 = some (r1, r2, r3)) :
  Calls Try.prog 40 #[.slice A0 l0.length c0, .int .i64 a1] w fun e w' => e = .returned (.tuple #[.int .u64 r1, .int .i64 r2, .int .i64 r3]) ∧ Drawn0 w w' := by
 have HR0 := Aside0.mk hr0
 have HC0 := Aside0.mk hc0
 clear hr0 hc0
 have H : (if a1 < 0 then (gaiterref01_GetUvar.j0 k l0 a1 true) else (gaiterref01_GetUvar.j0 k l0 a1 (decide (a1 > (l0.length : Int))))) = some (r1, r2, r3) := h
 clear h
 have HC3 := Aside0.mk H
 clear H
 go_enter Try.func40, Try.ntmps40
 go_upto_region 1 with (fail)
 go_cut [18] (fun v18 wc => ∃ (kq : Nat) (x18_2 : Bool), v18 = .bool x18_2 ∧ Aside0 (gaiterref01_GetUvar.j0 kq l0 a1 x18_2 = some (r1, r2, r3)) ∧ Aside0 (kq ≤ k) ∧ Drawn0 w wc)
 case first =>
  have H := HC3.out
  clear HC3
  by_cases c4 : a1 < 0
  ·rw [if_pos c4] at H
   have c4b0 : decide (a1 < 0) = true := decide_eq_true c4
   clear c4
   (first | rw [c4b0] | (simp only [i64_w, i32_w]; rw [c4b0]) | skip)
   have H' := Aside0.mk H
   clear H
   go_wp2
   go_meet
   case rel => exact ⟨_, (true), (by first | rfl | (simp; done) | (simp [*]; done)), H', ⟨by first | omega | exact Nat.le_refl _⟩, by repeat (first | exact Drawn0.refl _ | apply Drawn0.step)⟩
  ·rw [if_neg c4] at H
   have c4b0 : decide (a1 < 0) = false := decide_eq_false c4
   clear c4
   (first | rw [c4b0] | (simp only [i64_w, i32_w]; rw [c4b0]) | skip)
   have H' := Aside0.mk H
   clear H
   go_wp2
   go_meet
   case rel => exact ⟨_, (decide (a1 > (l0.length : Int))), (by first | rfl | (simp; done) | (simp [*]; done)), H', ⟨by first | omega | exact Nat.le_refl _⟩, by repeat (first | exact Drawn0.refl _ | apply Drawn0.step)⟩
 case rest =>
  clear HC3
  try clear p2
  try clear c4
  try clear c4b0
  obtain ⟨kq, x18_2, rfl, HA, HJ2, ⟨mc2, rfl⟩⟩ := hcut
  cases kq with
  | zero => exact absurd HA.out (by simp [gaiterref01_GetUvar.j0])
  | succ kj2 =>
   have H := HA.out
   clear HA
   simp only [gaiterref01_GetUvar.j0] at H
   by_cases c5 : x18_2 = true
   ·subst c5
    have H1 : (some (0, 0, 2)) = some (r1, r2, r3) := by rw [if_pos rfl] at H; exact H
    clear H
    have H := H1
    clear H1
    simp only [Option.some.injEq, Prod.mk.injEq] at H
    obtain ⟨rfl, rfl, rfl⟩ := H
    go_wp2
    go_ret3
    exact ⟨by first | rfl | (simp; done) | (simp [*]; done), by repeat (first | exact Drawn0.refl _ | apply Drawn0.step)⟩
   ·replace c5 := Bool.eq_false_iff.mpr c5
    subst c5
    have H1 : (if 0 ≤ a1 then (if a1 ≤ (l0.length : Int) then (gaiterref01_GetUvar.l0 kj2 (l0.drop (a1 : Int).toNat) 0) else (none)) else (none)) = some (r1, r2, r3) := by rw [if_neg (show ¬ (false = true) by decide)] at H; exact H
    clear H
    have H := H1
    clear H1
    by_cases c6 : 0 ≤ a1
    ·rw [if_pos c6] at H
     have c6b0 := eq_true c6
     have c6b1 : decide (0 ≤ a1) = true := decide_eq_true c6
     clear c6
     by_cases c7 : a1 ≤ (l0.length : Int)
     ·rw [if_pos c7] at H
      have c7b0 := eq_true c7
      have c7b1 : decide (a1 ≤ (l0.length : Int)) = true := decide_eq_true c7
      clear c7
      have HC8 := Aside0.mk H
      clear H
      obtain ⟨i09, hi09, _, hsz9, _⟩ := info_parts info5
      obtain ⟨A9, hcut9, hA9, hC9⟩ := print_drop_of (P := Try.prog) (Value.int .u8) 0 54 5 .i64 Try.underlying54 hi09 hsz9 A0 c0 l0 a1 (of_decide_eq_true (by first | (with_reducible assumption) | assumption)) (of_decide_eq_true (by first | (with_reducible assumption) | assumption)) HC0.out
      have HR444 := Aside0.mk (Kd.C_of_reads (h1 := fun _ => rfl) (hA9 _ (Kd.reads_of_C HR0.out)))
      have HC444 := Aside0.mk hC9
      clear hA9 hC9 hi09 hsz9
      go_upto_block 0 with (fail)
      go_cut [8] (fun v8 wc => ∃ (kq : Nat) (x8_7 : Int), v8 = .int .i64 x8_7 ∧ Aside0 (gaiterref01_GetUvar.j2 kq (l0.drop (a1 : Int).toNat) x8_7 = some (r1, r2, r3)) ∧ Aside0 (kq ≤ kj2) ∧ Drawn0 w wc)
      case first =>
       have H := HC8.out
       clear HC8
       have H' := Aside0.mk H
       clear H
       go_wp2
       go_loopg [8] kj2 (fun kq v8 w' => ∃ (x8_2 : Int), v8 = .int .i64 x8_2 ∧ Aside0 (gaiterref01_GetUvar.l0 kq (l0.drop (a1 : Int).toNat) x8_2 = some (r1, r2, r3)) ∧ Aside0 (kq ≤ kj2) ∧ Drawn0 w w')
       case atStart => exact ⟨(0), (by first | rfl | (simp; done) | (simp [*]; done)), H', ⟨Nat.le_refl _⟩, by repeat (first | exact Drawn0.refl _ | apply Drawn0.step)⟩
       case round =>
        clear H'
        try clear c2
        try clear p2
        try clear c4
        try clear c4b0
        try clear c5
        try clear c6
        try clear c6b0
        try clear c6b1
        try clear c7
        try clear c7b0
        try clear c7b1
        try clear p2
        obtain ⟨x8_2, rfl, HA, HK2, ⟨m2, rfl⟩⟩ := hrel
        cases gk with
        | zero => exact absurd HA.out (by simp [gaiterref01_GetUvar.l0])
        | succ k2 =>
         have H := HA.out
         clear HA
         simp only [gaiterref01_GetUvar.l0] at H
         by_cases c10 : x8_2 < ((l0.drop (a1 : Int).toNat).length : Int)
         ·rw [if_pos c10] at H
          have c10b0 : decide (x8_2 < ((l0.drop (a1 : Int).toNat).length : Int)) = true := decide_eq_true c10
          (try (have c10s0 := c10b0; simp only [List.length_drop, List.length_take] at c10s0))
          clear c10
          (first | rw [c10b0] | (simp only [i64_w, i32_w]; rw [c10b0]) | skip)
          by_cases c11 : x8_2 < 10
          ·rw [if_pos c11] at H
           have c11b0 : decide (x8_2 < 10) = true := decide_eq_true c11
           clear c11
           by_cases c12 : 0 ≤ x8_2
           ·rw [if_pos c12] at H
            have c12b0 : decide (0 ≤ x8_2) = true := decide_eq_true c12
            clear c12
            by_cases c13 : (rd (l0.drop (a1 : Int).toNat) x8_2) ≥ 128
            ·rw [if_pos c13] at H
             have c13b0 : decide (128 ≤ (rd (l0.drop (a1 : Int).toNat) x8_2)) = true := decide_eq_true c13
             clear c13
             have H' := Aside0.mk H
             clear H
             have p445 : 0 ≤ (x8_2 : Int) := of_decide_eq_true (by first | (with_reducible assumption) | assumption)
             have q445 : x8_2 < ((l0.drop (a1 : Int).toNat).length : Int) := of_decide_eq_true (by first | (with_reducible assumption) | assumption)
             obtain ⟨ad445, e445, hx445_0⟩ := Kd.at_int HR444.out x8_2 p445 q445
             cases e445
             replace p445 := eq_true p445
             (try (have q445s := q445; simp only [List.length_drop, List.length_take] at q445s; replace q445s := eq_true q445s)); replace q445 := eq_true q445
             go_wp2
             go_roundg k2
             case measure => have := HJ2.out; have := HK2.out; omega
             case rel => exact ⟨(wrap64 (x8_2 + 1)), (by first | rfl | (simp; done) | (simp [*]; done)), H', ⟨by have := HJ2.out; have := HK2.out; omega⟩, by repeat (first | exact Drawn0.refl _ | apply Drawn0.step)⟩
            ·rw [if_neg c13] at H
             have c13b0 : decide (128 ≤ (rd (l0.drop (a1 : Int).toNat) x8_2)) = false := decide_eq_false c13
             clear c13
             have H' := Aside0.mk H
             clear H
             have p445 : 0 ≤ (x8_2 : Int) := of_decide_eq_true (by first | (with_reducible assumption) | assumption)
             have q445 : x8_2 < ((l0.drop (a1 : Int).toNat).length : Int) := of_decide_eq_true (by first | (with_reducible assumption) | assumption)
             obtain ⟨ad445, e445, hx445_0⟩ := Kd.at_int HR444.out x8_2 p445 q445
             cases e445
             replace p445 := eq_true p445
             (try (have q445s := q445; simp only [List.length_drop, List.length_take] at q445s; replace q445s := eq_true q445s)); replace q445 := eq_true q445
             go_wp2
             go_meet
             case rel => exact ⟨_, (x8_2), (by first | rfl | (simp; done) | (simp [*]; done)), H', ⟨by have := HJ2.out; have := HK2.out; first | omega | exact Nat.le_refl _⟩, by repeat (first | exact Drawn0.refl _ | apply Drawn0.step)⟩
           ·rw [if_neg c12] at H
            exact absurd H (by simp)
          ·rw [if_neg c11] at H
           have c11b0 : decide (x8_2 < 10) = false := decide_eq_false c11
           clear c11
           have H' := Aside0.mk H
           clear H
           go_wp2
           go_meet
           case rel => exact ⟨_, (x8_2), (by first | rfl | (simp; done) | (simp [*]; done)), H', ⟨by have := HJ2.out; have := HK2.out; first | omega | exact Nat.le_refl _⟩, by repeat (first | exact Drawn0.refl _ | apply Drawn0.step)⟩
         ·rw [if_neg c10] at H
          have c10b0 : decide (x8_2 < ((l0.drop (a1 : Int).toNat).length : Int)) = false := decide_eq_false c10
          (try (have c10s0 := c10b0; simp only [List.length_drop, List.length_take] at c10s0))
          clear c10
          (first | rw [c10b0] | (simp only [i64_w, i32_w]; rw [c10b0]) | skip)
          have H' := Aside0.mk H
          clear H
          go_wp2
          go_meet
          case rel => exact ⟨_, (x8_2), (by first | rfl | (simp; done) | (simp [*]; done)), H', ⟨by have := HJ2.out; have := HK2.out; first | omega | exact Nat.le_refl _⟩, by repeat (first | exact Drawn0.refl _ | apply Drawn0.step)⟩
      case rest =>
       clear HC8
       try clear c1
       try clear c2
       try clear p2
       try clear c4
       try clear c4b0
       try clear p4
       try clear q4
       try clear hx4
       try clear c5
       try clear c6
       try clear c6b0
       try clear c6b1
       try clear p6
       try clear c7
       try clear c7b0
       try clear c7b1
       try clear c10
       try clear c10b0
       try clear c11
       try clear c11b0
       try clear c12
       try clear c12b0
       try clear c13
       try clear c13b0
       try clear hx445_0
       try clear p2
       try clear p445
       try clear q445
       obtain ⟨kq, x8_7, rfl, HA, HJ7, ⟨mc7, rfl⟩⟩ := hcut
       cases kq with
       | zero => exact absurd HA.out (by simp [gaiterref01_GetUvar.j2])
       | succ kj7 =>
        have H := HA.out
        clear HA
        simp only [gaiterref01_GetUvar.j2] at H
        have HC14 := Aside0.mk H
        clear H
        go_upto_region 7 with (fail)
        go_cut [46] (fun v46 wc => ∃ (kq : Nat) (x46_13 : Bool), v46 = .bool x46_13 ∧ Aside0 (gaiterref01_GetUvar.j3 kq (l0.drop (a1 : Int).toNat) x8_7 x46_13 = some (r1, r2, r3)) ∧ Aside0 (kq ≤ kj7) ∧ Drawn0 w wc)
        case first =>
         have H := HC14.out
         clear HC14
         by_cases c15 : x8_7 < 9
         ·rw [if_pos c15] at H
          have c15b0 : decide (x8_7 < 9) = true := decide_eq_true c15
          clear c15
          (first | rw [c15b0] | (simp only [i64_w, i32_w]; rw [c15b0]) | skip)
          have H' := Aside0.mk H
          clear H
          go_wp2
          go_meet
          case rel => exact ⟨_, ((x8_7 == ((l0.drop (a1 : Int).toNat).length : Int))), (by first | rfl | (simp; done) | (simp [*]; done)), H', ⟨by have := HJ2.out; have := HJ7.out; first | omega | exact Nat.le_refl _⟩, by repeat (first | exact Drawn0.refl _ | apply Drawn0.step)⟩
         ·rw [if_neg c15] at H
          have c15b0 : decide (x8_7 < 9) = false := decide_eq_false c15
          clear c15
          (first | rw [c15b0] | (simp only [i64_w, i32_w]; rw [c15b0]) | skip)
          have H' := Aside0.mk H
          clear H
          go_wp2
          go_meet
          case rel => exact ⟨_, (false), (by first | rfl | (simp; done) | (simp [*]; done)), H', ⟨by have := HJ2.out; have := HJ7.out; first | omega | exact Nat.le_refl _⟩, by repeat (first | exact Drawn0.refl _ | apply Drawn0.step)⟩
        case rest =>
         clear HC14
         try clear c1
         try clear c2
         try clear p2
         try clear c4
         try clear c4b0
         try clear p4
         try clear q4
         try clear hx4
         try clear c5
         try clear c6
         try clear c6b0
         try clear c6b1
         try clear p6
         try clear c7
         try clear c7b0
         try clear c7b1
         try clear c10
         try clear c10b0
         try clear c11
         try clear c11b0
         try clear c12
         try clear c12b0
         try clear c13
         try clear c13b0
         try clear c15
         try clear c15b0
         try clear hx445_0
         try clear p2
         try clear p4
         try clear p445
         try clear p6
         try clear q4
         try clear q445
         obtain ⟨kq, x46_13, rfl, HA, HJ13, ⟨mc13, rfl⟩⟩ := hcut
         cases kq with
         | zero => exact absurd HA.out (by simp [gaiterref01_GetUvar.j3])
         | succ kj13 =>
          have H := HA.out
          clear HA
          simp only [gaiterref01_GetUvar.j3] at H
          by_cases c16 : x46_13 = true
          ·subst c16
           have H1 : (some (0, 0, 2)) = some (r1, r2, r3) := by rw [if_pos rfl] at H; exact H
           clear H
           have H := H1
           clear H1
           simp only [Option.some.injEq, Prod.mk.injEq] at H
           obtain ⟨rfl, rfl, rfl⟩ := H
           go_wp2
           go_ret3
           exact ⟨by first | rfl | (simp; done) | (simp [*]; done), by repeat (first | exact Drawn0.refl _ | apply Drawn0.step)⟩
          ·replace c16 := Bool.eq_false_iff.mpr c16
           subst c16
           have H1 : (if x8_7 ≥ 9 then (if ((l0.drop (a1 : Int).toNat).length : Int) < 10 then (some (0, 0, 2)) else (if 9 < ((l0.drop (a1 : Int).toNat).length : Int) then (if (rd (l0.drop (a1 : Int).toNat) 9) > 1 then (some (0, 0, 3)) else (gaiterref01_GetUvar.j4 kj13 (l0.drop (a1 : Int).toNat) x8_7)) else (none))) else (gaiterref01_GetUvar.j4 kj13 (l0.drop (a1 : Int).toNat) x8_7)) = some (r1, r2, r3) := by rw [if_neg (show ¬ (false = true) by decide)] at H; exact H
           clear H
           have H := H1
           clear H1
           have HC17 := Aside0.mk H
           clear H
           go_upto_if 48 with (fail)
           go_cut [] (fun wc => ∃ (kq : Nat), Aside0 (gaiterref01_GetUvar.j4 kq (l0.drop (a1 : Int).toNat) x8_7 = some (r1, r2, r3)) ∧ Aside0 (kq ≤ kj13) ∧ Drawn0 w wc)
           case first =>
            have H := HC17.out
            clear HC17
            by_cases c18 : x8_7 ≥ 9
            ·rw [if_pos c18] at H
             have c18b0 : decide (9 ≤ x8_7) = true := decide_eq_true c18
             clear c18
             (first | rw [c18b0] | (simp only [i64_w, i32_w]; rw [c18b0]) | skip)
             by_cases c19 : ((l0.drop (a1 : Int).toNat).length : Int) < 10
             ·rw [if_pos c19] at H
              have c19b0 : decide (((l0.drop (a1 : Int).toNat).length : Int) < 10) = true := decide_eq_true c19
              have c19b1 : decide ((l0.drop (a1 : Int).toNat).length < 10) = true := decide_eq_true (by omega)
              (try (have c19s0 := c19b0; simp only [List.length_drop, List.length_take] at c19s0))
              (try (have c19s1 := c19b1; simp only [List.length_drop, List.length_take] at c19s1))
              clear c19
              simp only [Option.some.injEq, Prod.mk.injEq] at H
              obtain ⟨rfl, rfl, rfl⟩ := H
              go_wp2
              go_ret3
              exact ⟨by first | rfl | (simp; done) | (simp [*]; done), by repeat (first | exact Drawn0.refl _ | apply Drawn0.step)⟩
             ·rw [if_neg c19] at H
              have c19b0 : decide (((l0.drop (a1 : Int).toNat).length : Int) < 10) = false := decide_eq_false c19
              have c19b1 : decide ((l0.drop (a1 : Int).toNat).length < 10) = false := decide_eq_false (by omega)
              (try (have c19s0 := c19b0; simp only [List.length_drop, List.length_take] at c19s0))
              (try (have c19s1 := c19b1; simp only [List.length_drop, List.length_take] at c19s1))
              clear c19
              by_cases c20 : 9 < ((l0.drop (a1 : Int).toNat).length : Int)
              ·rw [if_pos c20] at H
               have c20b0 : decide (9 < ((l0.drop (a1 : Int).toNat).length : Int)) = true := decide_eq_true c20
               have c20b1 : decide (9 < (l0.drop (a1 : Int).toNat).length) = true := decide_eq_true (by omega)
               (try (have c20s0 := c20b0; simp only [List.length_drop, List.length_take] at c20s0))
               (try (have c20s1 := c20b1; simp only [List.length_drop, List.length_take] at c20s1))
               clear c20
               by_cases c21 : (rd (l0.drop (a1 : Int).toNat) 9) > 1
               ·rw [if_pos c21] at H
                have c21b0 : decide (1 < (rd (l0.drop (a1 : Int).toNat) 9)) = true := decide_eq_true c21
                clear c21
                simp only [Option.some.injEq, Prod.mk.injEq] at H
                obtain ⟨rfl, rfl, rfl⟩ := H
                have p446 : 0 ≤ (9 : Int) := (by omega)
                have q446 : 9 < ((l0.drop (a1 : Int).toNat).length : Int) := of_decide_eq_true (by first | (with_reducible assumption) | assumption)
                obtain ⟨ad446, e446, hx446_0⟩ := Kd.at_int HR444.out 9 p446 q446
                cases e446
                (try simp only [show (9 : Int).toNat = 9 from rfl, Nat.reduceMul, Nat.reduceEqDiff, Go.Addr.add, ↓reduceIte] at hx446_0)
                have qi446 : (9 < (l0.drop (a1 : Int).toNat).length) = True := eq_true (by omega)
                (try rw [show ((9 : Int)).toNat = 9 from rfl] at hx446_0)
                replace p446 := eq_true p446
                (try (have q446s := q446; simp only [List.length_drop, List.length_take] at q446s; replace q446s := eq_true q446s)); replace q446 := eq_true q446
                go_wp2
                go_ret3
                exact ⟨by first | rfl | (simp; done) | (simp [*]; done), by repeat (first | exact Drawn0.refl _ | apply Drawn0.step)⟩
               ·rw [if_neg c21] at H
                have c21b0 : decide (1 < (rd (l0.drop (a1 : Int).toNat) 9)) = false := decide_eq_false c21
                clear c21
                have H' := Aside0.mk H
                clear H
                have p446 : 0 ≤ (9 : Int) := (by omega)
                have q446 : 9 < ((l0.drop (a1 : Int).toNat).length : Int) := of_decide_eq_true (by first | (with_reducible assumption) | assumption)
                obtain ⟨ad446, e446, hx446_0⟩ := Kd.at_int HR444.out 9 p446 q446
                cases e446
                (try simp only [show (9 : Int).toNat = 9 from rfl, Nat.reduceMul, Nat.reduceEqDiff, Go.Addr.add, ↓reduceIte] at hx446_0)
                have qi446 : (9 < (l0.drop (a1 : Int).toNat).length) = True := eq_true (by omega)
                (try rw [show ((9 : Int)).toNat = 9 from rfl] at hx446_0)
                replace p446 := eq_true p446
                (try (have q446s := q446; simp only [List.length_drop, List.length_take] at q446s; replace q446s := eq_true q446s)); replace q446 := eq_true q446
                go_wp2
                go_meet
                case rel => exact ⟨_, H', ⟨by have := HJ2.out; have := HJ7.out; have := HJ13.out; first | omega | exact Nat.le_refl _⟩, by repeat (first | exact Drawn0.refl _ | apply Drawn0.step)⟩
              ·rw [if_neg c20] at H
               exact absurd H (by simp)
            ·rw [if_neg c18] at H
             have c18b0 : decide (9 ≤ x8_7) = false := decide_eq_false c18
             clear c18
             (first | rw [c18b0] | (simp only [i64_w, i32_w]; rw [c18b0]) | skip)
             have H' := Aside0.mk H
             clear H
             go_wp2
             go_meet
             case rel => exact ⟨_, H', ⟨by have := HJ2.out; have := HJ7.out; have := HJ13.out; first | omega | exact Nat.le_refl _⟩, by repeat (first | exact Drawn0.refl _ | apply Drawn0.step)⟩
           case rest =>
            clear HC17
            try clear c1
            try clear c2
            try clear p2
            try clear c4
            try clear c4b0
            try clear p4
            try clear q4
            try clear hx4
            try clear qi4
            try clear c5
            try clear c6
            try clear c6b0
            try clear c6b1
            try clear p6
            try clear c7
            try clear c7b0
            try clear c7b1
            try clear c10
            try clear c10b0
            try clear c11
            try clear c11b0
            try clear c12
            try clear c12b0
            try clear c13
            try clear c13b0
            try clear c15
            try clear c15b0
            try clear c16
            try clear c18
            try clear c18b0
            try clear c19
            try clear c19b0
            try clear c19b1
            try clear c20
            try clear c20b0
            try clear c20b1
            try clear c21
            try clear c21b0
            try clear hx445_0
            try clear hx446_0
            try clear p2
            try clear p4
            try clear p445
            try clear p446
            try clear p6
            try clear q4
            try clear q445
            try clear q446
            obtain ⟨kq, HA, HJ16, ⟨mc16, rfl⟩⟩ := hcut
            cases kq with
            | zero => exact absurd HA.out (by simp [gaiterref01_GetUvar.j4])
            | succ kj16 =>
             have H := HA.out
             clear HA
             simp only [gaiterref01_GetUvar.j4] at H
             have HC22 := Aside0.mk H
             clear H
             go_upto_region 14 with (fail)
             go_cut [64] (fun v64 wc => ∃ (kq : Nat) (x64_21 : Bool), v64 = .bool x64_21 ∧ Aside0 (gaiterref01_GetUvar.j5 kq (l0.drop (a1 : Int).toNat) x8_7 x64_21 = some (r1, r2, r3)) ∧ Aside0 (kq ≤ kj16) ∧ Drawn0 w wc)
             case first =>
              have H := HC22.out
              clear HC22
              by_cases c23 : x8_7 > 0
              ·rw [if_pos c23] at H
               have c23b0 : decide (0 < x8_7) = true := decide_eq_true c23
               clear c23
               (first | rw [c23b0] | (simp only [i64_w, i32_w]; rw [c23b0]) | skip)
               by_cases c24 : 0 ≤ x8_7
               ·rw [if_pos c24] at H
                have c24b0 : decide (0 ≤ x8_7) = true := decide_eq_true c24
                clear c24
                by_cases c25 : x8_7 < ((l0.drop (a1 : Int).toNat).length : Int)
                ·rw [if_pos c25] at H
                 have c25b0 : decide (x8_7 < ((l0.drop (a1 : Int).toNat).length : Int)) = true := decide_eq_true c25
                 (try (have c25s0 := c25b0; simp only [List.length_drop, List.length_take] at c25s0))
                 clear c25
                 have H' := Aside0.mk H
                 clear H
                 have p447 : 0 ≤ (x8_7 : Int) := of_decide_eq_true (by first | (with_reducible assumption) | assumption)
                 have q447 : x8_7 < ((l0.drop (a1 : Int).toNat).length : Int) := of_decide_eq_true (by first | (with_reducible assumption) | assumption)
                 obtain ⟨ad447, e447, hx447_0⟩ := Kd.at_int HR444.out x8_7 p447 q447
                 cases e447
                 replace p447 := eq_true p447
                 (try (have q447s := q447; simp only [List.length_drop, List.length_take] at q447s; replace q447s := eq_true q447s)); replace q447 := eq_true q447
                 go_wp2
                 go_meet
                 case rel => exact ⟨_, (((rd (l0.drop (a1 : Int).toNat) x8_7) == 0)), (by first | rfl | (simp; done) | (simp [*]; done)), H', ⟨by have := HJ2.out; have := HJ7.out; have := HJ13.out; have := HJ16.out; first | omega | exact Nat.le_refl _⟩, by repeat (first | exact Drawn0.refl _ | apply Drawn0.step)⟩
                ·rw [if_neg c25] at H
                 exact absurd H (by simp)
               ·rw [if_neg c24] at H
                exact absurd H (by simp)
              ·rw [if_neg c23] at H
               have c23b0 : decide (0 < x8_7) = false := decide_eq_false c23
               clear c23
               (first | rw [c23b0] | (simp only [i64_w, i32_w]; rw [c23b0]) | skip)
               have H' := Aside0.mk H
               clear H
               go_wp2
               go_meet
               case rel => exact ⟨_, (false), (by first | rfl | (simp; done) | (simp [*]; done)), H', ⟨by have := HJ2.out; have := HJ7.out; have := HJ13.out; have := HJ16.out; first | omega | exact Nat.le_refl _⟩, by repeat (first | exact Drawn0.refl _ | apply Drawn0.step)⟩
             case rest =>
              clear HC22
              try clear c1
              try clear c2
              try clear p2
              try clear c4
              try clear c4b0
              try clear p4
              try clear q4
              try clear hx4
              try clear qi4
              try clear c5
              try clear c6
              try clear c6b0
              try clear c6b1
              try clear p6
              try clear c7
              try clear c7b0
              try clear c7b1
              try clear c10
              try clear c10b0
              try clear c11
              try clear c11b0
              try clear c12
              try clear c12b0
              try clear c13
              try clear c13b0
              try clear c15
              try clear c15b0
              try clear c16
              try clear c18
              try clear c18b0
              try clear c19
              try clear c19b0
              try clear c19b1
              try clear c20
              try clear c20b0
              try clear c20b1
              try clear c21
              try clear c21b0
              try clear c23
              try clear c23b0
              try clear c24
              try clear c24b0
              try clear c25
              try clear c25b0
              try clear hx445_0
              try clear hx446_0
              try clear hx447_0
              try clear p2
              try clear p4
              try clear p445
              try clear p446
              try clear p447
              try clear p6
              try clear q4
              try clear q445
              try clear q446
              try clear q447
              obtain ⟨kq, x64_21, rfl, HA, HJ21, ⟨mc21, rfl⟩⟩ := hcut
              cases kq with
              | zero => exact absurd HA.out (by simp [gaiterref01_GetUvar.j5])
              | succ kj21 =>
               have H := HA.out
               clear HA
               simp only [gaiterref01_GetUvar.j5] at H
               by_cases c26 : x64_21 = true
               ·subst c26
                have H1 : (some (0, 0, 3)) = some (r1, r2, r3) := by rw [if_pos rfl] at H; exact H
                clear H
                have H := H1
                clear H1
                simp only [Option.some.injEq, Prod.mk.injEq] at H
                obtain ⟨rfl, rfl, rfl⟩ := H
                go_wp2
                go_ret3
                exact ⟨by first | rfl | (simp; done) | (simp [*]; done), by repeat (first | exact Drawn0.refl _ | apply Drawn0.step)⟩
               ·replace c26 := Bool.eq_false_iff.mpr c26
                subst c26
                have H1 : (gaiterref01_GetUvar.l1 kj21 (l0.drop (a1 : Int).toNat) x8_7 0 x8_7) = some (r1, r2, r3) := by rw [if_neg (show ¬ (false = true) by decide)] at H; exact H
                clear H
                have H := H1
                clear H1
                have H' := Aside0.mk H
                clear H
                go_wp2
                go_loopg [9, 10] kj21 (fun kq v9 v10 w' => ∃ (x9_6 : Int) (x10_6 : Int), v9 = .int .u64 x9_6 ∧ v10 = .int .i64 x10_6 ∧ Aside0 (gaiterref01_GetUvar.l1 kq (l0.drop (a1 : Int).toNat) x8_7 x9_6 x10_6 = some (r1, r2, r3)) ∧ Aside0 (kq ≤ kj21) ∧ Drawn0 w w')
                case atStart => exact ⟨(0), (x8_7), (by first | rfl | (simp; done) | (simp [*]; done)), (by first | rfl | (simp; done) | (simp [*]; done)), H', ⟨Nat.le_refl _⟩, by repeat (first | exact Drawn0.refl _ | apply Drawn0.step)⟩
                case round =>
                 clear H'
                 try clear c1
                 try clear c2
                 try clear p2
                 try clear c4
                 try clear c4b0
                 try clear p4
                 try clear q4
                 try clear hx4
                 try clear qi4
                 try clear c5
                 try clear c6
                 try clear c6b0
                 try clear c6b1
                 try clear p6
                 try clear c7
                 try clear c7b0
                 try clear c7b1
                 try clear c10
                 try clear c10b0
                 try clear c11
                 try clear c11b0
                 try clear c12
                 try clear c12b0
                 try clear c13
                 try clear c13b0
                 try clear c15
                 try clear c15b0
                 try clear c16
                 try clear c18
                 try clear c18b0
                 try clear c19
                 try clear c19b0
                 try clear c19b1
                 try clear c20
                 try clear c20b0
                 try clear c20b1
                 try clear c21
                 try clear c21b0
                 try clear c23
                 try clear c23b0
                 try clear c24
                 try clear c24b0
                 try clear c25
                 try clear c25b0
                 try clear c26
                 try clear hx445_0
                 try clear hx446_0
                 try clear hx447_0
                 try clear p2
                 try clear p4
                 try clear p445
                 try clear p446
                 try clear p447
                 try clear p6
                 try clear q4
                 try clear q445
                 try clear q446
                 try clear q447
                 obtain ⟨x9_6, x10_6, rfl, rfl, HA, HK6, ⟨m6, rfl⟩⟩ := hrel
                 cases gk with
                 | zero => exact absurd HA.out (by simp [gaiterref01_GetUvar.l1])
                 | succ k6 =>
                  have H := HA.out
                  clear HA
                  simp only [gaiterref01_GetUvar.l1] at H
                  by_cases c27 : x10_6 ≥ 0
                  ·rw [if_pos c27] at H
                   have c27b0 : decide (0 ≤ x10_6) = true := decide_eq_true c27
                   clear c27
                   by_cases c28 : 0 ≤ x10_6
                   ·rw [if_pos c28] at H
                    have c28b0 : decide (0 ≤ x10_6) = true := decide_eq_true c28
                    clear c28
                    by_cases c29 : x10_6 < ((l0.drop (a1 : Int).toNat).length : Int)
                    ·rw [if_pos c29] at H
                     have c29b0 : decide (x10_6 < ((l0.drop (a1 : Int).toNat).length : Int)) = true := decide_eq_true c29
                     (try (have c29s0 := c29b0; simp only [List.length_drop, List.length_take] at c29s0))
                     clear c29
                     have H' := Aside0.mk H
                     clear H
                     have p448 : 0 ≤ (x10_6 : Int) := of_decide_eq_true (by first | (with_reducible assumption) | assumption)
                     have q448 : x10_6 < ((l0.drop (a1 : Int).toNat).length : Int) := of_decide_eq_true (by first | (with_reducible assumption) | assumption)
                     obtain ⟨ad448, e448, hx448_0⟩ := Kd.at_int HR444.out x10_6 p448 q448
                     cases e448
                     replace p448 := eq_true p448
                     (try (have q448s := q448; simp only [List.length_drop, List.length_take] at q448s; replace q448s := eq_true q448s)); replace q448 := eq_true q448
                     go_wp2
                     go_roundg k6
                     case measure => have := HJ2.out; have := HJ7.out; have := HJ13.out; have := HJ16.out; have := HJ21.out; have := HK6.out; omega
                     case rel => exact ⟨(IntKind.u64.wrap ((IntKind.u64.wrap (128 * x9_6)) + (IntKind.u64.wrap (Int.tmod (rd (l0.drop (a1 : Int).toNat) x10_6) 128)))), (wrap64 (x10_6 - 1)), (by first | rfl | (simp; done) | (simp [*]; done)), (by first | rfl | (simp; done) | (simp [*]; done)), H', ⟨by have := HJ2.out; have := HJ7.out; have := HJ13.out; have := HJ16.out; have := HJ21.out; have := HK6.out; omega⟩, by repeat (first | exact Drawn0.refl _ | apply Drawn0.step)⟩
                    ·rw [if_neg c29] at H
                     exact absurd H (by simp)
                   ·rw [if_neg c28] at H
                    exact absurd H (by simp)
                  ·rw [if_neg c27] at H
                   have c27b0 : decide (0 ≤ x10_6) = false := decide_eq_false c27
                   clear c27
                   simp only [Option.some.injEq, Prod.mk.injEq] at H
                   obtain ⟨rfl, rfl, rfl⟩ := H
                   go_wp2
                   go_ret3
                   exact ⟨by first | rfl | (simp; done) | (simp [*]; done), by repeat (first | exact Drawn0.refl _ | apply Drawn0.step)⟩
     ·rw [if_neg c7] at H
      exact absurd H (by simp)
    ·rw [if_neg c6] at H
     exact absurd H (by simp)

end Go.Proofs.Ytiahbcaoikoogaa.All
