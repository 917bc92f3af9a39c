-- written by a program of the session out of the translation; Lean checks it
import Derived.Test.YtiahbcaoikoogaaAllx0
import Derived.Test.YtiahbcaoikoogaaAllx20
import Derived.Test.YtiahbcaoikoogaaAllx25
import Derived.Test.YtiahbcaoikoogaaAllx26
namespace Go.Proofs.Ytiahbcaoikoogaa.All
open Go.RowKit Go.Proofs.YtiahbcaoikoogaaW.PrintWords Go.Proofs.YtiahbcaoikoogaaW.PrintLast Go.Proofs.YtiahbcaoikoogaaW.PrintMore
attribute [local go_sem] max2_int min2_int max_two min_two max_three min_three max_four min_four   -- for this text's walks alone
set_option linter.unusedVariables false
set_option linter.unusedSimpArgs false

/-! ### gaiterref09_GetIndex: function 28 -/
mutual
def gaiterref09_GetIndex.j0 : Nat → List Int → Bool → Option (Int × (List (S79)) × Int × Int)
 | 0, _, _ => none
 | k + 1, x0, x34 => if x34 = true then (some (0, ([] : List (S79)), 0, 5)) else (if (x0.length : Int) < 5 then (some (0, ([] : List (S79)), 0, 2)) else (if 4 < (x0.length : Int) then (if (wrap64 (rd x0 4)) = 1 then (gaiterref09_GetIndex.j1 k x0 (wrap64 (rd x0 4)) false) else (gaiterref09_GetIndex.j1 k x0 (wrap64 (rd x0 4)) ((wrap64 (rd x0 4)) != 2))) else (none)))
def gaiterref09_GetIndex.j1 : Nat → List Int → Int → Bool → Option (Int × (List (S79)) × Int × Int)
 | 0, _, _, _ => none
 | k + 1, x0, x6, x47 => if x47 = true then (some (0, ([] : List (S79)), 0, 6)) else ((gaiterref01_GetUvar.f k x0 5).bind fun bt452 => (if bt452.2.2 = 0 then (if bt452.1 > 65535 then (some (0, ([] : List (S79)), 0, 9)) else (gaiterref09_GetIndex.l0 k x0 x6 bt452.1 (wrap64 (5 + bt452.2.1)) ([] : List (S79)) true 0 0)) else (some (0, ([] : List (S79)), 0, bt452.2.2))))
def gaiterref09_GetIndex.l0 : Nat → List Int → Int → Int → Int → List (S79) → Bool → Int → Int → Option (Int × (List (S79)) × Int × Int)
 | 0, _, _, _, _, _, _, _, _ => none
 | k + 1, x0, x6, x7, x10, x11, x12, x13, x14 => if x14 < (wrap64 (x7)) then (if (wrap64 ((x0.length : Int) - x10)) < 8 then (some (0, ([] : List (S79)), 0, 2)) else (if 0 ≤ x10 then (if x10 ≤ (wrap64 (x10 + 8)) then (if (wrap64 (x10 + 8)) ≤ (x0.length : Int) then ((gaiterref09_number.f k ((x0.take ((wrap64 (x10 + 8)) : Int).toNat).drop (x10 : Int).toNat)).bind fun t456 => (gaiterref09_GetIndex.l1 k x0 x6 x7 (wrap64 (x10 + 8)) x11 x12 x13 x14 ([] : List Int) 0 (wrap64 (t456)) 0 0 0)) else (none)) else (none)) else (none))) else (if (wrap64 ((x0.length : Int) - x10)) < 4 then (some (0, ([] : List (S79)), 0, 2)) else (if 0 ≤ x10 then (if x10 ≤ (wrap64 (x10 + 4)) then (if (wrap64 (x10 + 4)) ≤ (x0.length : Int) then ((gaiterref09_number.f k ((x0.take ((wrap64 (x10 + 4)) : Int).toNat).drop (x10 : Int).toNat)).bind fun t487 => (if x10 ≤ (x0.length : Int) then ((gaiterref09_Sum.f k (x0.take (x10 : Int).toNat)).bind fun t489 => (if t487 = (IntKind.u64.wrap (t489)) then ((gaiterref09_MayIndex.f k x6 x11).bind fun t490 => (if x12 = true then (if t490 = true then (if x13 = (IntKind.u64.wrap (wrap64 ((wrap64 ((x0.length : Int) - x10)) - 4))) then (some (x6, x11, wrap64 (x10 + 4), 0)) else (some (0, ([] : List (S79)), 0, 8))) else (some (0, ([] : List (S79)), 0, 8))) else (some (0, ([] : List (S79)), 0, 8)))) else (some (0, ([] : List (S79)), 0, 7)))) else (none))) else (none)) else (none)) else (none)))
def gaiterref09_GetIndex.l1 : Nat → List Int → Int → Int → Int → List (S79) → Bool → Int → Int → List Int → Int → Int → Int → Int → Int → Option (Int × (List (S79)) × Int × Int)
 | 0, _, _, _, _, _, _, _, _, _, _, _, _, _, _ => none
 | k + 1, x0, x6, x7, x10, x11, x12, x13, x14, x16, x17, x458000, x458001, x458002, x458003 => if x17 < 3 then ((gaiterref01_GetUvar.f k x0 x10).bind fun bt458 => (if bt458.2.2 = 0 then (if x16.length < 17592186044416 then (gaiterref09_GetIndex.l1 k x0 x6 x7 (wrap64 (x10 + bt458.2.1)) x11 x12 x13 x14 (x16 ++ [bt458.1]) (wrap64 (x17 + 1)) x458000 x458001 x458002 x458003) else (none)) else (some (0, ([] : List (S79)), 0, bt458.2.2)))) else (if x12 = true then (if 0 < (x16.length : Int) then (if (rd x16 0) ≤ (IntKind.u64.wrap (9223372036854775807 - (IntKind.u64.wrap (x458000)))) then (if 1 < (x16.length : Int) then (if (rd x16 1) ≤ 65535 then (if 2 < (x16.length : Int) then (if (rd x16 2) ≤ 2147483647 then (if x11.length < 4398046511104 then (gaiterref09_GetIndex.l0 k x0 x6 x7 x10 (x11 ++ [(⟨x458000, wrap64 (x458000 + (wrap64 (rd x16 0))), wrap64 (rd x16 1), wrap64 (rd x16 2)⟩ : S79)]) (decide ((rd x16 2) ≤ 2147483647)) (IntKind.u64.wrap (x13 + (rd x16 2))) (wrap64 (x14 + 1))) else (none)) else (if x11.length < 4398046511104 then (gaiterref09_GetIndex.l0 k x0 x6 x7 x10 (x11 ++ [(⟨x458000, x458001, x458002, x458003⟩ : S79)]) (decide ((rd x16 2) ≤ 2147483647)) x13 (wrap64 (x14 + 1))) else (none))) else (none)) else (if x11.length < 4398046511104 then (gaiterref09_GetIndex.l0 k x0 x6 x7 x10 (x11 ++ [(⟨x458000, x458001, x458002, x458003⟩ : S79)]) false x13 (wrap64 (x14 + 1))) else (none))) else (none)) else (if x11.length < 4398046511104 then (gaiterref09_GetIndex.l0 k x0 x6 x7 x10 (x11 ++ [(⟨x458000, x458001, x458002, x458003⟩ : S79)]) false x13 (wrap64 (x14 + 1))) else (none))) else (none)) else (if x11.length < 4398046511104 then (gaiterref09_GetIndex.l0 k x0 x6 x7 x10 (x11 ++ [(⟨x458000, x458001, x458002, x458003⟩ : S79)]) false x13 (wrap64 (x14 + 1))) else (none)))
end
def gaiterref09_GetIndex.f (k : Nat) (l0 : List Int) : Option (Int × (List (S79)) × Int × Int) := if (l0.length : Int) < 4 then (gaiterref09_GetIndex.j0 k l0 true) else (if 0 ≤ (mn (l0.length : Int) 4) then (if (mn (l0.length : Int) 4) ≤ (l0.length : Int) then (gaiterref09_GetIndex.j0 k l0 ((strOfNums (l0.take ((mn (l0.length : Int) 4) : Int).toNat)).toList != ([71, 84, 83, 49] : List UInt8))) else (none)) else (none))
theorem gaiterref09_GetIndex.mono_l : ∀ k, (∀ y0 y1, LeO (gaiterref09_GetIndex.j0 k y0 y1) (gaiterref09_GetIndex.j0 (k + 1) y0 y1)) ∧ (∀ y0 y1 y2, LeO (gaiterref09_GetIndex.j1 k y0 y1 y2) (gaiterref09_GetIndex.j1 (k + 1) y0 y1 y2)) ∧ (∀ y0 y1 y2 y3 y4 y5 y6 y7, LeO (gaiterref09_GetIndex.l0 k y0 y1 y2 y3 y4 y5 y6 y7) (gaiterref09_GetIndex.l0 (k + 1) y0 y1 y2 y3 y4 y5 y6 y7)) ∧ (∀ y0 y1 y2 y3 y4 y5 y6 y7 y8 y9 y10 y11 y12 y13, LeO (gaiterref09_GetIndex.l1 k y0 y1 y2 y3 y4 y5 y6 y7 y8 y9 y10 y11 y12 y13) (gaiterref09_GetIndex.l1 (k + 1) y0 y1 y2 y3 y4 y5 y6 y7 y8 y9 y10 y11 y12 y13))
 | 0 => ⟨fun _ _ r h => by simp [gaiterref09_GetIndex.j0] at h, fun _ _ _ r h => by simp [gaiterref09_GetIndex.j1] at h, fun _ _ _ _ _ _ _ _ r h => by simp [gaiterref09_GetIndex.l0] at h, fun _ _ _ _ _ _ _ _ _ _ _ _ _ _ r h => by simp [gaiterref09_GetIndex.l1] at h⟩
 | k + 1 => by
  obtain ⟨ih0, ih1, ih2, ih3⟩ := gaiterref09_GetIndex.mono_l k
  refine ⟨?_, ?_, ?_, ?_⟩
  ·intro y0 y1
   unfold gaiterref09_GetIndex.j0
   repeat' first
   | (with_reducible exact ih0 _ _)
   | (with_reducible exact ih1 _ _ _)
   | (with_reducible exact ih2 _ _ _ _ _ _ _ _)
   | (with_reducible exact ih3 _ _ _ _ _ _ _ _ _ _ _ _ _ _)
   | (with_reducible exact gaiterref01_GetUvar.mono _ _ _)
   | (with_reducible exact gaiterref09_MayIndex.mono _ _ _)
   | (with_reducible exact gaiterref09_Sum.mono _ _)
   | (with_reducible exact gaiterref09_number.mono _ _)
   | (with_reducible exact LeO.refl _)
   | (with_reducible exact LeO.none _)
   | (with_reducible refine LeO.ite ?_ ?_)
   | (with_reducible refine LeO.bind ?_ (fun _ => ?_))
   | exact ih0 _ _
   | exact ih1 _ _ _
   | exact ih2 _ _ _ _ _ _ _ _
   | exact ih3 _ _ _ _ _ _ _ _ _ _ _ _ _ _
   | exact gaiterref01_GetUvar.mono _ _ _
   | exact gaiterref09_MayIndex.mono _ _ _
   | exact gaiterref09_Sum.mono _ _
   | exact gaiterref09_number.mono _ _
   | exact LeO.none _
   | refine LeO.ite ?_ ?_
   | refine LeO.bind ?_ (fun _ => ?_)
  ·intro y0 y1 y2
   unfold gaiterref09_GetIndex.j1
   repeat' first
   | (with_reducible exact ih0 _ _)
   | (with_reducible exact ih1 _ _ _)
   | (with_reducible exact ih2 _ _ _ _ _ _ _ _)
   | (with_reducible exact ih3 _ _ _ _ _ _ _ _ _ _ _ _ _ _)
   | (with_reducible exact gaiterref01_GetUvar.mono _ _ _)
   | (with_reducible exact gaiterref09_MayIndex.mono _ _ _)
   | (with_reducible exact gaiterref09_Sum.mono _ _)
   | (with_reducible exact gaiterref09_number.mono _ _)
   | (with_reducible exact LeO.refl _)
   | (with_reducible exact LeO.none _)
   | (with_reducible refine LeO.ite ?_ ?_)
   | (with_reducible refine LeO.bind ?_ (fun _ => ?_))
   | exact ih0 _ _
   | exact ih1 _ _ _
   | exact ih2 _ _ _ _ _ _ _ _
   | exact ih3 _ _ _ _ _ _ _ _ _ _ _ _ _ _
   | exact gaiterref01_GetUvar.mono _ _ _
   | exact gaiterref09_MayIndex.mono _ _ _
   | exact gaiterref09_Sum.mono _ _
   | exact gaiterref09_number.mono _ _
   | exact LeO.none _
   | refine LeO.ite ?_ ?_
   | refine LeO.bind ?_ (fun _ => ?_)
  ·intro y0 y1 y2 y3 y4 y5 y6 y7
   unfold gaiterref09_GetIndex.l0
   repeat' first
   | (with_reducible exact ih0 _ _)
   | (with_reducible exact ih1 _ _ _)
   | (with_reducible exact ih2 _ _ _ _ _ _ _ _)
   | (with_reducible exact ih3 _ _ _ _ _ _ _ _ _ _ _ _ _ _)
   | (with_reducible exact gaiterref01_GetUvar.mono _ _ _)
   | (with_reducible exact gaiterref09_MayIndex.mono _ _ _)
   | (with_reducible exact gaiterref09_Sum.mono _ _)
   | (with_reducible exact gaiterref09_number.mono _ _)
   | (with_reducible exact LeO.refl _)
   | (with_reducible exact LeO.none _)
   | (with_reducible refine LeO.ite ?_ ?_)
   | (with_reducible refine LeO.bind ?_ (fun _ => ?_))
   | exact ih0 _ _
   | exact ih1 _ _ _
   | exact ih2 _ _ _ _ _ _ _ _
   | exact ih3 _ _ _ _ _ _ _ _ _ _ _ _ _ _
   | exact gaiterref01_GetUvar.mono _ _ _
   | exact gaiterref09_MayIndex.mono _ _ _
   | exact gaiterref09_Sum.mono _ _
   | exact gaiterref09_number.mono _ _
   | exact LeO.none _
   | refine LeO.ite ?_ ?_
   | refine LeO.bind ?_ (fun _ => ?_)
  ·intro y0 y1 y2 y3 y4 y5 y6 y7 y8 y9 y10 y11 y12 y13
   unfold gaiterref09_GetIndex.l1
   repeat' first
   | (with_reducible exact ih0 _ _)
   | (with_reducible exact ih1 _ _ _)
   | (with_reducible exact ih2 _ _ _ _ _ _ _ _)
   | (with_reducible exact ih3 _ _ _ _ _ _ _ _ _ _ _ _ _ _)
   | (with_reducible exact gaiterref01_GetUvar.mono _ _ _)
   | (with_reducible exact gaiterref09_MayIndex.mono _ _ _)
   | (with_reducible exact gaiterref09_Sum.mono _ _)
   | (with_reducible exact gaiterref09_number.mono _ _)
   | (with_reducible exact LeO.refl _)
   | (with_reducible exact LeO.none _)
   | (with_reducible refine LeO.ite ?_ ?_)
   | (with_reducible refine LeO.bind ?_ (fun _ => ?_))
   | exact ih0 _ _
   | exact ih1 _ _ _
   | exact ih2 _ _ _ _ _ _ _ _
   | exact ih3 _ _ _ _ _ _ _ _ _ _ _ _ _ _
   | exact gaiterref01_GetUvar.mono _ _ _
   | exact gaiterref09_MayIndex.mono _ _ _
   | exact gaiterref09_Sum.mono _ _
   | exact gaiterref09_number.mono _ _
   | exact LeO.none _
   | refine LeO.ite ?_ ?_
   | refine LeO.bind ?_ (fun _ => ?_)
theorem gaiterref09_GetIndex.mono : ∀ a0 k, LeO (gaiterref09_GetIndex.f k a0) (gaiterref09_GetIndex.f (k + 1) a0) := by
 intro a0 k
 obtain ⟨ih0, ih1, ih2, ih3⟩ := gaiterref09_GetIndex.mono_l k
 unfold gaiterref09_GetIndex.f
 repeat' first
   | (with_reducible exact ih0 _ _)
   | (with_reducible exact ih1 _ _ _)
   | (with_reducible exact ih2 _ _ _ _ _ _ _ _)
   | (with_reducible exact ih3 _ _ _ _ _ _ _ _ _ _ _ _ _ _)
   | (with_reducible exact gaiterref01_GetUvar.mono _ _ _)
   | (with_reducible exact gaiterref09_MayIndex.mono _ _ _)
   | (with_reducible exact gaiterref09_Sum.mono _ _)
   | (with_reducible exact gaiterref09_number.mono _ _)
   | (with_reducible exact LeO.refl _)
   | (with_reducible exact LeO.none _)
   | (with_reducible refine LeO.ite ?_ ?_)
   | (with_reducible refine LeO.bind ?_ (fun _ => ?_))
   | exact ih0 _ _
   | exact ih1 _ _ _
   | exact ih2 _ _ _ _ _ _ _ _
   | exact ih3 _ _ _ _ _ _ _ _ _ _ _ _ _ _
   | exact gaiterref01_GetUvar.mono _ _ _
   | exact gaiterref09_MayIndex.mono _ _ _
   | exact gaiterref09_Sum.mono _ _
   | exact gaiterref09_number.mono _ _
   | exact LeO.none _
   | refine LeO.ite ?_ ?_
   | refine LeO.bind ?_ (fun _ => ?_)
def gaiterref09_GetIndex.T36 : Bool × List (List Nat × List Nat) := (true, [([], []), ([0], [0]), ([], []), ([2], [2]), ([3], [3]), ([4], [4]), ([1, 5], [1, 5]), ([0, 1, 2, 3, 4, 5, 6], []), ([7, 6, 0, 1, 2, 3, 4, 5, 6], [6, 7])])
def gaiterref09_GetIndex.B36 : List Nat := [0, 1, 0, 4, 12, 28, 63, 127, 255]
theorem gaiterref09_GetIndex.tab36 : rtab .any (opsOf Try.f28 36) = gaiterref09_GetIndex.T36 := by kernel_rfl
theorem gaiterref09_GetIndex.bits36 : waitsOk gaiterref09_GetIndex.T36.2 gaiterref09_GetIndex.B36 = true := by kernel_rfl
def gaiterref09_GetIndex.T43 : Bool × List (List Nat × List Nat) := (true, [([], []), ([], []), ([], []), ([2], [2]), ([0, 1, 3], [0, 1, 3]), ([4], [4]), ([], []), ([], []), ([6, 7], [6, 7]), ([8, 5], [8]), ([9], [9]), ([5, 10], [5, 10])])
def gaiterref09_GetIndex.B43 : List Nat := [0, 0, 0, 4, 15, 31, 0, 0, 192, 511, 1023, 2047]
theorem gaiterref09_GetIndex.tab43 : rtab .any (opsOf Try.f28 43) = gaiterref09_GetIndex.T43 := by kernel_rfl
theorem gaiterref09_GetIndex.bits43 : waitsOk gaiterref09_GetIndex.T43.2 gaiterref09_GetIndex.B43 = true := by kernel_rfl
set_option maxHeartbeats 8000000 in
set_option maxRecDepth 100000 in
theorem gaiterref09_GetIndex.calls (k : Nat) (A0 : Option Addr) (c0 : Nat) (l0 : List Int) (r1 : Int) (r2 : List (S79)) (r3 : Int) (r4 : Int) (w : World) (hr0 : Kd.C (Kd.int .u8) w A0 l0.length l0) (hc0 : l0.length ≤ c0) (h : gaiterref09_GetIndex.f k l0 = some (r1, r2, r3, r4)) :
  Calls Try.prog 28 #[.slice A0 l0.length c0] w fun e w' => ∃ v1_ : Value, e = .returned (.tuple #[.int .i64 r1, v1_, .int .i64 r3, .int .i64 r4]) ∧ Kd.R k79 79 w' w.heap.size (fun _ => True) v1_ r2 ∧ Below w.heap.size w w' := by
 have hu79 := Try.underlying79
 have HR0 := Aside0.mk hr0
 have HC0 := Aside0.mk hc0
 clear hr0 hc0
 have HB := Aside0.mk (Below.refl w.heap.size w)
 have H : (if (l0.length : Int) < 4 then (gaiterref09_GetIndex.j0 k l0 true) else (if 0 ≤ (mn (l0.length : Int) 4) then (if (mn (l0.length : Int) 4) ≤ (l0.length : Int) then (gaiterref09_GetIndex.j0 k l0 ((strOfNums (l0.take ((mn (l0.length : Int) 4) : Int).toNat)).toList != ([71, 84, 83, 49] : List UInt8))) else (none)) else (none))) = some (r1, r2, r3, r4) := h
 clear h
 have HC2 := Aside0.mk H
 clear H
 go_enter Try.func28, Try.ntmps28
 go_upto_region 1 with (fail)
 go_cut [34] (fun v34 wc => ∃ (kq : Nat) (x34_1 : Bool), v34 = .bool x34_1 ∧ Aside0 (gaiterref09_GetIndex.j0 kq l0 x34_1 = some (r1, r2, r3, r4)) ∧ Aside0 (kq ≤ k) ∧ Aside0 (Below w.heap.size w wc))
 case first =>
  have H := HC2.out
  clear HC2
  by_cases c3 : (l0.length : Int) < 4
  ·rw [if_pos c3] at H
   have c3b0 : decide ((l0.length : Int) < 4) = true := decide_eq_true c3
   have c3b1 : decide (l0.length < 4) = true := decide_eq_true (by omega)
   clear c3
   (first | rw [c3b0] | (simp only [i64_w, i32_w]; rw [c3b0]) | skip)
   have H' := Aside0.mk H
   clear H
   go_wp2
   go_meet
   case rel => exact ⟨_, (true), (by first | rfl | (simp; done) | (simp [*]; done)), H', ⟨by first | omega | exact Nat.le_refl _⟩, ⟨(kl HB)⟩⟩
  ·rw [if_neg c3] at H
   have c3b0 : decide ((l0.length : Int) < 4) = false := decide_eq_false c3
   have c3b1 : decide (l0.length < 4) = false := decide_eq_false (by omega)
   clear c3
   (first | rw [c3b0] | (simp only [i64_w, i32_w]; rw [c3b0]) | skip)
   obtain ⟨ji4, hji4⟩ : ∃ j_ : Int, (mn (l0.length : Int) 4) = j_ := ⟨_, rfl⟩
   replace H : (if 0 ≤ (ji4) then (if (ji4) ≤ (l0.length : Int) then (gaiterref09_GetIndex.j0 k l0 ((strOfNums (l0.take ((ji4) : Int).toNat)).toList != ([71, 84, 83, 49] : List UInt8))) else (none)) else (none)) = some (r1, r2, r3, r4) := by first | (rw [hji4] at H; exact H) | (simp only [hji4] at H ⊢; exact H)
   (try (have hji4h : ji4 ≤ 4 := by (rw [← hji4]; unfold mn; (repeat' split) <;> omega)))
   (try (have hji4g : ji4 ≤ 64 := by omega))
   (try (have hji4l : 0 ≤ ji4 := by (rw [← hji4]; unfold mn; (repeat' split) <;> omega)))
   (try (have hji4m : 0 ≤ ji4 := by omega))
   have hji4_ : (if 4 < (l0.length : Int) then 4 else (l0.length : Int)) = ji4 := hji4
   (try (have hji4n := hji4_; simp only [Int.ofNat_lt] at hji4n))
   by_cases c5 : 0 ≤ (ji4)
   ·rw [if_pos c5] at H
    have c5b0 := eq_true c5
    have c5b1 : decide (0 ≤ (ji4)) = true := decide_eq_true c5
    clear c5
    by_cases c6 : (ji4) ≤ (l0.length : Int)
    ·rw [if_pos c6] at H
     have c6b0 := eq_true c6
     have c6b1 : decide ((ji4) ≤ (l0.length : Int)) = true := decide_eq_true c6
     clear c6
     have H' := Aside0.mk H
     clear H
     obtain ⟨i07, hi07, _, hsz7, _⟩ := info_parts info5
     obtain ⟨hcut7, hA7, hC7⟩ := print_take_of (P := Try.prog) (Value.int .u8) 0 54 5 .i64 Try.underlying54 hi07 hsz7 A0 c0 l0 (ji4) (of_decide_eq_true (by first | (with_reducible assumption) | assumption)) (of_decide_eq_true (by first | (with_reducible assumption) | assumption)) HC0.out
     have HR450 := Aside0.mk (Kd.C_of_reads (h1 := fun _ => rfl) (hA7 _ (Kd.reads_of_C HR0.out)))
     have HC450 := Aside0.mk hC7
     clear hA7 hC7 hi07 hsz7
     have hcv8 := Kd.C_string (P := Try.prog) (A := A0) (c := c0) Try.underlying54 Try.underlying5 Try.underlying9 (Kd.C_below HR450.out HB.out)
     have hcv8d := fun (m_ : Nat) => Kd.C_string (P := Try.prog) (A := A0) (c := c0) Try.underlying54 Try.underlying5 Try.underlying9 (Kd.C_drewN (Kd.C_below HR450.out HB.out) m_)
     (try (have hcv8e := Kd.C_string (P := Try.prog) (A := A0) (c := c0) Try.underlying54 Try.underlying5 Try.underlying9 (Kd.C_drew (Kd.C_below HR450.out HB.out))))
     (try (have hle_ : ji4 ≤ (l0.length : Int) := of_decide_eq_true (by first | (with_reducible assumption) | assumption); have hln_ : (l0.take (ji4 : Int).toNat).length = (ji4 : Int).toNat := (by rw [List.length_take]; omega); (try (have hcv8t := hcv8; rw [hln_] at hcv8t)); (try (have hcv8u := hcv8e; rw [hln_] at hcv8u)); clear hle_ hln_))
     go_wp2
     go_meet
     case rel => exact ⟨_, (((strOfNums (l0.take ((ji4) : Int).toNat)).toList != ([71, 84, 83, 49] : List UInt8))), (by first | rfl | (simp; done) | (simp only [← hji4] <;> (first | rfl | simp)) | (simp [*]; done)), H', ⟨by first | omega | exact Nat.le_refl _⟩, ⟨(kl HB)⟩⟩
    ·rw [if_neg c6] at H
     exact absurd H (by simp)
   ·rw [if_neg c5] at H
    exact absurd H (by simp)
 case rest =>
  clear HC2
  try clear c2
  try clear p2
  try clear c3
  try clear c3b0
  try clear c3b1
  try clear c5
  try clear c5b0
  try clear c5b1
  try clear c6
  try clear c6b0
  try clear c6b1
  try clear hcv8
  obtain ⟨kq, x34_1, rfl, HA, HJ1, HB⟩ := hcut
  cases kq with
  | zero => exact absurd HA.out (by simp [gaiterref09_GetIndex.j0])
  | succ kj1 =>
   have H := HA.out
   clear HA
   simp only [gaiterref09_GetIndex.j0] at H
   by_cases c9 : x34_1 = true
   ·subst c9
    have H1 : (some (0, ([] : List (S79)), 0, 5)) = some (r1, r2, r3, r4) := by rw [if_pos rfl] at H; exact H
    clear H
    have H := H1
    clear H1
    simp only [Option.some.injEq, Prod.mk.injEq] at H
    obtain ⟨rfl, rfl, rfl, rfl⟩ := H
    go_wp2
    refine bodyPost_ret (results_list (rs := [.tmp 2, .tmp 3, .tmp 4, .tmp 5]) rfl (by simp) (.tmp (.tmp (.tmp (.tmp .nil))))) rfl ?_
    exact ⟨_, by first | rfl | (simp [errW_none, errW_some] <;> rfl) | (simp [*, errW_none, errW_some] <;> rfl), by first | exact Kd.R_nil _ _ _ _ _ | exact Kd.N_nil _ _ _ _ _ | exact Kd.V_nil _ _ _ _ _ | exact Kd.Q_nil _ _ _ _ _ | exact Kd.S_nil _ _ _ _ _, (kl HB)⟩
   ·replace c9 := Bool.eq_false_iff.mpr c9
    subst c9
    have H1 : (if (l0.length : Int) < 5 then (some (0, ([] : List (S79)), 0, 2)) else (if 4 < (l0.length : Int) then (if (wrap64 (rd l0 4)) = 1 then (gaiterref09_GetIndex.j1 kj1 l0 (wrap64 (rd l0 4)) false) else (gaiterref09_GetIndex.j1 kj1 l0 (wrap64 (rd l0 4)) ((wrap64 (rd l0 4)) != 2))) else (none))) = some (r1, r2, r3, r4) := by rw [if_neg (show ¬ (false = true) by decide)] at H; exact H
    clear H
    have H := H1
    clear H1
    by_cases c10 : (l0.length : Int) < 5
    ·rw [if_pos c10] at H
     have c10b0 : decide ((l0.length : Int) < 5) = true := decide_eq_true c10
     have c10b1 : decide (l0.length < 5) = true := decide_eq_true (by omega)
     clear c10
     simp only [Option.some.injEq, Prod.mk.injEq] at H
     obtain ⟨rfl, rfl, rfl, rfl⟩ := H
     go_wp2
     refine bodyPost_ret (results_list (rs := [.tmp 2, .tmp 3, .tmp 4, .tmp 5]) rfl (by simp) (.tmp (.tmp (.tmp (.tmp .nil))))) rfl ?_
     exact ⟨_, by first | rfl | (simp [errW_none, errW_some] <;> rfl) | (simp [*, errW_none, errW_some] <;> rfl), by first | exact Kd.R_nil _ _ _ _ _ | exact Kd.N_nil _ _ _ _ _ | exact Kd.V_nil _ _ _ _ _ | exact Kd.Q_nil _ _ _ _ _ | exact Kd.S_nil _ _ _ _ _, (kl HB)⟩
    ·rw [if_neg c10] at H
     have c10b0 : decide ((l0.length : Int) < 5) = false := decide_eq_false c10
     have c10b1 : decide (l0.length < 5) = false := decide_eq_false (by omega)
     clear c10
     by_cases c11 : 4 < (l0.length : Int)
     ·rw [if_pos c11] at H
      have c11b0 : decide (4 < (l0.length : Int)) = true := decide_eq_true c11
      have c11b1 : decide (4 < l0.length) = true := decide_eq_true (by omega)
      clear c11
      have HC12 := Aside0.mk H
      clear H
      have p451 : 0 ≤ (4 : Int) := (by omega)
      have q451 : 4 < (l0.length : Int) := of_decide_eq_true (by first | (with_reducible assumption) | assumption)
      obtain ⟨ad451, e451, hx451_0⟩ := Kd.at_int HR0.out 4 p451 q451
      cases e451
      (try simp only [show (4 : Int).toNat = 4 from rfl, Nat.reduceMul, Nat.reduceEqDiff, Go.Addr.add, ↓reduceIte] at hx451_0)
      have qi451 : (4 < l0.length) = True := eq_true (by omega)
      (try rw [show ((4 : Int)).toNat = 4 from rfl] at hx451_0)
      replace hx451_0 := (HB.out.cell (World.block_lt_of_cell? w _ hx451_0)).trans hx451_0
      replace p451 := eq_true p451
      (try (have q451s := q451; simp only [List.length_drop, List.length_take] at q451s; replace q451s := eq_true q451s)); replace q451 := eq_true q451
      go_upto_region 6 with (fail)
      go_cut [47] (fun v47 wc => ∃ (kq : Nat) (x47_11 : Bool), v47 = .bool x47_11 ∧ Aside0 (gaiterref09_GetIndex.j1 kq l0 (wrap64 (rd l0 4)) x47_11 = some (r1, r2, r3, r4)) ∧ Aside0 (kq ≤ kj1) ∧ Aside0 (Below w.heap.size w wc))
      case first =>
       have H := HC12.out
       clear HC12
       by_cases c13 : (wrap64 (rd l0 4)) = 1
       ·rw [if_pos c13] at H
        have c13b0 : ((wrap64 (rd l0 4)) == 1) = true := beq_iff_eq.mpr c13
        have c13b1 : ((wrap64 (rd l0 4)) != 1) = false := bne_eq_false_iff_eq.mpr c13
        clear c13
        (first | rw [c13b0] | (simp only [i64_w, i32_w]; rw [c13b0]) | skip)
        have H' := Aside0.mk H
        clear H
        go_wp2
        go_meet
        case rel => exact ⟨_, (false), (by first | rfl | (simp; done) | (simp [*]; done)), H', ⟨by have := HJ1.out; first | omega | exact Nat.le_refl _⟩, ⟨(kl HB)⟩⟩
       ·rw [if_neg c13] at H
        have c13b0 : ((wrap64 (rd l0 4)) == 1) = false := beq_eq_false_iff_ne.mpr c13
        have c13b1 : ((wrap64 (rd l0 4)) != 1) = true := bne_iff_ne.mpr c13
        (first | rw [c13b0] | (simp only [i64_w, i32_w]; rw [c13b0]) | skip)
        have H' := Aside0.mk H
        clear H
        go_wp2
        go_meet
        case rel => exact ⟨_, (((wrap64 (rd l0 4)) != 2)), (by first | rfl | (simp; done) | (simp [*]; done)), H', ⟨by have := HJ1.out; first | omega | exact Nat.le_refl _⟩, ⟨(kl HB)⟩⟩
      case rest =>
       clear HC12
       try clear c1
       try clear c2
       try clear p2
       try clear c3
       try clear c3b0
       try clear c3b1
       try clear p4
       try clear q4
       try clear hx4
       try clear qi4
       try clear c5
       try clear c5b0
       try clear c5b1
       try clear c6
       try clear c6b0
       try clear c6b1
       try clear p6
       try clear hcv8
       try clear c9
       try clear c10
       try clear c10b0
       try clear c10b1
       try clear c11
       try clear c11b0
       try clear c11b1
       try clear c13
       try clear c13b0
       try clear c13b1
       try clear hx451_0
       try clear p2
       try clear p451
       try clear q451
       obtain ⟨kq, x47_11, rfl, HA, HJ11, HB⟩ := hcut
       cases kq with
       | zero => exact absurd HA.out (by simp [gaiterref09_GetIndex.j1])
       | succ kj11 =>
        have H := HA.out
        clear HA
        simp only [gaiterref09_GetIndex.j1] at H
        by_cases c14 : x47_11 = true
        ·subst c14
         have H1 : (some (0, ([] : List (S79)), 0, 6)) = some (r1, r2, r3, r4) := by rw [if_pos rfl] at H; exact H
         clear H
         have H := H1
         clear H1
         simp only [Option.some.injEq, Prod.mk.injEq] at H
         obtain ⟨rfl, rfl, rfl, rfl⟩ := H
         go_wp2
         refine bodyPost_ret (results_list (rs := [.tmp 2, .tmp 3, .tmp 4, .tmp 5]) rfl (by simp) (.tmp (.tmp (.tmp (.tmp .nil))))) rfl ?_
         exact ⟨_, by first | rfl | (simp [errW_none, errW_some] <;> rfl) | (simp [*, errW_none, errW_some] <;> rfl), by first | exact Kd.R_nil _ _ _ _ _ | exact Kd.N_nil _ _ _ _ _ | exact Kd.V_nil _ _ _ _ _ | exact Kd.Q_nil _ _ _ _ _ | exact Kd.S_nil _ _ _ _ _, (kl HB)⟩
        ·replace c14 := Bool.eq_false_iff.mpr c14
         subst c14
         have H1 : ((gaiterref01_GetUvar.f kj11 l0 5).bind fun bt452 => (if bt452.2.2 = 0 then (if bt452.1 > 65535 then (some (0, ([] : List (S79)), 0, 9)) else (gaiterref09_GetIndex.l0 kj11 l0 (wrap64 (rd l0 4)) bt452.1 (wrap64 (5 + bt452.2.1)) ([] : List (S79)) true 0 0)) else (some (0, ([] : List (S79)), 0, bt452.2.2)))) = some (r1, r2, r3, r4) := by rw [if_neg (show ¬ (false = true) by decide)] at H; exact H
         clear H
         have H := H1
         clear H1
         replace H := Option.bind_eq_some_iff.mp H
         obtain ⟨⟨t452, t453, t454⟩, A150, H⟩ := H
         replace H : (if t454 = 0 then (if t452 > 65535 then (some (0, ([] : List (S79)), 0, 9)) else (gaiterref09_GetIndex.l0 kj11 l0 (wrap64 (rd l0 4)) t452 (wrap64 (5 + t453)) ([] : List (S79)) true 0 0)) else (some (0, ([] : List (S79)), 0, t454))) = some (r1, r2, r3, r4) := H
         have A15 := Aside0.mk A150
         clear A150
         by_cases c16 : t454 = 0
         ·rw [if_pos c16] at H
          have c16b0 : (t454 == 0) = true := beq_iff_eq.mpr c16
          have c16b1 : (t454 != 0) = false := bne_eq_false_iff_eq.mpr c16
          clear c16
          by_cases c17 : t452 > 65535
          ·rw [if_pos c17] at H
           have c17b0 : decide (65535 < t452) = true := decide_eq_true c17
           clear c17
           simp only [Option.some.injEq, Prod.mk.injEq] at H
           obtain ⟨rfl, rfl, rfl, rfl⟩ := H
           go_wp2_with (first | ((with_reducible refine gate_callee (f := 40) rfl ?_); refine goesL_ (some 50) rfl rfl Try.func40 (by kernel_rfl) rfl #[.slice (some ad451) l0.length c0, .int .i64 5] rfl km ?_; (with_reducible refine (gaiterref01_GetUvar.calls kj11 _ _ l0 5 t452 t453 t454 _ ?side1 ?side2 A15.out).mono ?_); (case side1 => repeat (first | exact (Kd.C_below HR0.out HB.out) | (with_reducible refine Kd.C_alloc ?_ _) | (with_reducible refine Kd.C_drewN ?_ _) | (with_reducible refine Kd.C_drew ?_))); (case side2 => exact HC0.out); rintro e w' ⟨rfl, ⟨nd, rfl⟩⟩; refine ⟨_, rfl, ?_⟩))
           refine bodyPost_ret (results_list (rs := [.tmp 2, .tmp 3, .tmp 4, .tmp 5]) rfl (by simp) (.tmp (.tmp (.tmp (.tmp .nil))))) rfl ?_
           exact ⟨_, by first | rfl | (simp [errW_none, errW_some] <;> rfl) | (simp [*, errW_none, errW_some] <;> rfl), by first | exact Kd.R_nil _ _ _ _ _ | exact Kd.N_nil _ _ _ _ _ | exact Kd.V_nil _ _ _ _ _ | exact Kd.Q_nil _ _ _ _ _ | exact Kd.S_nil _ _ _ _ _, (kl HB)⟩
          ·rw [if_neg c17] at H
           have c17b0 : decide (65535 < t452) = false := decide_eq_false c17
           clear c17
           have H' := Aside0.mk H
           clear H
           go_wp2_with (first | ((with_reducible refine gate_callee (f := 40) rfl ?_); refine goesL_ (some 50) rfl rfl Try.func40 (by kernel_rfl) rfl #[.slice (some ad451) l0.length c0, .int .i64 5] rfl km ?_; (with_reducible refine (gaiterref01_GetUvar.calls kj11 _ _ l0 5 t452 t453 t454 _ ?side1 ?side2 A15.out).mono ?_); (case side1 => repeat (first | exact (Kd.C_below HR0.out HB.out) | (with_reducible refine Kd.C_alloc ?_ _) | (with_reducible refine Kd.C_drewN ?_ _) | (with_reducible refine Kd.C_drew ?_))); (case side2 => exact HC0.out); rintro e w' ⟨rfl, ⟨nd, rfl⟩⟩; refine ⟨_, rfl, ?_⟩))
           go_loopg [10, 11, 12, 13, 14] kj11 (fun kq v10 v11 v12 v13 v14 w' => ∃ (x10_3 : Int) (x11_3 : List (S79)) (x12_3 : Bool) (x13_3 : Int) (x14_3 : Int), v10 = .int .i64 x10_3 ∧ v12 = .bool x12_3 ∧ v13 = .int .u64 x13_3 ∧ v14 = .int .i64 x14_3 ∧ Aside0 (gaiterref09_GetIndex.l0 kq l0 (wrap64 (rd l0 4)) t452 x10_3 x11_3 x12_3 x13_3 x14_3 = some (r1, r2, r3, r4)) ∧ Aside0 (kq ≤ kj11) ∧ Aside0 (Kd.R k79 79 w' w.heap.size (fun _ => True) v11 x11_3) ∧ Aside0 (Below w.heap.size w w'))
           case atStart => exact ⟨(wrap64 (5 + t453)), (([] : List (S79))), (true), (0), (0), (by first | rfl | (simp; done) | (simp [*]; done)), (by first | rfl | (simp; done) | (simp [*]; done)), (by first | rfl | (simp; done) | (simp [*]; done)), (by first | rfl | (simp; done) | (simp [*]; done)), H', ⟨Nat.le_refl _⟩, ⟨by first | exact Kd.R_nil _ _ _ _ _ | exact Kd.N_nil _ _ _ _ _ | exact Kd.V_nil _ _ _ _ _ | exact Kd.Q_nil _ _ _ _ _ | exact Kd.S_nil _ _ _ _ _⟩, ⟨(kl HB)⟩⟩
           case round =>
            clear H'
            try clear c1
            try clear c2
            try clear p2
            try clear c3
            try clear c3b0
            try clear c3b1
            try clear c4
            try clear p4
            try clear q4
            try clear hx4
            try clear qi4
            try clear c5
            try clear c5b0
            try clear c5b1
            try clear c6
            try clear c6b0
            try clear c6b1
            try clear p6
            try clear hcv8
            try clear c9
            try clear c10
            try clear c10b0
            try clear c10b1
            try clear c11
            try clear c11b0
            try clear c11b1
            try clear c13
            try clear c13b0
            try clear c13b1
            try clear c14
            try clear c16
            try clear c16b0
            try clear c16b1
            try clear c17
            try clear c17b0
            try clear hx451_0
            try clear p2
            try clear p4
            try clear p451
            try clear p6
            try clear q4
            try clear q451
            obtain ⟨x10_3, x11_3, x12_3, x13_3, x14_3, rfl, rfl, rfl, rfl, HA, HK3, HO_11, HB⟩ := hrel
            cases gk with
            | zero => exact absurd HA.out (by simp [gaiterref09_GetIndex.l0])
            | succ k3 =>
             have H := HA.out
             clear HA
             simp only [gaiterref09_GetIndex.l0] at H
             by_cases c18 : x14_3 < (wrap64 (t452))
             ·rw [if_pos c18] at H
              have c18b0 : decide (x14_3 < (wrap64 (t452))) = true := decide_eq_true c18
              clear c18
              by_cases c19 : (wrap64 ((l0.length : Int) - x10_3)) < 8
              ·rw [if_pos c19] at H
               have c19b0 : decide ((wrap64 ((l0.length : Int) - x10_3)) < 8) = true := decide_eq_true c19
               clear c19
               simp only [Option.some.injEq, Prod.mk.injEq] at H
               obtain ⟨rfl, rfl, rfl, rfl⟩ := H
               go_wp2
               refine bodyPost_ret (results_list (rs := [.tmp 2, .tmp 3, .tmp 4, .tmp 5]) rfl (by simp) (.tmp (.tmp (.tmp (.tmp .nil))))) rfl ?_
               exact ⟨_, by first | rfl | (simp [errW_none, errW_some] <;> rfl) | (simp [*, errW_none, errW_some] <;> rfl), by first | exact Kd.R_nil _ _ _ _ _ | exact Kd.N_nil _ _ _ _ _ | exact Kd.V_nil _ _ _ _ _ | exact Kd.Q_nil _ _ _ _ _ | exact Kd.S_nil _ _ _ _ _, (kl HB)⟩
              ·rw [if_neg c19] at H
               have c19b0 : decide ((wrap64 ((l0.length : Int) - x10_3)) < 8) = false := decide_eq_false c19
               clear c19
               by_cases c20 : 0 ≤ x10_3
               ·rw [if_pos c20] at H
                have c20b0 := eq_true c20
                have c20b1 : decide (0 ≤ x10_3) = true := decide_eq_true c20
                clear c20
                by_cases c21 : x10_3 ≤ (wrap64 (x10_3 + 8))
                ·rw [if_pos c21] at H
                 have c21b0 := eq_true c21
                 have c21b1 : decide (x10_3 ≤ (wrap64 (x10_3 + 8))) = true := decide_eq_true c21
                 by_cases c22 : (wrap64 (x10_3 + 8)) ≤ (l0.length : Int)
                 ·rw [if_pos c22] at H
                  have c22b0 := eq_true c22
                  have c22b1 : decide ((wrap64 (x10_3 + 8)) ≤ (l0.length : Int)) = true := decide_eq_true c22
                  replace H := Option.bind_eq_some_iff.mp H
                  obtain ⟨t456, A230, H⟩ := H
                  replace H : (gaiterref09_GetIndex.l1 k3 l0 (wrap64 (rd l0 4)) t452 (wrap64 (x10_3 + 8)) x11_3 x12_3 x13_3 x14_3 ([] : List Int) 0 (wrap64 (t456)) 0 0 0) = some (r1, r2, r3, r4) := H
                  have A23 := Aside0.mk A230
                  clear A230
                  have H' := Aside0.mk H
                  clear H
                  obtain ⟨i024, hi024, _, hsz24, _⟩ := info_parts info5
                  obtain ⟨A24, hcut24, hA24, hC24⟩ := print_mid_of (P := Try.prog) (Value.int .u8) 0 54 5 .i64 .i64 Try.underlying54 hi024 hsz24 (some ad451) c0 l0 x10_3 (wrap64 (x10_3 + 8)) (of_decide_eq_true (by first | (with_reducible assumption) | assumption)) (by first | omega | exact of_decide_eq_true (by first | (with_reducible assumption) | assumption)) (of_decide_eq_true (by first | (with_reducible assumption) | assumption)) HC0.out
                  have HR455 := Aside0.mk (Kd.C_of_reads (h1 := fun _ => rfl) (hA24 _ (Kd.reads_of_C HR0.out)))
                  have HC455 := Aside0.mk hC24
                  clear hA24 hC24 hi024 hsz24
                  go_wp2_with (first | ((with_reducible refine gate_callee (f := 41) rfl ?_); refine goesL_ (some 77) rfl rfl Try.func41 (by kernel_rfl) rfl #[.slice A24 ((l0.take ((wrap64 (x10_3 + 8)) : Int).toNat).drop (x10_3 : Int).toNat).length (c0 - x10_3.toNat)] rfl (by (try simp only [List.map_toArray, List.map_cons, List.map_nil]); first | done | (rw [show ((l0.take ((wrap64 (x10_3 + 8)) : Int).toNat).drop (x10_3 : Int).toNat).length = ((wrap64 (x10_3 + 8)).toNat - x10_3.toNat) from (by rw [List.length_drop, List.length_take]; have h_ : ((wrap64 (x10_3 + 8)) : Int) ≤ (l0.length : Int) := of_decide_eq_true (by first | (with_reducible assumption) | assumption); omega)] <;> rfl) | rfl | (simp only [List.length_drop, List.length_take]; rfl)) ?_; (with_reducible refine (gaiterref09_number.calls k3 _ _ ((l0.take ((wrap64 (x10_3 + 8)) : Int).toNat).drop (x10_3 : Int).toNat) t456 _ ?side1 ?side2 A23.out).mono ?_); (case side1 => repeat (first | exact (Kd.C_below HR455.out HB.out) | (with_reducible refine Kd.C_alloc ?_ _) | (with_reducible refine Kd.C_drewN ?_ _) | (with_reducible refine Kd.C_drew ?_))); (case side2 => exact HC455.out); rintro e w' ⟨rfl, ⟨nd, rfl⟩⟩; refine ⟨_, rfl, ?_⟩; (try (rw [drewN_self wr]; generalize hq_ : World.drewN wr _ = wr; have n0_ : Aside0 (Kd.R k79 79 wr w.heap.size (fun _ => True) u11 x11_3) := ⟨by rw [← hq_]; exact (kr HO_11)⟩; have n1_ : Aside0 (Below w.heap.size w wr) := ⟨by rw [← hq_]; exact (kl HB)⟩; clear HO_11 HB hq_; have HO_11 := n0_; have HB := n1_; clear n0_ n1_))) | ((with_reducible refine gate_dst (N := 15) rfl ?_); (try (refine gate_guard (by rfl) ?_; dsimp only)); refine box_event ?hg (N := 15) ?hd (cs := #[.int .i64 0, .int .i64 0, .int .i64 0, .int .i64 0]) (t := 79) ?hr ?_; (case hd => rfl); (case hg => rfl); (case hr => first | (go_simp; done) | (go_simp; rfl)); intro gb457 hg w25 hbox hb; replace HO_11 := Aside0.mk (Kd.R_below (Kd.R_elderB (kr HO_11) gb457 (Nat.le_of_eq hg.symm)) hb); have BK457 := Aside0.mk (hbox); have GW457 := kG hg HB; have GE457 := kG hg HB; replace HB := kH HB hb; clear hb hbox hg; have hcz26_0 : w25.cell? ⟨gb457, 0, none⟩ = some (.int .i64 0) := (blk_cell BK457.out 0).trans rfl; have hcz26_1 : w25.cell? ⟨gb457, 1, none⟩ = some (.int .i64 0) := (blk_cell BK457.out 1).trans rfl; have hcz26_2 : w25.cell? ⟨gb457, 2, none⟩ = some (.int .i64 0) := (blk_cell BK457.out 2).trans rfl; have hcz26_3 : w25.cell? ⟨gb457, 3, none⟩ = some (.int .i64 0) := (blk_cell BK457.out 3).trans rfl; have hfz26_0 := blk_frozen BK457.out 0; have hfz26_1 := blk_frozen BK457.out 1; have hfz26_2 := blk_frozen BK457.out 2; have hfz26_3 := blk_frozen BK457.out 3))
                  go_loopg [10, 16, 17] k3 (fun kq v10 v16 v17 w' => ∃ (x10_4 : Int) (x16_4 : List Int) (x17_4 : Int), v10 = .int .i64 x10_4 ∧ v17 = .int .i64 x17_4 ∧ Aside0 (gaiterref09_GetIndex.l1 kq l0 (wrap64 (rd l0 4)) t452 x10_4 x11_3 x12_3 x13_3 x14_3 x16_4 x17_4 (wrap64 (t456)) 0 0 0 = some (r1, r2, r3, r4)) ∧ Aside0 (kq ≤ k3) ∧ Aside0 (Kd.R k79 79 w' w.heap.size (fun k_ => k_ ≠ gb457) u11 x11_3) ∧ Aside0 (Kd.R (Kd.int .u64) 41 w' w.heap.size (fun _ => True) v16 x16_4) ∧ Aside0 (w'.heap[gb457]? = some (.cells #[.int .i64 (wrap64 (t456)), .int .i64 0, .int .i64 0, .int .i64 0] 79 (0, 0))) ∧ Aside0 (Below w.heap.size w w'))
                  case atStart => exact ⟨(wrap64 (x10_3 + 8)), (([] : List Int)), (0), (by first | rfl | (simp; done) | (simp [*]; done)), (by first | rfl | (simp; done) | (simp [*]; done)), H', ⟨Nat.le_refl _⟩, ⟨by (with_reducible repeat (first | apply Kd.R_alloc | apply Kd.R_drewN | apply Kd.R_drew)); exact Kd.R_mono (Kd.R_far (p := ⟨gb457, 3, none⟩) (Kd.R_far (p := ⟨gb457, 2, none⟩) (Kd.R_far (p := ⟨gb457, 1, none⟩) (Kd.R_far (p := ⟨gb457, 0, none⟩) (Kd.R_mono HO_11.out (fun k_ hk => (⟨hk, hk.2⟩ : _ ∧ k_ ≠ gb457))) (fun _ hk => hk.2) (.int .i64 (wrap64 (t456)))) (fun _ hk => hk.2) (.int .i64 0)) (fun _ hk => hk.2) (.int .i64 0)) (fun _ hk => hk.2) (.int .i64 0)) (fun _ hk => hk.1.2)⟩, ⟨by first | exact Kd.R_nil _ _ _ _ _ | exact Kd.N_nil _ _ _ _ _ | exact Kd.V_nil _ _ _ _ _ | exact Kd.Q_nil _ _ _ _ _ | exact Kd.S_nil _ _ _ _ _⟩, ⟨by (with_reducible repeat (first | refine blk_drewN ?_ _ | refine blk_drew ?_ | refine blk_alloc ?_ _)); refine blk_put (cs := #[.int .i64 (wrap64 (t456)), .int .i64 0, .int .i64 0, .int .i64 0]) ?_ 3 _ rfl; (with_reducible repeat (first | refine blk_drewN ?_ _ | refine blk_drew ?_ | refine blk_alloc ?_ _)); refine blk_put (cs := #[.int .i64 (wrap64 (t456)), .int .i64 0, .int .i64 0, .int .i64 0]) ?_ 2 _ rfl; (with_reducible repeat (first | refine blk_drewN ?_ _ | refine blk_drew ?_ | refine blk_alloc ?_ _)); refine blk_put (cs := #[.int .i64 (wrap64 (t456)), .int .i64 0, .int .i64 0, .int .i64 0]) ?_ 1 _ rfl; (with_reducible repeat (first | refine blk_drewN ?_ _ | refine blk_drew ?_ | refine blk_alloc ?_ _)); refine blk_put (cs := #[.int .i64 0, .int .i64 0, .int .i64 0, .int .i64 0]) ?_ 0 _ rfl; (with_reducible repeat (first | refine blk_drewN ?_ _ | refine blk_drew ?_ | refine blk_alloc ?_ _)); exact BK457.out⟩, ⟨(kl HB)⟩⟩
                  case round =>
                   clear H'
                   try clear c1
                   try clear c2
                   try clear p2
                   try clear c3
                   try clear c3b0
                   try clear c3b1
                   try clear c4
                   try clear p4
                   try clear q4
                   try clear hx4
                   try clear qi4
                   try clear c5
                   try clear c5b0
                   try clear c5b1
                   try clear c6
                   try clear c6b0
                   try clear c6b1
                   try clear p6
                   try clear hcv8
                   try clear c9
                   try clear c10
                   try clear c10b0
                   try clear c10b1
                   try clear c11
                   try clear c11b0
                   try clear c11b1
                   try clear c13
                   try clear c13b0
                   try clear c13b1
                   try clear c14
                   try clear c16
                   try clear c16b0
                   try clear c16b1
                   try clear c17
                   try clear c17b0
                   try clear c18
                   try clear c18b0
                   try clear c19
                   try clear c19b0
                   try clear c20
                   try clear c20b0
                   try clear c20b1
                   try clear c21
                   try clear c21b0
                   try clear c21b1
                   try clear c22
                   try clear c22b0
                   try clear c22b1
                   try clear hcz26_0
                   try clear hcz26_1
                   try clear hcz26_2
                   try clear hcz26_3
                   try clear hfz26_0
                   try clear hfz26_1
                   try clear hfz26_2
                   try clear hfz26_3
                   try clear hx451_0
                   try clear p2
                   try clear p4
                   try clear p451
                   try clear p6
                   try clear q4
                   try clear q451
                   obtain ⟨x10_4, x16_4, x17_4, rfl, rfl, HA, HK4, HO_11, HO_16, BK457, HB⟩ := hrel
                   cases gk with
                   | zero => exact absurd HA.out (by simp [gaiterref09_GetIndex.l1])
                   | succ k4 =>
                    have H := HA.out
                    clear HA
                    simp only [gaiterref09_GetIndex.l1] at H
                    by_cases c27 : x17_4 < 3
                    ·rw [if_pos c27] at H
                     have c27b0 : decide (x17_4 < 3) = true := decide_eq_true c27
                     clear c27
                     replace H := Option.bind_eq_some_iff.mp H
                     obtain ⟨⟨t458, t459, t460⟩, A280, H⟩ := H
                     replace H : (if t460 = 0 then (if x16_4.length < 17592186044416 then (gaiterref09_GetIndex.l1 k4 l0 (wrap64 (rd l0 4)) t452 (wrap64 (x10_4 + t459)) x11_3 x12_3 x13_3 x14_3 (x16_4 ++ [t458]) (wrap64 (x17_4 + 1)) (wrap64 (t456)) 0 0 0) else (none)) else (some (0, ([] : List (S79)), 0, t460))) = some (r1, r2, r3, r4) := H
                     have A28 := Aside0.mk A280
                     clear A280
                     by_cases c29 : t460 = 0
                     ·rw [if_pos c29] at H
                      have c29b0 : (t460 == 0) = true := beq_iff_eq.mpr c29
                      have c29b1 : (t460 != 0) = false := bne_eq_false_iff_eq.mpr c29
                      clear c29
                      by_cases c30 : x16_4.length < 17592186044416
                      ·rw [if_pos c30] at H
                       have LMc30 := Aside0.mk c30
                       clear c30
                       obtain ⟨y461, hy461⟩ : ∃ y_ : List Int, y_ = (x16_4 ++ [t458]) := ⟨_, rfl⟩
                       replace H : (gaiterref09_GetIndex.l1 k4 l0 (wrap64 (rd l0 4)) t452 (wrap64 (x10_4 + t459)) x11_3 x12_3 x13_3 x14_3 y461 (wrap64 (x17_4 + 1)) (wrap64 (t456)) 0 0 0) = some (r1, r2, r3, r4) := by first | (rw [hy461]; with_reducible exact H) | (have H2_ := (Option.bind_some _ _).symm.trans H; rw [hy461]; with_reducible exact H2_) | (have H2_ := (Option.bind_some _ _).symm.trans H; with_reducible exact H2_) | with_reducible exact H | (rw [hy461]; exact H) | exact H
                       have Ny461 := Aside0.mk hy461
                       clear hy461
                       have H' := Aside0.mk H
                       clear H
                       go_wp2_with (first | ((with_reducible refine gate_callee (f := 40) rfl ?_); refine goesL_ (some 89) rfl rfl Try.func40 (by kernel_rfl) rfl #[.slice (some ad451) l0.length c0, .int .i64 x10_4] rfl km ?_; (with_reducible refine (gaiterref01_GetUvar.calls k4 _ _ l0 x10_4 t458 t459 t460 _ ?side1 ?side2 A28.out).mono ?_); (case side1 => repeat (first | exact (Kd.C_below HR0.out HB.out) | (with_reducible refine Kd.C_alloc ?_ _) | (with_reducible refine Kd.C_drewN ?_ _) | (with_reducible refine Kd.C_drew ?_))); (case side2 => exact HC0.out); rintro e w' ⟨rfl, ⟨nd, rfl⟩⟩; refine ⟨_, rfl, ?_⟩) | ((with_reducible refine gate_builtin (b := .append) (xs := #[.tmp 96, .tmp 98]) rfl ?_); (try (refine gate_guard (by rfl) ?_; dsimp only)); at_builtin; refine Kd.R_append (Kd.int .u64) (w0 := w) w.heap.size rfl (.tmp 96) (.tmp 98) 78 41 (.int .u64 0) 8 rfl Try.underlying78 info41 rfl (by decide) (by omega) u16 x16_4 t458 [.int .u64 t458] (fun _ => True) (fun _ => False) rfl rfl ?aP (fun _ hk => hk.elim) ?aF ?aO ?aB ?aS ?aL ?_; (case aP => exact rfl); (case aB => exact (kl HB)); (case aF => exact (fun _ _ => trivial)); (case aO => exact (kr HO_16)); (case aS => exact (below_size (kl HB))); (case aL => have := LMc30.out; omega); intro v462 w31 ho hb hg hat; rw [← Ny461.out] at ho; have n0_ := Aside0.mk (Kd.R_over' (kr HO_11) (Kd.R_typed (kr HO_16)) (by decide) hg); have n1_ := Aside0.mk (blk_grown (g := gb457) (o := .cells #[.int .i64 (wrap64 (t456)), .int .i64 0, .int .i64 0, .int .i64 0] 79 (0, 0)) (kb BK457) hg (Kd.R_ne HO_16.out BK457.out (by decide))); have n2_ := Aside0.mk (hb); have n3_ := Aside0.mk (ho); clear HO_11; clear BK457; clear HB; clear HO_16; have HO_11 := n0_; have BK457 := n1_; have HB := n2_; have HO463 := n3_; clear n0_ n1_ n2_ n3_; clear ho hb hg hat))
                       go_roundg k4
                       case measure => have := HJ1.out; have := HJ11.out; have := HK3.out; have := HK4.out; omega
                       case rel => exact ⟨(wrap64 (x10_4 + t459)), (y461), (wrap64 (x17_4 + 1)), (by first | rfl | (simp; done) | (simp [*]; done)), (by first | rfl | (simp; done) | (simp [*]; done)), H', ⟨by have := HJ1.out; have := HJ11.out; have := HK3.out; have := HK4.out; omega⟩, ⟨kr HO_11⟩, ⟨kr HO463⟩, ⟨kb BK457⟩, ⟨(kl HB)⟩⟩
                      ·rw [if_neg c30] at H
                       exact absurd H (by simp)
                     ·rw [if_neg c29] at H
                      have c29b0 : (t460 == 0) = false := beq_eq_false_iff_ne.mpr c29
                      have c29b1 : (t460 != 0) = true := bne_iff_ne.mpr c29
                      simp only [Option.some.injEq, Prod.mk.injEq] at H
                      obtain ⟨rfl, rfl, rfl, rfl⟩ := H
                      go_wp2_with (first | ((with_reducible refine gate_callee (f := 40) rfl ?_); refine goesL_ (some 89) rfl rfl Try.func40 (by kernel_rfl) rfl #[.slice (some ad451) l0.length c0, .int .i64 x10_4] rfl km ?_; (with_reducible refine (gaiterref01_GetUvar.calls k4 _ _ l0 x10_4 t458 t459 t460 _ ?side1 ?side2 A28.out).mono ?_); (case side1 => repeat (first | exact (Kd.C_below HR0.out HB.out) | (with_reducible refine Kd.C_alloc ?_ _) | (with_reducible refine Kd.C_drewN ?_ _) | (with_reducible refine Kd.C_drew ?_))); (case side2 => exact HC0.out); rintro e w' ⟨rfl, ⟨nd, rfl⟩⟩; refine ⟨_, rfl, ?_⟩))
                      refine bodyPost_ret (results_list (rs := [.tmp 2, .tmp 3, .tmp 4, .tmp 5]) rfl (by simp) (.tmp (.tmp (.tmp (.tmp .nil))))) rfl ?_
                      exact ⟨_, by first | rfl | (simp [errW_none, errW_some] <;> rfl) | (simp [*, errW_none, errW_some] <;> rfl), by first | exact Kd.R_nil _ _ _ _ _ | exact Kd.N_nil _ _ _ _ _ | exact Kd.V_nil _ _ _ _ _ | exact Kd.Q_nil _ _ _ _ _ | exact Kd.S_nil _ _ _ _ _, (kl HB)⟩
                    ·rw [if_neg c27] at H
                     have c27b0 : decide (x17_4 < 3) = false := decide_eq_false c27
                     clear c27
                     by_cases c32 : x12_3 = true
                     ·subst c32
                      have H1 : (if 0 < (x16_4.length : Int) then (if (rd x16_4 0) ≤ (IntKind.u64.wrap (9223372036854775807 - (IntKind.u64.wrap ((wrap64 (t456)))))) then (if 1 < (x16_4.length : Int) then (if (rd x16_4 1) ≤ 65535 then (if 2 < (x16_4.length : Int) then (if (rd x16_4 2) ≤ 2147483647 then (if x11_3.length < 4398046511104 then (gaiterref09_GetIndex.l0 k4 l0 (wrap64 (rd l0 4)) t452 x10_4 (x11_3 ++ [(⟨(wrap64 (t456)), wrap64 ((wrap64 (t456)) + (wrap64 (rd x16_4 0))), wrap64 (rd x16_4 1), wrap64 (rd x16_4 2)⟩ : S79)]) (decide ((rd x16_4 2) ≤ 2147483647)) (IntKind.u64.wrap (x13_3 + (rd x16_4 2))) (wrap64 (x14_3 + 1))) else (none)) else (if x11_3.length < 4398046511104 then (gaiterref09_GetIndex.l0 k4 l0 (wrap64 (rd l0 4)) t452 x10_4 (x11_3 ++ [(⟨(wrap64 (t456)), 0, 0, 0⟩ : S79)]) (decide ((rd x16_4 2) ≤ 2147483647)) x13_3 (wrap64 (x14_3 + 1))) else (none))) else (none)) else (if x11_3.length < 4398046511104 then (gaiterref09_GetIndex.l0 k4 l0 (wrap64 (rd l0 4)) t452 x10_4 (x11_3 ++ [(⟨(wrap64 (t456)), 0, 0, 0⟩ : S79)]) false x13_3 (wrap64 (x14_3 + 1))) else (none))) else (none)) else (if x11_3.length < 4398046511104 then (gaiterref09_GetIndex.l0 k4 l0 (wrap64 (rd l0 4)) t452 x10_4 (x11_3 ++ [(⟨(wrap64 (t456)), 0, 0, 0⟩ : S79)]) false x13_3 (wrap64 (x14_3 + 1))) else (none))) else (none)) = some (r1, r2, r3, r4) := by rw [if_pos rfl] at H; exact H
                      clear H
                      have H := H1
                      clear H1
                      by_cases c33 : 0 < (x16_4.length : Int)
                      ·rw [if_pos c33] at H
                       have c33b0 : decide (0 < (x16_4.length : Int)) = true := decide_eq_true c33
                       have c33b1 : decide (0 < x16_4.length) = true := decide_eq_true (by omega)
                       clear c33
                       by_cases c34 : (rd x16_4 0) ≤ (IntKind.u64.wrap (9223372036854775807 - (IntKind.u64.wrap ((wrap64 (t456))))))
                       ·rw [if_pos c34] at H
                        have c34b0 : decide ((rd x16_4 0) ≤ (IntKind.u64.wrap (9223372036854775807 - (IntKind.u64.wrap ((wrap64 (t456))))))) = true := decide_eq_true c34
                        clear c34
                        by_cases c35 : 1 < (x16_4.length : Int)
                        ·rw [if_pos c35] at H
                         have c35b0 : decide (1 < (x16_4.length : Int)) = true := decide_eq_true c35
                         have c35b1 : decide (1 < x16_4.length) = true := decide_eq_true (by omega)
                         clear c35
                         by_cases c36 : (rd x16_4 1) ≤ 65535
                         ·rw [if_pos c36] at H
                          have c36b0 : decide ((rd x16_4 1) ≤ 65535) = true := decide_eq_true c36
                          clear c36
                          by_cases c37 : 2 < (x16_4.length : Int)
                          ·rw [if_pos c37] at H
                           have c37b0 : decide (2 < (x16_4.length : Int)) = true := decide_eq_true c37
                           have c37b1 : decide (2 < x16_4.length) = true := decide_eq_true (by omega)
                           clear c37
                           by_cases c38 : (rd x16_4 2) ≤ 2147483647
                           ·rw [if_pos c38] at H
                            have c38b0 : decide ((rd x16_4 2) ≤ 2147483647) = true := decide_eq_true c38
                            clear c38
                            by_cases c39 : x11_3.length < 4398046511104
                            ·rw [if_pos c39] at H
                             have LMc39 := Aside0.mk c39
                             clear c39
                             obtain ⟨y471, hy471⟩ : ∃ y_ : List (S79), y_ = (x11_3 ++ [(⟨(wrap64 (t456)), wrap64 ((wrap64 (t456)) + (wrap64 (rd x16_4 0))), wrap64 (rd x16_4 1), wrap64 (rd x16_4 2)⟩ : S79)]) := ⟨_, rfl⟩
                             replace H : (gaiterref09_GetIndex.l0 k4 l0 (wrap64 (rd l0 4)) t452 x10_4 y471 (decide ((rd x16_4 2) ≤ 2147483647)) (IntKind.u64.wrap (x13_3 + (rd x16_4 2))) (wrap64 (x14_3 + 1))) = some (r1, r2, r3, r4) := by first | (rw [hy471]; with_reducible exact H) | (have H2_ := (Option.bind_some _ _).symm.trans H; rw [hy471]; with_reducible exact H2_) | (have H2_ := (Option.bind_some _ _).symm.trans H; with_reducible exact H2_) | with_reducible exact H | (rw [hy471]; exact H) | exact H
                             have Ny471 := Aside0.mk hy471
                             clear hy471
                             have H' := Aside0.mk H
                             clear H
                             obtain ⟨hcz40_0, hcz40_1, hcz40_2, hcz40_3⟩ := kc4 BK457
                             obtain ⟨hfz40_0, hfz40_1, hfz40_2, hfz40_3⟩ := kf4 BK457
                             obtain ⟨Ao41, co41, eo41⟩ := Kd.R_slice HO_16.out
                             subst eo41
                             have p464 : 0 ≤ (0 : Int) := (by omega)
                             have q464 : 0 < (x16_4.length : Int) := of_decide_eq_true (by first | (with_reducible assumption) | assumption)
                             obtain ⟨ad464, e464, hx464_0⟩ := Kd.at_int (Kd.R_reads' HO_16.out).2.2 0 p464 q464
                             cases e464
                             have qi464 : (0 < x16_4.length) = True := eq_true (by omega)
                             (try rw [show ((0 : Int)).toNat = 0 from rfl] at hx464_0)
                             (try rw [Addr.add_zero'] at hx464_0)
                             replace p464 := eq_true p464
                             (try (have q464s := q464; simp only [List.length_drop, List.length_take] at q464s; replace q464s := eq_true q464s)); replace q464 := eq_true q464
                             have p465 : 0 ≤ (1 : Int) := (by omega)
                             have q465 : 1 < (x16_4.length : Int) := of_decide_eq_true (by first | (with_reducible assumption) | assumption)
                             obtain ⟨ad465, e465, hx465_0⟩ := Kd.at_int (Kd.R_reads' HO_16.out).2.2 1 p465 q465
                             obtain rfl : ad464 = ad465 := (by injection e465)
                             (try simp only [show (1 : Int).toNat = 1 from rfl, Nat.reduceMul, Nat.reduceEqDiff, Go.Addr.add, ↓reduceIte] at hx465_0)
                             have qi465 : (1 < x16_4.length) = True := eq_true (by omega)
                             (try rw [show ((1 : Int)).toNat = 1 from rfl] at hx465_0)
                             replace p465 := eq_true p465
                             (try (have q465s := q465; simp only [List.length_drop, List.length_take] at q465s; replace q465s := eq_true q465s)); replace q465 := eq_true q465
                             have p466 : 0 ≤ (2 : Int) := (by omega)
                             have q466 : 2 < (x16_4.length : Int) := of_decide_eq_true (by first | (with_reducible assumption) | assumption)
                             obtain ⟨ad466, e466, hx466_0⟩ := Kd.at_int (Kd.R_reads' HO_16.out).2.2 2 p466 q466
                             obtain rfl : ad464 = ad466 := (by injection e466)
                             (try simp only [show (2 : Int).toNat = 2 from rfl, Nat.reduceMul, Nat.reduceEqDiff, Go.Addr.add, ↓reduceIte] at hx466_0)
                             have qi466 : (2 < x16_4.length) = True := eq_true (by omega)
                             (try rw [show ((2 : Int)).toNat = 2 from rfl] at hx466_0)
                             replace p466 := eq_true p466
                             (try (have q466s := q466; simp only [List.length_drop, List.length_take] at q466s; replace q466s := eq_true q466s)); replace q466 := eq_true q466
                             try go_wp2
                             replace HO_11 := Aside0.mk (Kd.R_drew HO_11.out)
                             replace HO_16 := Aside0.mk (Kd.R_drew HO_16.out)
                             replace BK457 := Aside0.mk (blk_drew BK457.out)
                             replace HB := Aside0.mk (below_drew1 HB.out)
                             have p467 : 0 ≤ (0 : Int) := (by omega)
                             have q467 : 0 < (x16_4.length : Int) := of_decide_eq_true (by first | (with_reducible assumption) | assumption)
                             obtain ⟨ad467, e467, hx467_0⟩ := Kd.at_int (Kd.R_reads' HO_16.out).2.2 0 p467 q467
                             obtain rfl : ad464 = ad467 := (by injection e467)
                             have qi467 : (0 < x16_4.length) = True := eq_true (by omega)
                             (try rw [show ((0 : Int)).toNat = 0 from rfl] at hx467_0)
                             (try rw [Addr.add_zero'] at hx467_0)
                             replace p467 := eq_true p467
                             (try (have q467s := q467; simp only [List.length_drop, List.length_take] at q467s; replace q467s := eq_true q467s)); replace q467 := eq_true q467
                             refine start_ (n := 9) (S := fun w' => w'.cell? ⟨gb457, 0, none⟩ = some (.int .i64 (wrap64 (t456))) ∧ w'.cell? ⟨gb457, 1, none⟩ = some (.int .i64 0) ∧ w'.cell? ⟨gb457, 2, none⟩ = some (.int .i64 0) ∧ w'.cell? ⟨gb457, 3, none⟩ = some (.int .i64 0) ∧ w'.cell? ad464 = some (.int .u64 (rd x16_4 0))) (ds := [8]) (bl 9 0) (by kernel_rfl) rfl rfl ⟨(blk_cell BK457.out 0).trans rfl, (blk_cell BK457.out 1).trans rfl, (blk_cell BK457.out 2).trans rfl, (blk_cell BK457.out 3).trans rfl, hx467_0⟩ (fun hHeld => ?_); refine with_tabW gaiterref09_GetIndex.tab36 gaiterref09_GetIndex.bits36 (fun HT_ HW_ => ?_)
                             generalize wr.drew = w42 at HO_11 HO_16 BK457 HB hx467_0 hHeld ⊢
                             refine pu 0 (some 128) (bl 9 1) (h := ?_)
                             refine pu 2 (some 130) (bl 9 5) (h := ?_)
                             refine pu 3 (some 131) (bl 9 13) (h := ?_)
                             refine ta 1 (some 129) (bl 9 15) (h := ?_)
                             refine ta 4 (some 132) (bl 9 31) (h := ?_)
                             refine pu 5 (some 133) (bl 9 63) (h := ?_)
                             refine pu 6 (some 134) (bl 9 127) (h := ?_)
                             refine pu 7 (some 135) (bl 9 255) (h := ?_)
                             refine last_ (i := 8) (N := none) #[true, true, true, true, true, true, true, true, true] rfl rfl (one_of HT_.out (by kernel_rfl)) (by decide) (fun K hK => ?_)
                             have hs43 : w42.cell? ⟨gb457, 1, none⟩ = some (.int .i64 0) := (blk_cell BK457.out 1).trans rfl
                             have hfs43 := blk_frozen BK457.out 1
                             refine skip_ (w1 := ?_) (by rfl) rfl ?_ ?_
                             rotate_left
                             ·go_simp
                              rfl
                             refine hK.out _ _ ?_
                             clear hK K
                             refine done_ (done_of HT_.out (by kernel_rfl)) ?_
                             have p468 : 0 ≤ (1 : Int) := (by omega)
                             have q468 : 1 < (x16_4.length : Int) := of_decide_eq_true (by first | (with_reducible assumption) | assumption)
                             obtain ⟨ad468, e468, hx468_0⟩ := Kd.at_int (Kd.R_reads' HO_16.out).2.2 1 p468 q468
                             obtain rfl : ad464 = ad468 := (by injection e468)
                             (try simp only [show (1 : Int).toNat = 1 from rfl, Nat.reduceMul, Nat.reduceEqDiff, Go.Addr.add, ↓reduceIte] at hx468_0)
                             have qi468 : (1 < x16_4.length) = True := eq_true (by omega)
                             (try rw [show ((1 : Int)).toNat = 1 from rfl] at hx468_0)
                             have hn468_0 : ad464.block ≠ gb457 := Kd.own_blk (Kd.R_ne HO_16.out BK457.out (by decide))
                             replace hx468_0 := (cell_far (p := ⟨gb457, 1, none⟩) (ab_ hn468_0) (.int .i64 (wrap64 ((wrap64 (t456)) + (wrap64 (rd x16_4 0)))))).trans hx468_0
                             clear hn468_0
                             replace p468 := eq_true p468
                             (try (have q468s := q468; simp only [List.length_drop, List.length_take] at q468s; replace q468s := eq_true q468s)); replace q468 := eq_true q468
                             obtain ⟨hcz44_0, hcz44_1, hcz44_2, hcz44_3⟩ := kc4 BK457
                             obtain ⟨hfz44_0, hfz44_1, hfz44_2, hfz44_3⟩ := kf4 BK457
                             have p469 : 0 ≤ (2 : Int) := (by omega)
                             have q469 : 2 < (x16_4.length : Int) := of_decide_eq_true (by first | (with_reducible assumption) | assumption)
                             obtain ⟨ad469, e469, hx469_0⟩ := Kd.at_int (Kd.R_reads' HO_16.out).2.2 2 p469 q469
                             obtain rfl : ad464 = ad469 := (by injection e469)
                             (try simp only [show (2 : Int).toNat = 2 from rfl, Nat.reduceMul, Nat.reduceEqDiff, Go.Addr.add, ↓reduceIte] at hx469_0)
                             have qi469 : (2 < x16_4.length) = True := eq_true (by omega)
                             (try rw [show ((2 : Int)).toNat = 2 from rfl] at hx469_0)
                             have hn469_0 : ad464.block ≠ gb457 := Kd.own_blk (Kd.R_ne HO_16.out BK457.out (by decide))
                             have hn469_1 : ad464.block ≠ gb457 := Kd.own_blk (Kd.R_ne HO_16.out BK457.out (by decide))
                             replace hx469_0 := (cell_far (p := ⟨gb457, 1, none⟩) (ab_ hn469_0) (.int .i64 (wrap64 ((wrap64 (t456)) + (wrap64 (rd x16_4 0)))))).trans hx469_0
                             replace hx469_0 := (cell_far (p := ⟨gb457, 2, none⟩) (ab_ hn469_1) (.int .i64 (wrap64 (rd x16_4 1)))).trans hx469_0
                             clear hn469_0
                             clear hn469_1
                             replace p469 := eq_true p469
                             (try (have q469s := q469; simp only [List.length_drop, List.length_take] at q469s; replace q469s := eq_true q469s)); replace q469 := eq_true q469
                             have p470 : 0 ≤ (2 : Int) := (by omega)
                             have q470 : 2 < (x16_4.length : Int) := of_decide_eq_true (by first | (with_reducible assumption) | assumption)
                             obtain ⟨ad470, e470, hx470_0⟩ := Kd.at_int (Kd.R_reads' HO_16.out).2.2 2 p470 q470
                             obtain rfl : ad464 = ad470 := (by injection e470)
                             (try simp only [show (2 : Int).toNat = 2 from rfl, Nat.reduceMul, Nat.reduceEqDiff, Go.Addr.add, ↓reduceIte] at hx470_0)
                             have qi470 : (2 < x16_4.length) = True := eq_true (by omega)
                             (try rw [show ((2 : Int)).toNat = 2 from rfl] at hx470_0)
                             have hn470_0 : ad464.block ≠ gb457 := Kd.own_blk (Kd.R_ne HO_16.out BK457.out (by decide))
                             have hn470_1 : ad464.block ≠ gb457 := Kd.own_blk (Kd.R_ne HO_16.out BK457.out (by decide))
                             have hn470_2 : ad464.block ≠ gb457 := Kd.own_blk (Kd.R_ne HO_16.out BK457.out (by decide))
                             replace hx470_0 := (cell_far (p := ⟨gb457, 1, none⟩) (ab_ hn470_0) (.int .i64 (wrap64 ((wrap64 (t456)) + (wrap64 (rd x16_4 0)))))).trans hx470_0
                             replace hx470_0 := (cell_far (p := ⟨gb457, 2, none⟩) (ab_ hn470_1) (.int .i64 (wrap64 (rd x16_4 1)))).trans hx470_0
                             replace hx470_0 := (cell_far (p := ⟨gb457, 3, none⟩) (ab_ hn470_2) (.int .i64 (wrap64 (rd x16_4 2)))).trans hx470_0
                             clear hn470_0
                             clear hn470_1
                             clear hn470_2
                             replace p470 := eq_true p470
                             (try (have q470s := q470; simp only [List.length_drop, List.length_take] at q470s; replace q470s := eq_true q470s)); replace q470 := eq_true q470
                             try go_wp2_with (first | ((with_reducible refine gate_builtin (b := .append) (xs := #[.tmp 151, .tmp 153]) rfl ?_); (try (refine gate_guard (by rfl) ?_; dsimp only)); at_builtin; refine Kd.R_append k79 (w0 := w) w.heap.size rfl (.tmp 151) (.tmp 153) 58 79 (.agg #[(.int .i64 0), (.int .i64 0), (.int .i64 0), (.int .i64 0)]) 32 rfl Try.underlying58 info79 rfl (by decide) (by omega) u11 x11_3 (⟨(wrap64 (t456)), wrap64 ((wrap64 (t456)) + (wrap64 (rd x16_4 0))), wrap64 (rd x16_4 1), wrap64 (rd x16_4 2)⟩ : S79) [.int .i64 (wrap64 (t456)), .int .i64 (wrap64 ((wrap64 (t456)) + (wrap64 (rd x16_4 0)))), .int .i64 (wrap64 (rd x16_4 1)), .int .i64 (wrap64 (rd x16_4 2))] (fun k_ => k_ ≠ gb457) (fun _ => False) rfl (by first | (go_simp; done) | (go_simp; rfl)) ?aP (fun _ hk => hk.elim) ?aF ?aO ?aB ?aS ?aL ?_; (case aP => exact k79_mkM _ _ _ (⟨(wrap64 (t456)), wrap64 ((wrap64 (t456)) + (wrap64 (rd x16_4 0))), wrap64 (rd x16_4 1), wrap64 (rd x16_4 2)⟩ : S79)); (case aB => exact (kl HB)); (case aF => exact (fun k_ hk => Kd.freshB (g := gb457) (o := .cells #[.int .i64 (wrap64 (t456)), .int .i64 (wrap64 ((wrap64 (t456)) + (wrap64 (rd x16_4 0)))), .int .i64 (wrap64 (rd x16_4 1)), .int .i64 (wrap64 (rd x16_4 2))] 79 (0, 0)) (kb BK457) k_ hk)); (case aO => exact (by (with_reducible repeat (first | apply Kd.R_alloc | apply Kd.R_drewN | apply Kd.R_drew)); exact Kd.R_mono (Kd.R_far (p := ⟨gb457, 3, none⟩) (Kd.R_far (p := ⟨gb457, 2, none⟩) (Kd.R_far (p := ⟨gb457, 1, none⟩) (Kd.R_mono HO_11.out (fun k_ hk => (⟨hk, hk⟩ : _ ∧ k_ ≠ gb457))) (fun _ hk => hk.2) (.int .i64 (wrap64 ((wrap64 (t456)) + (wrap64 (rd x16_4 0)))))) (fun _ hk => hk.2) (.int .i64 (wrap64 (rd x16_4 1)))) (fun _ hk => hk.2) (.int .i64 (wrap64 (rd x16_4 2)))) (fun _ hk => hk.1))); (case aS => exact (below_size (kl HB))); (case aL => have := LMc39.out; omega); intro v472 w45 ho hb hg hat; rw [← Ny471.out] at ho; have n0_ := Aside0.mk (Kd.R_over' (by (with_reducible repeat (first | apply Kd.R_alloc | apply Kd.R_drewN | apply Kd.R_drew)); exact (Kd.R_mono (Kd.R_far (p := ⟨gb457, 3, none⟩) (Kd.R_far (p := ⟨gb457, 2, none⟩) (Kd.R_far (p := ⟨gb457, 1, none⟩) (Kd.R_types HO_16.out BK457.out (by decide)) (fun _ hk => hk.2) (.int .i64 (wrap64 ((wrap64 (t456)) + (wrap64 (rd x16_4 0)))))) (fun _ hk => hk.2) (.int .i64 (wrap64 (rd x16_4 1)))) (fun _ hk => hk.2) (.int .i64 (wrap64 (rd x16_4 2)))) (fun _ h_ => h_.1))) (Kd.R_typed (by (with_reducible repeat (first | apply Kd.R_alloc | apply Kd.R_drewN | apply Kd.R_drew)); exact (Kd.R_mono (Kd.R_far (p := ⟨gb457, 3, none⟩) (Kd.R_far (p := ⟨gb457, 2, none⟩) (Kd.R_far (p := ⟨gb457, 1, none⟩) (Kd.R_mono HO_11.out (fun k_ hk => (⟨hk, hk⟩ : _ ∧ k_ ≠ gb457))) (fun _ hk => hk.2) (.int .i64 (wrap64 ((wrap64 (t456)) + (wrap64 (rd x16_4 0)))))) (fun _ hk => hk.2) (.int .i64 (wrap64 (rd x16_4 1)))) (fun _ hk => hk.2) (.int .i64 (wrap64 (rd x16_4 2)))) (fun _ h_ => h_.1)))) (by decide) hg); have n1_ := Aside0.mk (blk_grown (g := gb457) (o := .cells #[.int .i64 (wrap64 (t456)), .int .i64 (wrap64 ((wrap64 (t456)) + (wrap64 (rd x16_4 0)))), .int .i64 (wrap64 (rd x16_4 1)), .int .i64 (wrap64 (rd x16_4 2))] 79 (0, 0)) (kb BK457) hg (Kd.R_away HO_11.out (fun _ hk => hk))); have n2_ := Aside0.mk (hb); have n3_ := Aside0.mk (ho); clear HO_16; clear BK457; clear HB; clear HO_11; have HO_16 := n0_; have BK457 := n1_; have HB := n2_; have HO473 := n3_; clear n0_ n1_ n2_ n3_; clear ho hb hg hat))
                             go_roundg k4
                             case measure => have := HJ1.out; have := HJ11.out; have := HK3.out; have := HK4.out; omega
                             case rel => exact ⟨(x10_4), (y471), (decide ((rd x16_4 2) ≤ 2147483647)), (IntKind.u64.wrap (x13_3 + (rd x16_4 2))), (wrap64 (x14_3 + 1)), (by first | rfl | (simp; done) | (simp [*]; done)), (by first | rfl | (simp; done) | (simp [*]; done)), (by first | rfl | (simp; done) | (simp [*]; done)), (by first | rfl | (simp; done) | (simp [*]; done)), H', ⟨by have := HJ1.out; have := HJ11.out; have := HK3.out; have := HK4.out; omega⟩, ⟨by (with_reducible repeat (first | apply Kd.R_alloc | apply Kd.R_drewN | apply Kd.R_drew)); exact Kd.R_mono HO473.out (fun _ hk => trivial)⟩, ⟨(kl HB)⟩⟩
                            ·rw [if_neg c39] at H
                             exact absurd H (by simp)
                           ·rw [if_neg c38] at H
                            have c38b0 : decide ((rd x16_4 2) ≤ 2147483647) = false := decide_eq_false c38
                            clear c38
                            by_cases c46 : x11_3.length < 4398046511104
                            ·rw [if_pos c46] at H
                             have LMc46 := Aside0.mk c46
                             clear c46
                             obtain ⟨y474, hy474⟩ : ∃ y_ : List (S79), y_ = (x11_3 ++ [(⟨(wrap64 (t456)), 0, 0, 0⟩ : S79)]) := ⟨_, rfl⟩
                             replace H : (gaiterref09_GetIndex.l0 k4 l0 (wrap64 (rd l0 4)) t452 x10_4 y474 (decide ((rd x16_4 2) ≤ 2147483647)) x13_3 (wrap64 (x14_3 + 1))) = some (r1, r2, r3, r4) := by first | (rw [hy474]; with_reducible exact H) | (have H2_ := (Option.bind_some _ _).symm.trans H; rw [hy474]; with_reducible exact H2_) | (have H2_ := (Option.bind_some _ _).symm.trans H; with_reducible exact H2_) | with_reducible exact H | (rw [hy474]; exact H) | exact H
                             have Ny474 := Aside0.mk hy474
                             clear hy474
                             have H' := Aside0.mk H
                             clear H
                             obtain ⟨hcz47_0, hcz47_1, hcz47_2, hcz47_3⟩ := kc4 BK457
                             obtain ⟨hfz47_0, hfz47_1, hfz47_2, hfz47_3⟩ := kf4 BK457
                             obtain ⟨Ao48, co48, eo48⟩ := Kd.R_slice HO_16.out
                             subst eo48
                             have p464 : 0 ≤ (0 : Int) := (by omega)
                             have q464 : 0 < (x16_4.length : Int) := of_decide_eq_true (by first | (with_reducible assumption) | assumption)
                             obtain ⟨ad464, e464, hx464_0⟩ := Kd.at_int (Kd.R_reads' HO_16.out).2.2 0 p464 q464
                             cases e464
                             have qi464 : (0 < x16_4.length) = True := eq_true (by omega)
                             (try rw [show ((0 : Int)).toNat = 0 from rfl] at hx464_0)
                             (try rw [Addr.add_zero'] at hx464_0)
                             replace p464 := eq_true p464
                             (try (have q464s := q464; simp only [List.length_drop, List.length_take] at q464s; replace q464s := eq_true q464s)); replace q464 := eq_true q464
                             have p465 : 0 ≤ (1 : Int) := (by omega)
                             have q465 : 1 < (x16_4.length : Int) := of_decide_eq_true (by first | (with_reducible assumption) | assumption)
                             obtain ⟨ad465, e465, hx465_0⟩ := Kd.at_int (Kd.R_reads' HO_16.out).2.2 1 p465 q465
                             obtain rfl : ad464 = ad465 := (by injection e465)
                             (try simp only [show (1 : Int).toNat = 1 from rfl, Nat.reduceMul, Nat.reduceEqDiff, Go.Addr.add, ↓reduceIte] at hx465_0)
                             have qi465 : (1 < x16_4.length) = True := eq_true (by omega)
                             (try rw [show ((1 : Int)).toNat = 1 from rfl] at hx465_0)
                             replace p465 := eq_true p465
                             (try (have q465s := q465; simp only [List.length_drop, List.length_take] at q465s; replace q465s := eq_true q465s)); replace q465 := eq_true q465
                             have p466 : 0 ≤ (2 : Int) := (by omega)
                             have q466 : 2 < (x16_4.length : Int) := of_decide_eq_true (by first | (with_reducible assumption) | assumption)
                             obtain ⟨ad466, e466, hx466_0⟩ := Kd.at_int (Kd.R_reads' HO_16.out).2.2 2 p466 q466
                             obtain rfl : ad464 = ad466 := (by injection e466)
                             (try simp only [show (2 : Int).toNat = 2 from rfl, Nat.reduceMul, Nat.reduceEqDiff, Go.Addr.add, ↓reduceIte] at hx466_0)
                             have qi466 : (2 < x16_4.length) = True := eq_true (by omega)
                             (try rw [show ((2 : Int)).toNat = 2 from rfl] at hx466_0)
                             replace p466 := eq_true p466
                             (try (have q466s := q466; simp only [List.length_drop, List.length_take] at q466s; replace q466s := eq_true q466s)); replace q466 := eq_true q466
                             go_wp2_with (first | ((with_reducible refine gate_builtin (b := .append) (xs := #[.tmp 151, .tmp 153]) rfl ?_); (try (refine gate_guard (by rfl) ?_; dsimp only)); at_builtin; refine Kd.R_append k79 (w0 := w) w.heap.size rfl (.tmp 151) (.tmp 153) 58 79 (.agg #[(.int .i64 0), (.int .i64 0), (.int .i64 0), (.int .i64 0)]) 32 rfl Try.underlying58 info79 rfl (by decide) (by omega) u11 x11_3 (⟨(wrap64 (t456)), 0, 0, 0⟩ : S79) [.int .i64 (wrap64 (t456)), .int .i64 0, .int .i64 0, .int .i64 0] (fun k_ => k_ ≠ gb457) (fun _ => False) rfl rfl ?aP (fun _ hk => hk.elim) ?aF ?aO ?aB ?aS ?aL ?_; (case aP => exact k79_mkM _ _ _ (⟨(wrap64 (t456)), 0, 0, 0⟩ : S79)); (case aB => exact (kl HB)); (case aF => exact (fun k_ hk => Kd.freshB (g := gb457) (o := .cells #[.int .i64 (wrap64 (t456)), .int .i64 0, .int .i64 0, .int .i64 0] 79 (0, 0)) (kb BK457) k_ hk)); (case aO => exact (kr HO_11)); (case aS => exact (below_size (kl HB))); (case aL => have := LMc46.out; omega); intro v475 w49 ho hb hg hat; rw [← Ny474.out] at ho; have n0_ := Aside0.mk (Kd.R_over' (kr HO_16) (Kd.R_typed (kr HO_11)) (by decide) hg); have n1_ := Aside0.mk (blk_grown (g := gb457) (o := .cells #[.int .i64 (wrap64 (t456)), .int .i64 0, .int .i64 0, .int .i64 0] 79 (0, 0)) (kb BK457) hg (Kd.R_away HO_11.out (fun _ hk => hk))); have n2_ := Aside0.mk (hb); have n3_ := Aside0.mk (ho); clear HO_16; clear BK457; clear HB; clear HO_11; have HO_16 := n0_; have BK457 := n1_; have HB := n2_; have HO476 := n3_; clear n0_ n1_ n2_ n3_; clear ho hb hg hat))
                             go_roundg k4
                             case measure => have := HJ1.out; have := HJ11.out; have := HK3.out; have := HK4.out; omega
                             case rel => exact ⟨(x10_4), (y474), (decide ((rd x16_4 2) ≤ 2147483647)), (x13_3), (wrap64 (x14_3 + 1)), (by first | rfl | (simp; done) | (simp [*]; done)), (by first | rfl | (simp; done) | (simp [*]; done)), (by first | rfl | (simp; done) | (simp [*]; done)), (by first | rfl | (simp; done) | (simp [*]; done)), H', ⟨by have := HJ1.out; have := HJ11.out; have := HK3.out; have := HK4.out; omega⟩, ⟨by (with_reducible repeat (first | apply Kd.R_alloc | apply Kd.R_drewN | apply Kd.R_drew)); exact Kd.R_mono HO476.out (fun _ hk => trivial)⟩, ⟨(kl HB)⟩⟩
                            ·rw [if_neg c46] at H
                             exact absurd H (by simp)
                          ·rw [if_neg c37] at H
                           exact absurd H (by simp)
                         ·rw [if_neg c36] at H
                          have c36b0 : decide ((rd x16_4 1) ≤ 65535) = false := decide_eq_false c36
                          clear c36
                          by_cases c50 : x11_3.length < 4398046511104
                          ·rw [if_pos c50] at H
                           have LMc50 := Aside0.mk c50
                           clear c50
                           obtain ⟨y477, hy477⟩ : ∃ y_ : List (S79), y_ = (x11_3 ++ [(⟨(wrap64 (t456)), 0, 0, 0⟩ : S79)]) := ⟨_, rfl⟩
                           replace H : (gaiterref09_GetIndex.l0 k4 l0 (wrap64 (rd l0 4)) t452 x10_4 y477 false x13_3 (wrap64 (x14_3 + 1))) = some (r1, r2, r3, r4) := by first | (rw [hy477]; with_reducible exact H) | (have H2_ := (Option.bind_some _ _).symm.trans H; rw [hy477]; with_reducible exact H2_) | (have H2_ := (Option.bind_some _ _).symm.trans H; with_reducible exact H2_) | with_reducible exact H | (rw [hy477]; exact H) | exact H
                           have Ny477 := Aside0.mk hy477
                           clear hy477
                           have H' := Aside0.mk H
                           clear H
                           obtain ⟨hcz51_0, hcz51_1, hcz51_2, hcz51_3⟩ := kc4 BK457
                           obtain ⟨hfz51_0, hfz51_1, hfz51_2, hfz51_3⟩ := kf4 BK457
                           obtain ⟨Ao52, co52, eo52⟩ := Kd.R_slice HO_16.out
                           subst eo52
                           have p464 : 0 ≤ (0 : Int) := (by omega)
                           have q464 : 0 < (x16_4.length : Int) := of_decide_eq_true (by first | (with_reducible assumption) | assumption)
                           obtain ⟨ad464, e464, hx464_0⟩ := Kd.at_int (Kd.R_reads' HO_16.out).2.2 0 p464 q464
                           cases e464
                           have qi464 : (0 < x16_4.length) = True := eq_true (by omega)
                           (try rw [show ((0 : Int)).toNat = 0 from rfl] at hx464_0)
                           (try rw [Addr.add_zero'] at hx464_0)
                           replace p464 := eq_true p464
                           (try (have q464s := q464; simp only [List.length_drop, List.length_take] at q464s; replace q464s := eq_true q464s)); replace q464 := eq_true q464
                           have p465 : 0 ≤ (1 : Int) := (by omega)
                           have q465 : 1 < (x16_4.length : Int) := of_decide_eq_true (by first | (with_reducible assumption) | assumption)
                           obtain ⟨ad465, e465, hx465_0⟩ := Kd.at_int (Kd.R_reads' HO_16.out).2.2 1 p465 q465
                           obtain rfl : ad464 = ad465 := (by injection e465)
                           (try simp only [show (1 : Int).toNat = 1 from rfl, Nat.reduceMul, Nat.reduceEqDiff, Go.Addr.add, ↓reduceIte] at hx465_0)
                           have qi465 : (1 < x16_4.length) = True := eq_true (by omega)
                           (try rw [show ((1 : Int)).toNat = 1 from rfl] at hx465_0)
                           replace p465 := eq_true p465
                           (try (have q465s := q465; simp only [List.length_drop, List.length_take] at q465s; replace q465s := eq_true q465s)); replace q465 := eq_true q465
                           go_wp2_with (first | ((with_reducible refine gate_builtin (b := .append) (xs := #[.tmp 151, .tmp 153]) rfl ?_); (try (refine gate_guard (by rfl) ?_; dsimp only)); at_builtin; refine Kd.R_append k79 (w0 := w) w.heap.size rfl (.tmp 151) (.tmp 153) 58 79 (.agg #[(.int .i64 0), (.int .i64 0), (.int .i64 0), (.int .i64 0)]) 32 rfl Try.underlying58 info79 rfl (by decide) (by omega) u11 x11_3 (⟨(wrap64 (t456)), 0, 0, 0⟩ : S79) [.int .i64 (wrap64 (t456)), .int .i64 0, .int .i64 0, .int .i64 0] (fun k_ => k_ ≠ gb457) (fun _ => False) rfl rfl ?aP (fun _ hk => hk.elim) ?aF ?aO ?aB ?aS ?aL ?_; (case aP => exact k79_mkM _ _ _ (⟨(wrap64 (t456)), 0, 0, 0⟩ : S79)); (case aB => exact (kl HB)); (case aF => exact (fun k_ hk => Kd.freshB (g := gb457) (o := .cells #[.int .i64 (wrap64 (t456)), .int .i64 0, .int .i64 0, .int .i64 0] 79 (0, 0)) (kb BK457) k_ hk)); (case aO => exact (kr HO_11)); (case aS => exact (below_size (kl HB))); (case aL => have := LMc50.out; omega); intro v478 w53 ho hb hg hat; rw [← Ny477.out] at ho; have n0_ := Aside0.mk (Kd.R_over' (kr HO_16) (Kd.R_typed (kr HO_11)) (by decide) hg); have n1_ := Aside0.mk (blk_grown (g := gb457) (o := .cells #[.int .i64 (wrap64 (t456)), .int .i64 0, .int .i64 0, .int .i64 0] 79 (0, 0)) (kb BK457) hg (Kd.R_away HO_11.out (fun _ hk => hk))); have n2_ := Aside0.mk (hb); have n3_ := Aside0.mk (ho); clear HO_16; clear BK457; clear HB; clear HO_11; have HO_16 := n0_; have BK457 := n1_; have HB := n2_; have HO479 := n3_; clear n0_ n1_ n2_ n3_; clear ho hb hg hat))
                           go_roundg k4
                           case measure => have := HJ1.out; have := HJ11.out; have := HK3.out; have := HK4.out; omega
                           case rel => exact ⟨(x10_4), (y477), (false), (x13_3), (wrap64 (x14_3 + 1)), (by first | rfl | (simp; done) | (simp [*]; done)), (by first | rfl | (simp; done) | (simp [*]; done)), (by first | rfl | (simp; done) | (simp [*]; done)), (by first | rfl | (simp; done) | (simp [*]; done)), H', ⟨by have := HJ1.out; have := HJ11.out; have := HK3.out; have := HK4.out; omega⟩, ⟨by (with_reducible repeat (first | apply Kd.R_alloc | apply Kd.R_drewN | apply Kd.R_drew)); exact Kd.R_mono HO479.out (fun _ hk => trivial)⟩, ⟨(kl HB)⟩⟩
                          ·rw [if_neg c50] at H
                           exact absurd H (by simp)
                        ·rw [if_neg c35] at H
                         exact absurd H (by simp)
                       ·rw [if_neg c34] at H
                        have c34b0 : decide ((rd x16_4 0) ≤ (IntKind.u64.wrap (9223372036854775807 - (IntKind.u64.wrap ((wrap64 (t456))))))) = false := decide_eq_false c34
                        clear c34
                        by_cases c54 : x11_3.length < 4398046511104
                        ·rw [if_pos c54] at H
                         have LMc54 := Aside0.mk c54
                         clear c54
                         obtain ⟨y480, hy480⟩ : ∃ y_ : List (S79), y_ = (x11_3 ++ [(⟨(wrap64 (t456)), 0, 0, 0⟩ : S79)]) := ⟨_, rfl⟩
                         replace H : (gaiterref09_GetIndex.l0 k4 l0 (wrap64 (rd l0 4)) t452 x10_4 y480 false x13_3 (wrap64 (x14_3 + 1))) = some (r1, r2, r3, r4) := by first | (rw [hy480]; with_reducible exact H) | (have H2_ := (Option.bind_some _ _).symm.trans H; rw [hy480]; with_reducible exact H2_) | (have H2_ := (Option.bind_some _ _).symm.trans H; with_reducible exact H2_) | with_reducible exact H | (rw [hy480]; exact H) | exact H
                         have Ny480 := Aside0.mk hy480
                         clear hy480
                         have H' := Aside0.mk H
                         clear H
                         obtain ⟨hcz55_0, hcz55_1, hcz55_2, hcz55_3⟩ := kc4 BK457
                         obtain ⟨hfz55_0, hfz55_1, hfz55_2, hfz55_3⟩ := kf4 BK457
                         obtain ⟨Ao56, co56, eo56⟩ := Kd.R_slice HO_16.out
                         subst eo56
                         have p464 : 0 ≤ (0 : Int) := (by omega)
                         have q464 : 0 < (x16_4.length : Int) := of_decide_eq_true (by first | (with_reducible assumption) | assumption)
                         obtain ⟨ad464, e464, hx464_0⟩ := Kd.at_int (Kd.R_reads' HO_16.out).2.2 0 p464 q464
                         cases e464
                         have qi464 : (0 < x16_4.length) = True := eq_true (by omega)
                         (try rw [show ((0 : Int)).toNat = 0 from rfl] at hx464_0)
                         (try rw [Addr.add_zero'] at hx464_0)
                         replace p464 := eq_true p464
                         (try (have q464s := q464; simp only [List.length_drop, List.length_take] at q464s; replace q464s := eq_true q464s)); replace q464 := eq_true q464
                         go_wp2_with (first | ((with_reducible refine gate_builtin (b := .append) (xs := #[.tmp 151, .tmp 153]) rfl ?_); (try (refine gate_guard (by rfl) ?_; dsimp only)); at_builtin; refine Kd.R_append k79 (w0 := w) w.heap.size rfl (.tmp 151) (.tmp 153) 58 79 (.agg #[(.int .i64 0), (.int .i64 0), (.int .i64 0), (.int .i64 0)]) 32 rfl Try.underlying58 info79 rfl (by decide) (by omega) u11 x11_3 (⟨(wrap64 (t456)), 0, 0, 0⟩ : S79) [.int .i64 (wrap64 (t456)), .int .i64 0, .int .i64 0, .int .i64 0] (fun k_ => k_ ≠ gb457) (fun _ => False) rfl rfl ?aP (fun _ hk => hk.elim) ?aF ?aO ?aB ?aS ?aL ?_; (case aP => exact k79_mkM _ _ _ (⟨(wrap64 (t456)), 0, 0, 0⟩ : S79)); (case aB => exact (kl HB)); (case aF => exact (fun k_ hk => Kd.freshB (g := gb457) (o := .cells #[.int .i64 (wrap64 (t456)), .int .i64 0, .int .i64 0, .int .i64 0] 79 (0, 0)) (kb BK457) k_ hk)); (case aO => exact (kr HO_11)); (case aS => exact (below_size (kl HB))); (case aL => have := LMc54.out; omega); intro v481 w57 ho hb hg hat; rw [← Ny480.out] at ho; have n0_ := Aside0.mk (Kd.R_over' (kr HO_16) (Kd.R_typed (kr HO_11)) (by decide) hg); have n1_ := Aside0.mk (blk_grown (g := gb457) (o := .cells #[.int .i64 (wrap64 (t456)), .int .i64 0, .int .i64 0, .int .i64 0] 79 (0, 0)) (kb BK457) hg (Kd.R_away HO_11.out (fun _ hk => hk))); have n2_ := Aside0.mk (hb); have n3_ := Aside0.mk (ho); clear HO_16; clear BK457; clear HB; clear HO_11; have HO_16 := n0_; have BK457 := n1_; have HB := n2_; have HO482 := n3_; clear n0_ n1_ n2_ n3_; clear ho hb hg hat))
                         go_roundg k4
                         case measure => have := HJ1.out; have := HJ11.out; have := HK3.out; have := HK4.out; omega
                         case rel => exact ⟨(x10_4), (y480), (false), (x13_3), (wrap64 (x14_3 + 1)), (by first | rfl | (simp; done) | (simp [*]; done)), (by first | rfl | (simp; done) | (simp [*]; done)), (by first | rfl | (simp; done) | (simp [*]; done)), (by first | rfl | (simp; done) | (simp [*]; done)), H', ⟨by have := HJ1.out; have := HJ11.out; have := HK3.out; have := HK4.out; omega⟩, ⟨by (with_reducible repeat (first | apply Kd.R_alloc | apply Kd.R_drewN | apply Kd.R_drew)); exact Kd.R_mono HO482.out (fun _ hk => trivial)⟩, ⟨(kl HB)⟩⟩
                        ·rw [if_neg c54] at H
                         exact absurd H (by simp)
                      ·rw [if_neg c33] at H
                       exact absurd H (by simp)
                     ·replace c32 := Bool.eq_false_iff.mpr c32
                      subst c32
                      have H1 : (if x11_3.length < 4398046511104 then (gaiterref09_GetIndex.l0 k4 l0 (wrap64 (rd l0 4)) t452 x10_4 (x11_3 ++ [(⟨(wrap64 (t456)), 0, 0, 0⟩ : S79)]) false x13_3 (wrap64 (x14_3 + 1))) else (none)) = some (r1, r2, r3, r4) := by rw [if_neg (show ¬ (false = true) by decide)] at H; exact H
                      clear H
                      have H := H1
                      clear H1
                      by_cases c58 : x11_3.length < 4398046511104
                      ·rw [if_pos c58] at H
                       have LMc58 := Aside0.mk c58
                       clear c58
                       obtain ⟨y483, hy483⟩ : ∃ y_ : List (S79), y_ = (x11_3 ++ [(⟨(wrap64 (t456)), 0, 0, 0⟩ : S79)]) := ⟨_, rfl⟩
                       replace H : (gaiterref09_GetIndex.l0 k4 l0 (wrap64 (rd l0 4)) t452 x10_4 y483 false x13_3 (wrap64 (x14_3 + 1))) = some (r1, r2, r3, r4) := by first | (rw [hy483]; with_reducible exact H) | (have H2_ := (Option.bind_some _ _).symm.trans H; rw [hy483]; with_reducible exact H2_) | (have H2_ := (Option.bind_some _ _).symm.trans H; with_reducible exact H2_) | with_reducible exact H | (rw [hy483]; exact H) | exact H
                       have Ny483 := Aside0.mk hy483
                       clear hy483
                       have H' := Aside0.mk H
                       clear H
                       obtain ⟨hcz59_0, hcz59_1, hcz59_2, hcz59_3⟩ := kc4 BK457
                       obtain ⟨hfz59_0, hfz59_1, hfz59_2, hfz59_3⟩ := kf4 BK457
                       go_wp2_with (first | ((with_reducible refine gate_builtin (b := .append) (xs := #[.tmp 151, .tmp 153]) rfl ?_); (try (refine gate_guard (by rfl) ?_; dsimp only)); at_builtin; refine Kd.R_append k79 (w0 := w) w.heap.size rfl (.tmp 151) (.tmp 153) 58 79 (.agg #[(.int .i64 0), (.int .i64 0), (.int .i64 0), (.int .i64 0)]) 32 rfl Try.underlying58 info79 rfl (by decide) (by omega) u11 x11_3 (⟨(wrap64 (t456)), 0, 0, 0⟩ : S79) [.int .i64 (wrap64 (t456)), .int .i64 0, .int .i64 0, .int .i64 0] (fun k_ => k_ ≠ gb457) (fun _ => False) rfl rfl ?aP (fun _ hk => hk.elim) ?aF ?aO ?aB ?aS ?aL ?_; (case aP => exact k79_mkM _ _ _ (⟨(wrap64 (t456)), 0, 0, 0⟩ : S79)); (case aB => exact (kl HB)); (case aF => exact (fun k_ hk => Kd.freshB (g := gb457) (o := .cells #[.int .i64 (wrap64 (t456)), .int .i64 0, .int .i64 0, .int .i64 0] 79 (0, 0)) (kb BK457) k_ hk)); (case aO => exact (kr HO_11)); (case aS => exact (below_size (kl HB))); (case aL => have := LMc58.out; omega); intro v484 w60 ho hb hg hat; rw [← Ny483.out] at ho; have n0_ := Aside0.mk (Kd.R_over' (kr HO_16) (Kd.R_typed (kr HO_11)) (by decide) hg); have n1_ := Aside0.mk (blk_grown (g := gb457) (o := .cells #[.int .i64 (wrap64 (t456)), .int .i64 0, .int .i64 0, .int .i64 0] 79 (0, 0)) (kb BK457) hg (Kd.R_away HO_11.out (fun _ hk => hk))); have n2_ := Aside0.mk (hb); have n3_ := Aside0.mk (ho); clear HO_16; clear BK457; clear HB; clear HO_11; have HO_16 := n0_; have BK457 := n1_; have HB := n2_; have HO485 := n3_; clear n0_ n1_ n2_ n3_; clear ho hb hg hat))
                       go_roundg k4
                       case measure => have := HJ1.out; have := HJ11.out; have := HK3.out; have := HK4.out; omega
                       case rel => exact ⟨(x10_4), (y483), (false), (x13_3), (wrap64 (x14_3 + 1)), (by first | rfl | (simp; done) | (simp [*]; done)), (by first | rfl | (simp; done) | (simp [*]; done)), (by first | rfl | (simp; done) | (simp [*]; done)), (by first | rfl | (simp; done) | (simp [*]; done)), H', ⟨by have := HJ1.out; have := HJ11.out; have := HK3.out; have := HK4.out; omega⟩, ⟨by (with_reducible repeat (first | apply Kd.R_alloc | apply Kd.R_drewN | apply Kd.R_drew)); exact Kd.R_mono HO485.out (fun _ hk => trivial)⟩, ⟨(kl HB)⟩⟩
                      ·rw [if_neg c58] at H
                       exact absurd H (by simp)
                 ·rw [if_neg c22] at H
                  exact absurd H (by simp)
                ·rw [if_neg c21] at H
                 exact absurd H (by simp)
               ·rw [if_neg c20] at H
                exact absurd H (by simp)
             ·rw [if_neg c18] at H
              have c18b0 : decide (x14_3 < (wrap64 (t452))) = false := decide_eq_false c18
              clear c18
              by_cases c61 : (wrap64 ((l0.length : Int) - x10_3)) < 4
              ·rw [if_pos c61] at H
               have c61b0 : decide ((wrap64 ((l0.length : Int) - x10_3)) < 4) = true := decide_eq_true c61
               clear c61
               simp only [Option.some.injEq, Prod.mk.injEq] at H
               obtain ⟨rfl, rfl, rfl, rfl⟩ := H
               go_wp2
               refine bodyPost_ret (results_list (rs := [.tmp 2, .tmp 3, .tmp 4, .tmp 5]) rfl (by simp) (.tmp (.tmp (.tmp (.tmp .nil))))) rfl ?_
               exact ⟨_, by first | rfl | (simp [errW_none, errW_some] <;> rfl) | (simp [*, errW_none, errW_some] <;> rfl), by first | exact Kd.R_nil _ _ _ _ _ | exact Kd.N_nil _ _ _ _ _ | exact Kd.V_nil _ _ _ _ _ | exact Kd.Q_nil _ _ _ _ _ | exact Kd.S_nil _ _ _ _ _, (kl HB)⟩
              ·rw [if_neg c61] at H
               have c61b0 : decide ((wrap64 ((l0.length : Int) - x10_3)) < 4) = false := decide_eq_false c61
               clear c61
               by_cases c62 : 0 ≤ x10_3
               ·rw [if_pos c62] at H
                have c62b0 := eq_true c62
                have c62b1 : decide (0 ≤ x10_3) = true := decide_eq_true c62
                clear c62
                by_cases c63 : x10_3 ≤ (wrap64 (x10_3 + 4))
                ·rw [if_pos c63] at H
                 have c63b0 := eq_true c63
                 have c63b1 : decide (x10_3 ≤ (wrap64 (x10_3 + 4))) = true := decide_eq_true c63
                 by_cases c64 : (wrap64 (x10_3 + 4)) ≤ (l0.length : Int)
                 ·rw [if_pos c64] at H
                  have c64b0 := eq_true c64
                  have c64b1 : decide ((wrap64 (x10_3 + 4)) ≤ (l0.length : Int)) = true := decide_eq_true c64
                  replace H := Option.bind_eq_some_iff.mp H
                  obtain ⟨t487, A650, H⟩ := H
                  replace H : (if x10_3 ≤ (l0.length : Int) then ((gaiterref09_Sum.f k3 (l0.take (x10_3 : Int).toNat)).bind fun t489 => (if t487 = (IntKind.u64.wrap (t489)) then ((gaiterref09_MayIndex.f k3 (wrap64 (rd l0 4)) x11_3).bind fun t490 => (if x12_3 = true then (if t490 = true then (if x13_3 = (IntKind.u64.wrap (wrap64 ((wrap64 ((l0.length : Int) - x10_3)) - 4))) then (some ((wrap64 (rd l0 4)), x11_3, wrap64 (x10_3 + 4), 0)) else (some (0, ([] : List (S79)), 0, 8))) else (some (0, ([] : List (S79)), 0, 8))) else (some (0, ([] : List (S79)), 0, 8)))) else (some (0, ([] : List (S79)), 0, 7)))) else (none)) = some (r1, r2, r3, r4) := H
                  have A65 := Aside0.mk A650
                  clear A650
                  have c66b0 := eq_true (of_decide_eq_true (by first | (with_reducible assumption) | assumption) : 0 ≤ x10_3)
                  by_cases c67 : x10_3 ≤ (l0.length : Int)
                  ·rw [if_pos c67] at H
                   have c67b0 := eq_true c67
                   have c67b1 : decide (x10_3 ≤ (l0.length : Int)) = true := decide_eq_true c67
                   clear c67
                   replace H := Option.bind_eq_some_iff.mp H
                   obtain ⟨t489, A680, H⟩ := H
                   replace H : (if t487 = (IntKind.u64.wrap (t489)) then ((gaiterref09_MayIndex.f k3 (wrap64 (rd l0 4)) x11_3).bind fun t490 => (if x12_3 = true then (if t490 = true then (if x13_3 = (IntKind.u64.wrap (wrap64 ((wrap64 ((l0.length : Int) - x10_3)) - 4))) then (some ((wrap64 (rd l0 4)), x11_3, wrap64 (x10_3 + 4), 0)) else (some (0, ([] : List (S79)), 0, 8))) else (some (0, ([] : List (S79)), 0, 8))) else (some (0, ([] : List (S79)), 0, 8)))) else (some (0, ([] : List (S79)), 0, 7))) = some (r1, r2, r3, r4) := H
                   have A68 := Aside0.mk A680
                   clear A680
                   by_cases c69 : t487 = (IntKind.u64.wrap (t489))
                   ·rw [if_pos c69] at H
                    have c69b0 : (t487 == (IntKind.u64.wrap (t489))) = true := beq_iff_eq.mpr c69
                    have c69b1 : (t487 != (IntKind.u64.wrap (t489))) = false := bne_eq_false_iff_eq.mpr c69
                    clear c69
                    replace H := Option.bind_eq_some_iff.mp H
                    obtain ⟨t490, A700, H⟩ := H
                    replace H : (if x12_3 = true then (if t490 = true then (if x13_3 = (IntKind.u64.wrap (wrap64 ((wrap64 ((l0.length : Int) - x10_3)) - 4))) then (some ((wrap64 (rd l0 4)), x11_3, wrap64 (x10_3 + 4), 0)) else (some (0, ([] : List (S79)), 0, 8))) else (some (0, ([] : List (S79)), 0, 8))) else (some (0, ([] : List (S79)), 0, 8))) = some (r1, r2, r3, r4) := H
                    have A70 := Aside0.mk A700
                    clear A700
                    by_cases c71 : x12_3 = true
                    ·subst c71
                     have H1 : (if t490 = true then (if x13_3 = (IntKind.u64.wrap (wrap64 ((wrap64 ((l0.length : Int) - x10_3)) - 4))) then (some ((wrap64 (rd l0 4)), x11_3, wrap64 (x10_3 + 4), 0)) else (some (0, ([] : List (S79)), 0, 8))) else (some (0, ([] : List (S79)), 0, 8))) = some (r1, r2, r3, r4) := by rw [if_pos rfl] at H; exact H
                     clear H
                     have H := H1
                     clear H1
                     by_cases c72 : t490 = true
                     ·subst c72
                      have H1 : (if x13_3 = (IntKind.u64.wrap (wrap64 ((wrap64 ((l0.length : Int) - x10_3)) - 4))) then (some ((wrap64 (rd l0 4)), x11_3, wrap64 (x10_3 + 4), 0)) else (some (0, ([] : List (S79)), 0, 8))) = some (r1, r2, r3, r4) := by rw [if_pos rfl] at H; exact H
                      clear H
                      have H := H1
                      clear H1
                      by_cases c73 : x13_3 = (IntKind.u64.wrap (wrap64 ((wrap64 ((l0.length : Int) - x10_3)) - 4)))
                      ·rw [if_pos c73] at H
                       have c73b0 : (x13_3 == (IntKind.u64.wrap (wrap64 ((wrap64 ((l0.length : Int) - x10_3)) - 4)))) = true := beq_iff_eq.mpr c73
                       have c73b1 : (x13_3 != (IntKind.u64.wrap (wrap64 ((wrap64 ((l0.length : Int) - x10_3)) - 4)))) = false := bne_eq_false_iff_eq.mpr c73
                       clear c73
                       simp only [Option.some.injEq, Prod.mk.injEq] at H
                       obtain ⟨rfl, rfl, rfl, rfl⟩ := H
                       try go_wp2
                       replace HO_11 := Aside0.mk (Kd.R_drew HO_11.out)
                       replace HB := Aside0.mk (below_drew1 HB.out)
                       obtain ⟨i075, hi075, _, hsz75, _⟩ := info_parts info5
                       obtain ⟨A75, hcut75, hA75, hC75⟩ := print_mid_of (P := Try.prog) (Value.int .u8) 0 54 5 .i64 .i64 Try.underlying54 hi075 hsz75 (some ad451) c0 l0 x10_3 (wrap64 (x10_3 + 4)) (of_decide_eq_true (by first | (with_reducible assumption) | assumption)) (by first | omega | exact of_decide_eq_true (by first | (with_reducible assumption) | assumption)) (of_decide_eq_true (by first | (with_reducible assumption) | assumption)) HC0.out
                       have HR486 := Aside0.mk (Kd.C_of_reads (h1 := fun _ => rfl) (hA75 _ (Kd.reads_of_C HR0.out)))
                       have HC486 := Aside0.mk hC75
                       clear hA75 hC75 hi075 hsz75
                       obtain ⟨i076, hi076, _, hsz76, _⟩ := info_parts info5
                       obtain ⟨hcut76, hA76, hC76⟩ := print_take_of (P := Try.prog) (Value.int .u8) 0 54 5 .i64 Try.underlying54 hi076 hsz76 (some ad451) c0 l0 x10_3 (of_decide_eq_true (by first | (with_reducible assumption) | assumption)) (of_decide_eq_true (by first | (with_reducible assumption) | assumption)) HC0.out
                       have HR488 := Aside0.mk (Kd.C_of_reads (h1 := fun _ => rfl) (hA76 _ (Kd.reads_of_C HR0.out)))
                       have HC488 := Aside0.mk hC76
                       clear hA76 hC76 hi076 hsz76
                       refine start_ (n := 12) (S := fun w' => True) (ds := []) (bl 12 0) (by kernel_rfl) rfl rfl trivial (fun hHeld => ?_); refine with_tabW gaiterref09_GetIndex.tab43 gaiterref09_GetIndex.bits43 (fun HT_ HW_ => ?_)
                       generalize wr.drew = w74 at HO_11 HB HR486 HR488 hHeld ⊢
                       refine pu 0 (some 160) (bl 12 1) (h := ?_)
                       refine pu 1 (some 161) (bl 12 3) (h := ?_)
                       refine pu 2 (some 162) (bl 12 7) (h := ?_)
                       refine pu 3 (some 163) (bl 12 15) (h := ?_)
                       refine pu 4 (some 164) (bl 12 31) (h := ?_)
                       refine pu 6 (some 166) (bl 12 95) (h := ?_)
                       refine pu 7 (some 167) (bl 12 223) (h := ?_)
                       refine pu 8 (some 168) (bl 12 479) (h := ?_)
                       refine one_ (i := 5) (N := some 165) #[true, true, true, true, true, true, true, true, true, false, false, false] rfl rfl (one_of HT_.out (by kernel_rfl)) (by decide) (fun K hK => ?_)
                       refine goes_ Try.func41 (by kernel_rfl) rfl #[.slice A75 ((l0.take ((wrap64 (x10_3 + 4)) : Int).toNat).drop (x10_3 : Int).toNat).length (c0 - x10_3.toNat)] (by rfl) rfl rfl (by (try simp only [List.map_toArray, List.map_cons, List.map_nil]); first | done | (rw [show ((l0.take ((wrap64 (x10_3 + 4)) : Int).toNat).drop (x10_3 : Int).toNat).length = ((wrap64 (x10_3 + 4)).toNat - x10_3.toNat) from (by rw [List.length_drop, List.length_take]; have h_ : ((wrap64 (x10_3 + 4)) : Int) ≤ (l0.length : Int) := of_decide_eq_true (by first | (with_reducible assumption) | assumption); omega)] <;> rfl) | rfl | (simp only [List.length_drop, List.length_take]; rfl)) ?_
                       with_reducible refine (gaiterref09_number.calls k3 _ _ ((l0.take ((wrap64 (x10_3 + 4)) : Int).toNat).drop (x10_3 : Int).toNat) t487 _ ?side1 ?side2 A65.out).mono ?_
                       (case side1 => repeat (first | exact (Kd.C_below HR486.out HB.out) | (with_reducible refine Kd.C_alloc ?_ _) | (with_reducible refine Kd.C_drewN ?_ _) | (with_reducible refine Kd.C_drew ?_)))
                       (case side2 => exact HC486.out)
                       rintro e w' ⟨rfl, ⟨nd, rfl⟩⟩
                       refine ⟨_, rfl, ?_⟩
                       refine hK.out _ _ trivial (fun hHeld => ?_)
                       clear hK K
                       refine norm_ (a' := ?_) ?_ ?_
                       rotate_left
                       ·show Act.put _ (some 165) _ = _
                        simp only [Act.put, List.setIfInBounds_toArray, List.set_cons_zero, List.set_cons_succ, i64_w, i32_w]
                        rfl
                       refine one_ (i := 9) (N := some 169) #[true, true, true, true, true, true, true, true, true, true, false, false] rfl rfl (one_of HT_.out (by kernel_rfl)) (by decide) (fun K hK => ?_)
                       refine goes_ Try.func26 (by kernel_rfl) rfl #[.slice (some ad451) (l0.take (x10_3 : Int).toNat).length c0] (by rfl) rfl rfl (by (try simp only [List.map_toArray, List.map_cons, List.map_nil]); first | done | (rw [show (l0.take (x10_3 : Int).toNat).length = x10_3.toNat from (by rw [List.length_take]; have h_ : (x10_3 : Int) ≤ (l0.length : Int) := of_decide_eq_true (by first | (with_reducible assumption) | assumption); omega)] <;> rfl) | rfl | (simp only [List.length_drop, List.length_take]; rfl)) ?_
                       with_reducible refine (gaiterref09_Sum.calls k3 _ _ (l0.take (x10_3 : Int).toNat) t489 _ ?side1 ?side2 A68.out).mono ?_
                       (case side1 => repeat (first | exact (Kd.C_below HR488.out (kl HB)) | (with_reducible refine Kd.C_alloc ?_ _) | (with_reducible refine Kd.C_drewN ?_ _) | (with_reducible refine Kd.C_drew ?_)))
                       (case side2 => exact HC488.out)
                       rintro e w' ⟨rfl, ⟨nd, rfl⟩⟩
                       refine ⟨_, rfl, ?_⟩
                       refine hK.out _ _ trivial (fun hHeld => ?_)
                       clear hK K
                       refine norm_ (a' := ?_) ?_ ?_
                       rotate_left
                       ·show Act.put _ (some 169) _ = _
                        simp only [Act.put, List.setIfInBounds_toArray, List.set_cons_zero, List.set_cons_succ, i64_w, i32_w]
                        rfl
                       refine pu 10 (some 170) (bl 12 2047) (h := ?_)
                       refine pu 11 (some 171) (bl 12 4095) (h := ?_)
                       refine done_ (done_of HT_.out (by kernel_rfl)) ?_
                       obtain ⟨Ao77, co77, eo77⟩ := Kd.R_slice HO_11.out
                       subst eo77
                       try go_wp2_with (first | ((with_reducible refine gate_callee (f := 23) rfl ?_); refine goesL_ (some 174) rfl rfl Try.func23 (by kernel_rfl) rfl #[.int .i64 (wrap64 (rd l0 4)), .slice Ao77 x11_3.length co77] rfl km ?_; (with_reducible refine (gaiterref09_MayIndex.calls k3 (wrap64 (rd l0 4)) _ _ x11_3 true _ ?side1 ?side2 A70.out).mono ?_); (case side1 => repeat (first | exact (Kd.R_reads' HO_11.out).2.2 | (with_reducible refine Kd.C_alloc ?_ _) | (with_reducible refine Kd.C_drewN ?_ _) | (with_reducible refine Kd.C_drew ?_))); (case side2 => exact (Kd.R_reads' HO_11.out).2.1); rintro e w78 ⟨rfl, hb⟩; refine ⟨_, rfl, ?_⟩; replace HO_11 := Aside0.mk (Kd.R_below (kr HO_11) hb); replace HB := kH HB hb; (try clear hb); (try clear hb2); (try clear hk); (try clear hi)))
                       refine bodyPost_ret (results_list (rs := [.tmp 2, .tmp 3, .tmp 4, .tmp 5]) rfl (by simp) (.tmp (.tmp (.tmp (.tmp .nil))))) rfl ?_
                       exact ⟨_, by first | rfl | (simp [errW_none, errW_some] <;> rfl) | (simp [*, errW_none, errW_some] <;> rfl), by (with_reducible repeat (first | apply Kd.R_alloc | apply Kd.R_drewN | apply Kd.R_drew)); exact HO_11.out, (kl HB)⟩
                      ·rw [if_neg c73] at H
                       have c73b0 : (x13_3 == (IntKind.u64.wrap (wrap64 ((wrap64 ((l0.length : Int) - x10_3)) - 4)))) = false := beq_eq_false_iff_ne.mpr c73
                       have c73b1 : (x13_3 != (IntKind.u64.wrap (wrap64 ((wrap64 ((l0.length : Int) - x10_3)) - 4)))) = true := bne_iff_ne.mpr c73
                       simp only [Option.some.injEq, Prod.mk.injEq] at H
                       obtain ⟨rfl, rfl, rfl, rfl⟩ := H
                       try go_wp2
                       replace HO_11 := Aside0.mk (Kd.R_drew HO_11.out)
                       replace HB := Aside0.mk (below_drew1 HB.out)
                       obtain ⟨i080, hi080, _, hsz80, _⟩ := info_parts info5
                       obtain ⟨A80, hcut80, hA80, hC80⟩ := print_mid_of (P := Try.prog) (Value.int .u8) 0 54 5 .i64 .i64 Try.underlying54 hi080 hsz80 (some ad451) c0 l0 x10_3 (wrap64 (x10_3 + 4)) (of_decide_eq_true (by first | (with_reducible assumption) | assumption)) (by first | omega | exact of_decide_eq_true (by first | (with_reducible assumption) | assumption)) (of_decide_eq_true (by first | (with_reducible assumption) | assumption)) HC0.out
                       have HR486 := Aside0.mk (Kd.C_of_reads (h1 := fun _ => rfl) (hA80 _ (Kd.reads_of_C HR0.out)))
                       have HC486 := Aside0.mk hC80
                       clear hA80 hC80 hi080 hsz80
                       obtain ⟨i081, hi081, _, hsz81, _⟩ := info_parts info5
                       obtain ⟨hcut81, hA81, hC81⟩ := print_take_of (P := Try.prog) (Value.int .u8) 0 54 5 .i64 Try.underlying54 hi081 hsz81 (some ad451) c0 l0 x10_3 (of_decide_eq_true (by first | (with_reducible assumption) | assumption)) (of_decide_eq_true (by first | (with_reducible assumption) | assumption)) HC0.out
                       have HR488 := Aside0.mk (Kd.C_of_reads (h1 := fun _ => rfl) (hA81 _ (Kd.reads_of_C HR0.out)))
                       have HC488 := Aside0.mk hC81
                       clear hA81 hC81 hi081 hsz81
                       refine start_ (n := 12) (S := fun w' => True) (ds := []) (bl 12 0) (by kernel_rfl) rfl rfl trivial (fun hHeld => ?_); refine with_tabW gaiterref09_GetIndex.tab43 gaiterref09_GetIndex.bits43 (fun HT_ HW_ => ?_)
                       generalize wr.drew = w79 at HO_11 HB HR486 HR488 hHeld ⊢
                       refine pu 0 (some 160) (bl 12 1) (h := ?_)
                       refine pu 1 (some 161) (bl 12 3) (h := ?_)
                       refine pu 2 (some 162) (bl 12 7) (h := ?_)
                       refine pu 3 (some 163) (bl 12 15) (h := ?_)
                       refine pu 4 (some 164) (bl 12 31) (h := ?_)
                       refine pu 6 (some 166) (bl 12 95) (h := ?_)
                       refine pu 7 (some 167) (bl 12 223) (h := ?_)
                       refine pu 8 (some 168) (bl 12 479) (h := ?_)
                       refine one_ (i := 5) (N := some 165) #[true, true, true, true, true, true, true, true, true, false, false, false] rfl rfl (one_of HT_.out (by kernel_rfl)) (by decide) (fun K hK => ?_)
                       refine goes_ Try.func41 (by kernel_rfl) rfl #[.slice A80 ((l0.take ((wrap64 (x10_3 + 4)) : Int).toNat).drop (x10_3 : Int).toNat).length (c0 - x10_3.toNat)] (by rfl) rfl rfl (by (try simp only [List.map_toArray, List.map_cons, List.map_nil]); first | done | (rw [show ((l0.take ((wrap64 (x10_3 + 4)) : Int).toNat).drop (x10_3 : Int).toNat).length = ((wrap64 (x10_3 + 4)).toNat - x10_3.toNat) from (by rw [List.length_drop, List.length_take]; have h_ : ((wrap64 (x10_3 + 4)) : Int) ≤ (l0.length : Int) := of_decide_eq_true (by first | (with_reducible assumption) | assumption); omega)] <;> rfl) | rfl | (simp only [List.length_drop, List.length_take]; rfl)) ?_
                       with_reducible refine (gaiterref09_number.calls k3 _ _ ((l0.take ((wrap64 (x10_3 + 4)) : Int).toNat).drop (x10_3 : Int).toNat) t487 _ ?side1 ?side2 A65.out).mono ?_
                       (case side1 => repeat (first | exact (Kd.C_below HR486.out HB.out) | (with_reducible refine Kd.C_alloc ?_ _) | (with_reducible refine Kd.C_drewN ?_ _) | (with_reducible refine Kd.C_drew ?_)))
                       (case side2 => exact HC486.out)
                       rintro e w' ⟨rfl, ⟨nd, rfl⟩⟩
                       refine ⟨_, rfl, ?_⟩
                       refine hK.out _ _ trivial (fun hHeld => ?_)
                       clear hK K
                       refine norm_ (a' := ?_) ?_ ?_
                       rotate_left
                       ·show Act.put _ (some 165) _ = _
                        simp only [Act.put, List.setIfInBounds_toArray, List.set_cons_zero, List.set_cons_succ, i64_w, i32_w]
                        rfl
                       refine one_ (i := 9) (N := some 169) #[true, true, true, true, true, true, true, true, true, true, false, false] rfl rfl (one_of HT_.out (by kernel_rfl)) (by decide) (fun K hK => ?_)
                       refine goes_ Try.func26 (by kernel_rfl) rfl #[.slice (some ad451) (l0.take (x10_3 : Int).toNat).length c0] (by rfl) rfl rfl (by (try simp only [List.map_toArray, List.map_cons, List.map_nil]); first | done | (rw [show (l0.take (x10_3 : Int).toNat).length = x10_3.toNat from (by rw [List.length_take]; have h_ : (x10_3 : Int) ≤ (l0.length : Int) := of_decide_eq_true (by first | (with_reducible assumption) | assumption); omega)] <;> rfl) | rfl | (simp only [List.length_drop, List.length_take]; rfl)) ?_
                       with_reducible refine (gaiterref09_Sum.calls k3 _ _ (l0.take (x10_3 : Int).toNat) t489 _ ?side1 ?side2 A68.out).mono ?_
                       (case side1 => repeat (first | exact (Kd.C_below HR488.out (kl HB)) | (with_reducible refine Kd.C_alloc ?_ _) | (with_reducible refine Kd.C_drewN ?_ _) | (with_reducible refine Kd.C_drew ?_)))
                       (case side2 => exact HC488.out)
                       rintro e w' ⟨rfl, ⟨nd, rfl⟩⟩
                       refine ⟨_, rfl, ?_⟩
                       refine hK.out _ _ trivial (fun hHeld => ?_)
                       clear hK K
                       refine norm_ (a' := ?_) ?_ ?_
                       rotate_left
                       ·show Act.put _ (some 169) _ = _
                        simp only [Act.put, List.setIfInBounds_toArray, List.set_cons_zero, List.set_cons_succ, i64_w, i32_w]
                        rfl
                       refine pu 10 (some 170) (bl 12 2047) (h := ?_)
                       refine pu 11 (some 171) (bl 12 4095) (h := ?_)
                       refine done_ (done_of HT_.out (by kernel_rfl)) ?_
                       obtain ⟨Ao82, co82, eo82⟩ := Kd.R_slice HO_11.out
                       subst eo82
                       try go_wp2_with (first | ((with_reducible refine gate_callee (f := 23) rfl ?_); refine goesL_ (some 174) rfl rfl Try.func23 (by kernel_rfl) rfl #[.int .i64 (wrap64 (rd l0 4)), .slice Ao82 x11_3.length co82] rfl km ?_; (with_reducible refine (gaiterref09_MayIndex.calls k3 (wrap64 (rd l0 4)) _ _ x11_3 true _ ?side1 ?side2 A70.out).mono ?_); (case side1 => repeat (first | exact (Kd.R_reads' HO_11.out).2.2 | (with_reducible refine Kd.C_alloc ?_ _) | (with_reducible refine Kd.C_drewN ?_ _) | (with_reducible refine Kd.C_drew ?_))); (case side2 => exact (Kd.R_reads' HO_11.out).2.1); rintro e w83 ⟨rfl, hb⟩; refine ⟨_, rfl, ?_⟩; replace HO_11 := Aside0.mk (Kd.R_below (kr HO_11) hb); replace HB := kH HB hb; (try clear hb); (try clear hb2); (try clear hk); (try clear hi)))
                       refine bodyPost_ret (results_list (rs := [.tmp 2, .tmp 3, .tmp 4, .tmp 5]) rfl (by simp) (.tmp (.tmp (.tmp (.tmp .nil))))) rfl ?_
                       exact ⟨_, by first | rfl | (simp [errW_none, errW_some] <;> rfl) | (simp [*, errW_none, errW_some] <;> rfl), by first | exact Kd.R_nil _ _ _ _ _ | exact Kd.N_nil _ _ _ _ _ | exact Kd.V_nil _ _ _ _ _ | exact Kd.Q_nil _ _ _ _ _ | exact Kd.S_nil _ _ _ _ _, (kl HB)⟩
                     ·replace c72 := Bool.eq_false_iff.mpr c72
                      subst c72
                      have H1 : (some (0, ([] : List (S79)), 0, 8)) = some (r1, r2, r3, r4) := by rw [if_neg (show ¬ (false = true) by decide)] at H; exact H
                      clear H
                      have H := H1
                      clear H1
                      simp only [Option.some.injEq, Prod.mk.injEq] at H
                      obtain ⟨rfl, rfl, rfl, rfl⟩ := H
                      try go_wp2
                      replace HO_11 := Aside0.mk (Kd.R_drew HO_11.out)
                      replace HB := Aside0.mk (below_drew1 HB.out)
                      obtain ⟨i085, hi085, _, hsz85, _⟩ := info_parts info5
                      obtain ⟨A85, hcut85, hA85, hC85⟩ := print_mid_of (P := Try.prog) (Value.int .u8) 0 54 5 .i64 .i64 Try.underlying54 hi085 hsz85 (some ad451) c0 l0 x10_3 (wrap64 (x10_3 + 4)) (of_decide_eq_true (by first | (with_reducible assumption) | assumption)) (by first | omega | exact of_decide_eq_true (by first | (with_reducible assumption) | assumption)) (of_decide_eq_true (by first | (with_reducible assumption) | assumption)) HC0.out
                      have HR486 := Aside0.mk (Kd.C_of_reads (h1 := fun _ => rfl) (hA85 _ (Kd.reads_of_C HR0.out)))
                      have HC486 := Aside0.mk hC85
                      clear hA85 hC85 hi085 hsz85
                      obtain ⟨i086, hi086, _, hsz86, _⟩ := info_parts info5
                      obtain ⟨hcut86, hA86, hC86⟩ := print_take_of (P := Try.prog) (Value.int .u8) 0 54 5 .i64 Try.underlying54 hi086 hsz86 (some ad451) c0 l0 x10_3 (of_decide_eq_true (by first | (with_reducible assumption) | assumption)) (of_decide_eq_true (by first | (with_reducible assumption) | assumption)) HC0.out
                      have HR488 := Aside0.mk (Kd.C_of_reads (h1 := fun _ => rfl) (hA86 _ (Kd.reads_of_C HR0.out)))
                      have HC488 := Aside0.mk hC86
                      clear hA86 hC86 hi086 hsz86
                      refine start_ (n := 12) (S := fun w' => True) (ds := []) (bl 12 0) (by kernel_rfl) rfl rfl trivial (fun hHeld => ?_); refine with_tabW gaiterref09_GetIndex.tab43 gaiterref09_GetIndex.bits43 (fun HT_ HW_ => ?_)
                      generalize wr.drew = w84 at HO_11 HB HR486 HR488 hHeld ⊢
                      refine pu 0 (some 160) (bl 12 1) (h := ?_)
                      refine pu 1 (some 161) (bl 12 3) (h := ?_)
                      refine pu 2 (some 162) (bl 12 7) (h := ?_)
                      refine pu 3 (some 163) (bl 12 15) (h := ?_)
                      refine pu 4 (some 164) (bl 12 31) (h := ?_)
                      refine pu 6 (some 166) (bl 12 95) (h := ?_)
                      refine pu 7 (some 167) (bl 12 223) (h := ?_)
                      refine pu 8 (some 168) (bl 12 479) (h := ?_)
                      refine one_ (i := 5) (N := some 165) #[true, true, true, true, true, true, true, true, true, false, false, false] rfl rfl (one_of HT_.out (by kernel_rfl)) (by decide) (fun K hK => ?_)
                      refine goes_ Try.func41 (by kernel_rfl) rfl #[.slice A85 ((l0.take ((wrap64 (x10_3 + 4)) : Int).toNat).drop (x10_3 : Int).toNat).length (c0 - x10_3.toNat)] (by rfl) rfl rfl (by (try simp only [List.map_toArray, List.map_cons, List.map_nil]); first | done | (rw [show ((l0.take ((wrap64 (x10_3 + 4)) : Int).toNat).drop (x10_3 : Int).toNat).length = ((wrap64 (x10_3 + 4)).toNat - x10_3.toNat) from (by rw [List.length_drop, List.length_take]; have h_ : ((wrap64 (x10_3 + 4)) : Int) ≤ (l0.length : Int) := of_decide_eq_true (by first | (with_reducible assumption) | assumption); omega)] <;> rfl) | rfl | (simp only [List.length_drop, List.length_take]; rfl)) ?_
                      with_reducible refine (gaiterref09_number.calls k3 _ _ ((l0.take ((wrap64 (x10_3 + 4)) : Int).toNat).drop (x10_3 : Int).toNat) t487 _ ?side1 ?side2 A65.out).mono ?_
                      (case side1 => repeat (first | exact (Kd.C_below HR486.out HB.out) | (with_reducible refine Kd.C_alloc ?_ _) | (with_reducible refine Kd.C_drewN ?_ _) | (with_reducible refine Kd.C_drew ?_)))
                      (case side2 => exact HC486.out)
                      rintro e w' ⟨rfl, ⟨nd, rfl⟩⟩
                      refine ⟨_, rfl, ?_⟩
                      refine hK.out _ _ trivial (fun hHeld => ?_)
                      clear hK K
                      refine norm_ (a' := ?_) ?_ ?_
                      rotate_left
                      ·show Act.put _ (some 165) _ = _
                       simp only [Act.put, List.setIfInBounds_toArray, List.set_cons_zero, List.set_cons_succ, i64_w, i32_w]
                       rfl
                      refine one_ (i := 9) (N := some 169) #[true, true, true, true, true, true, true, true, true, true, false, false] rfl rfl (one_of HT_.out (by kernel_rfl)) (by decide) (fun K hK => ?_)
                      refine goes_ Try.func26 (by kernel_rfl) rfl #[.slice (some ad451) (l0.take (x10_3 : Int).toNat).length c0] (by rfl) rfl rfl (by (try simp only [List.map_toArray, List.map_cons, List.map_nil]); first | done | (rw [show (l0.take (x10_3 : Int).toNat).length = x10_3.toNat from (by rw [List.length_take]; have h_ : (x10_3 : Int) ≤ (l0.length : Int) := of_decide_eq_true (by first | (with_reducible assumption) | assumption); omega)] <;> rfl) | rfl | (simp only [List.length_drop, List.length_take]; rfl)) ?_
                      with_reducible refine (gaiterref09_Sum.calls k3 _ _ (l0.take (x10_3 : Int).toNat) t489 _ ?side1 ?side2 A68.out).mono ?_
                      (case side1 => repeat (first | exact (Kd.C_below HR488.out (kl HB)) | (with_reducible refine Kd.C_alloc ?_ _) | (with_reducible refine Kd.C_drewN ?_ _) | (with_reducible refine Kd.C_drew ?_)))
                      (case side2 => exact HC488.out)
                      rintro e w' ⟨rfl, ⟨nd, rfl⟩⟩
                      refine ⟨_, rfl, ?_⟩
                      refine hK.out _ _ trivial (fun hHeld => ?_)
                      clear hK K
                      refine norm_ (a' := ?_) ?_ ?_
                      rotate_left
                      ·show Act.put _ (some 169) _ = _
                       simp only [Act.put, List.setIfInBounds_toArray, List.set_cons_zero, List.set_cons_succ, i64_w, i32_w]
                       rfl
                      refine pu 10 (some 170) (bl 12 2047) (h := ?_)
                      refine pu 11 (some 171) (bl 12 4095) (h := ?_)
                      refine done_ (done_of HT_.out (by kernel_rfl)) ?_
                      obtain ⟨Ao87, co87, eo87⟩ := Kd.R_slice HO_11.out
                      subst eo87
                      try go_wp2_with (first | ((with_reducible refine gate_callee (f := 23) rfl ?_); refine goesL_ (some 174) rfl rfl Try.func23 (by kernel_rfl) rfl #[.int .i64 (wrap64 (rd l0 4)), .slice Ao87 x11_3.length co87] rfl km ?_; (with_reducible refine (gaiterref09_MayIndex.calls k3 (wrap64 (rd l0 4)) _ _ x11_3 false _ ?side1 ?side2 A70.out).mono ?_); (case side1 => repeat (first | exact (Kd.R_reads' HO_11.out).2.2 | (with_reducible refine Kd.C_alloc ?_ _) | (with_reducible refine Kd.C_drewN ?_ _) | (with_reducible refine Kd.C_drew ?_))); (case side2 => exact (Kd.R_reads' HO_11.out).2.1); rintro e w88 ⟨rfl, hb⟩; refine ⟨_, rfl, ?_⟩; replace HO_11 := Aside0.mk (Kd.R_below (kr HO_11) hb); replace HB := kH HB hb; (try clear hb); (try clear hb2); (try clear hk); (try clear hi)))
                      refine bodyPost_ret (results_list (rs := [.tmp 2, .tmp 3, .tmp 4, .tmp 5]) rfl (by simp) (.tmp (.tmp (.tmp (.tmp .nil))))) rfl ?_
                      exact ⟨_, by first | rfl | (simp [errW_none, errW_some] <;> rfl) | (simp [*, errW_none, errW_some] <;> rfl), by first | exact Kd.R_nil _ _ _ _ _ | exact Kd.N_nil _ _ _ _ _ | exact Kd.V_nil _ _ _ _ _ | exact Kd.Q_nil _ _ _ _ _ | exact Kd.S_nil _ _ _ _ _, (kl HB)⟩
                    ·replace c71 := Bool.eq_false_iff.mpr c71
                     subst c71
                     have H1 : (some (0, ([] : List (S79)), 0, 8)) = some (r1, r2, r3, r4) := by rw [if_neg (show ¬ (false = true) by decide)] at H; exact H
                     clear H
                     have H := H1
                     clear H1
                     simp only [Option.some.injEq, Prod.mk.injEq] at H
                     obtain ⟨rfl, rfl, rfl, rfl⟩ := H
                     try go_wp2
                     replace HO_11 := Aside0.mk (Kd.R_drew HO_11.out)
                     replace HB := Aside0.mk (below_drew1 HB.out)
                     obtain ⟨i090, hi090, _, hsz90, _⟩ := info_parts info5
                     obtain ⟨A90, hcut90, hA90, hC90⟩ := print_mid_of (P := Try.prog) (Value.int .u8) 0 54 5 .i64 .i64 Try.underlying54 hi090 hsz90 (some ad451) c0 l0 x10_3 (wrap64 (x10_3 + 4)) (of_decide_eq_true (by first | (with_reducible assumption) | assumption)) (by first | omega | exact of_decide_eq_true (by first | (with_reducible assumption) | assumption)) (of_decide_eq_true (by first | (with_reducible assumption) | assumption)) HC0.out
                     have HR486 := Aside0.mk (Kd.C_of_reads (h1 := fun _ => rfl) (hA90 _ (Kd.reads_of_C HR0.out)))
                     have HC486 := Aside0.mk hC90
                     clear hA90 hC90 hi090 hsz90
                     obtain ⟨i091, hi091, _, hsz91, _⟩ := info_parts info5
                     obtain ⟨hcut91, hA91, hC91⟩ := print_take_of (P := Try.prog) (Value.int .u8) 0 54 5 .i64 Try.underlying54 hi091 hsz91 (some ad451) c0 l0 x10_3 (of_decide_eq_true (by first | (with_reducible assumption) | assumption)) (of_decide_eq_true (by first | (with_reducible assumption) | assumption)) HC0.out
                     have HR488 := Aside0.mk (Kd.C_of_reads (h1 := fun _ => rfl) (hA91 _ (Kd.reads_of_C HR0.out)))
                     have HC488 := Aside0.mk hC91
                     clear hA91 hC91 hi091 hsz91
                     refine start_ (n := 12) (S := fun w' => True) (ds := []) (bl 12 0) (by kernel_rfl) rfl rfl trivial (fun hHeld => ?_); refine with_tabW gaiterref09_GetIndex.tab43 gaiterref09_GetIndex.bits43 (fun HT_ HW_ => ?_)
                     generalize wr.drew = w89 at HO_11 HB HR486 HR488 hHeld ⊢
                     refine pu 0 (some 160) (bl 12 1) (h := ?_)
                     refine pu 1 (some 161) (bl 12 3) (h := ?_)
                     refine pu 2 (some 162) (bl 12 7) (h := ?_)
                     refine pu 3 (some 163) (bl 12 15) (h := ?_)
                     refine pu 4 (some 164) (bl 12 31) (h := ?_)
                     refine pu 6 (some 166) (bl 12 95) (h := ?_)
                     refine pu 7 (some 167) (bl 12 223) (h := ?_)
                     refine pu 8 (some 168) (bl 12 479) (h := ?_)
                     refine one_ (i := 5) (N := some 165) #[true, true, true, true, true, true, true, true, true, false, false, false] rfl rfl (one_of HT_.out (by kernel_rfl)) (by decide) (fun K hK => ?_)
                     refine goes_ Try.func41 (by kernel_rfl) rfl #[.slice A90 ((l0.take ((wrap64 (x10_3 + 4)) : Int).toNat).drop (x10_3 : Int).toNat).length (c0 - x10_3.toNat)] (by rfl) rfl rfl (by (try simp only [List.map_toArray, List.map_cons, List.map_nil]); first | done | (rw [show ((l0.take ((wrap64 (x10_3 + 4)) : Int).toNat).drop (x10_3 : Int).toNat).length = ((wrap64 (x10_3 + 4)).toNat - x10_3.toNat) from (by rw [List.length_drop, List.length_take]; have h_ : ((wrap64 (x10_3 + 4)) : Int) ≤ (l0.length : Int) := of_decide_eq_true (by first | (with_reducible assumption) | assumption); omega)] <;> rfl) | rfl | (simp only [List.length_drop, List.length_take]; rfl)) ?_
                     with_reducible refine (gaiterref09_number.calls k3 _ _ ((l0.take ((wrap64 (x10_3 + 4)) : Int).toNat).drop (x10_3 : Int).toNat) t487 _ ?side1 ?side2 A65.out).mono ?_
                     (case side1 => repeat (first | exact (Kd.C_below HR486.out HB.out) | (with_reducible refine Kd.C_alloc ?_ _) | (with_reducible refine Kd.C_drewN ?_ _) | (with_reducible refine Kd.C_drew ?_)))
                     (case side2 => exact HC486.out)
                     rintro e w' ⟨rfl, ⟨nd, rfl⟩⟩
                     refine ⟨_, rfl, ?_⟩
                     refine hK.out _ _ trivial (fun hHeld => ?_)
                     clear hK K
                     refine norm_ (a' := ?_) ?_ ?_
                     rotate_left
                     ·show Act.put _ (some 165) _ = _
                      simp only [Act.put, List.setIfInBounds_toArray, List.set_cons_zero, List.set_cons_succ, i64_w, i32_w]
                      rfl
                     refine one_ (i := 9) (N := some 169) #[true, true, true, true, true, true, true, true, true, true, false, false] rfl rfl (one_of HT_.out (by kernel_rfl)) (by decide) (fun K hK => ?_)
                     refine goes_ Try.func26 (by kernel_rfl) rfl #[.slice (some ad451) (l0.take (x10_3 : Int).toNat).length c0] (by rfl) rfl rfl (by (try simp only [List.map_toArray, List.map_cons, List.map_nil]); first | done | (rw [show (l0.take (x10_3 : Int).toNat).length = x10_3.toNat from (by rw [List.length_take]; have h_ : (x10_3 : Int) ≤ (l0.length : Int) := of_decide_eq_true (by first | (with_reducible assumption) | assumption); omega)] <;> rfl) | rfl | (simp only [List.length_drop, List.length_take]; rfl)) ?_
                     with_reducible refine (gaiterref09_Sum.calls k3 _ _ (l0.take (x10_3 : Int).toNat) t489 _ ?side1 ?side2 A68.out).mono ?_
                     (case side1 => repeat (first | exact (Kd.C_below HR488.out (kl HB)) | (with_reducible refine Kd.C_alloc ?_ _) | (with_reducible refine Kd.C_drewN ?_ _) | (with_reducible refine Kd.C_drew ?_)))
                     (case side2 => exact HC488.out)
                     rintro e w' ⟨rfl, ⟨nd, rfl⟩⟩
                     refine ⟨_, rfl, ?_⟩
                     refine hK.out _ _ trivial (fun hHeld => ?_)
                     clear hK K
                     refine norm_ (a' := ?_) ?_ ?_
                     rotate_left
                     ·show Act.put _ (some 169) _ = _
                      simp only [Act.put, List.setIfInBounds_toArray, List.set_cons_zero, List.set_cons_succ, i64_w, i32_w]
                      rfl
                     refine pu 10 (some 170) (bl 12 2047) (h := ?_)
                     refine pu 11 (some 171) (bl 12 4095) (h := ?_)
                     refine done_ (done_of HT_.out (by kernel_rfl)) ?_
                     obtain ⟨Ao92, co92, eo92⟩ := Kd.R_slice HO_11.out
                     subst eo92
                     try go_wp2_with (first | ((with_reducible refine gate_callee (f := 23) rfl ?_); refine goesL_ (some 174) rfl rfl Try.func23 (by kernel_rfl) rfl #[.int .i64 (wrap64 (rd l0 4)), .slice Ao92 x11_3.length co92] rfl km ?_; (with_reducible refine (gaiterref09_MayIndex.calls k3 (wrap64 (rd l0 4)) _ _ x11_3 t490 _ ?side1 ?side2 A70.out).mono ?_); (case side1 => repeat (first | exact (Kd.R_reads' HO_11.out).2.2 | (with_reducible refine Kd.C_alloc ?_ _) | (with_reducible refine Kd.C_drewN ?_ _) | (with_reducible refine Kd.C_drew ?_))); (case side2 => exact (Kd.R_reads' HO_11.out).2.1); rintro e w93 ⟨rfl, hb⟩; refine ⟨_, rfl, ?_⟩; replace HO_11 := Aside0.mk (Kd.R_below (kr HO_11) hb); replace HB := kH HB hb; (try clear hb); (try clear hb2); (try clear hk); (try clear hi)))
                     refine bodyPost_ret (results_list (rs := [.tmp 2, .tmp 3, .tmp 4, .tmp 5]) rfl (by simp) (.tmp (.tmp (.tmp (.tmp .nil))))) rfl ?_
                     exact ⟨_, by first | rfl | (simp [errW_none, errW_some] <;> rfl) | (simp [*, errW_none, errW_some] <;> rfl), by first | exact Kd.R_nil _ _ _ _ _ | exact Kd.N_nil _ _ _ _ _ | exact Kd.V_nil _ _ _ _ _ | exact Kd.Q_nil _ _ _ _ _ | exact Kd.S_nil _ _ _ _ _, (kl HB)⟩
                   ·rw [if_neg c69] at H
                    have c69b0 : (t487 == (IntKind.u64.wrap (t489))) = false := beq_eq_false_iff_ne.mpr c69
                    have c69b1 : (t487 != (IntKind.u64.wrap (t489))) = true := bne_iff_ne.mpr c69
                    simp only [Option.some.injEq, Prod.mk.injEq] at H
                    obtain ⟨rfl, rfl, rfl, rfl⟩ := H
                    try go_wp2
                    replace HO_11 := Aside0.mk (Kd.R_drew HO_11.out)
                    replace HB := Aside0.mk (below_drew1 HB.out)
                    obtain ⟨i095, hi095, _, hsz95, _⟩ := info_parts info5
                    obtain ⟨A95, hcut95, hA95, hC95⟩ := print_mid_of (P := Try.prog) (Value.int .u8) 0 54 5 .i64 .i64 Try.underlying54 hi095 hsz95 (some ad451) c0 l0 x10_3 (wrap64 (x10_3 + 4)) (of_decide_eq_true (by first | (with_reducible assumption) | assumption)) (by first | omega | exact of_decide_eq_true (by first | (with_reducible assumption) | assumption)) (of_decide_eq_true (by first | (with_reducible assumption) | assumption)) HC0.out
                    have HR486 := Aside0.mk (Kd.C_of_reads (h1 := fun _ => rfl) (hA95 _ (Kd.reads_of_C HR0.out)))
                    have HC486 := Aside0.mk hC95
                    clear hA95 hC95 hi095 hsz95
                    obtain ⟨i096, hi096, _, hsz96, _⟩ := info_parts info5
                    obtain ⟨hcut96, hA96, hC96⟩ := print_take_of (P := Try.prog) (Value.int .u8) 0 54 5 .i64 Try.underlying54 hi096 hsz96 (some ad451) c0 l0 x10_3 (of_decide_eq_true (by first | (with_reducible assumption) | assumption)) (of_decide_eq_true (by first | (with_reducible assumption) | assumption)) HC0.out
                    have HR488 := Aside0.mk (Kd.C_of_reads (h1 := fun _ => rfl) (hA96 _ (Kd.reads_of_C HR0.out)))
                    have HC488 := Aside0.mk hC96
                    clear hA96 hC96 hi096 hsz96
                    refine start_ (n := 12) (S := fun w' => True) (ds := []) (bl 12 0) (by kernel_rfl) rfl rfl trivial (fun hHeld => ?_); refine with_tabW gaiterref09_GetIndex.tab43 gaiterref09_GetIndex.bits43 (fun HT_ HW_ => ?_)
                    generalize wr.drew = w94 at HO_11 HB HR486 HR488 hHeld ⊢
                    refine pu 0 (some 160) (bl 12 1) (h := ?_)
                    refine pu 1 (some 161) (bl 12 3) (h := ?_)
                    refine pu 2 (some 162) (bl 12 7) (h := ?_)
                    refine pu 3 (some 163) (bl 12 15) (h := ?_)
                    refine pu 4 (some 164) (bl 12 31) (h := ?_)
                    refine pu 6 (some 166) (bl 12 95) (h := ?_)
                    refine pu 7 (some 167) (bl 12 223) (h := ?_)
                    refine pu 8 (some 168) (bl 12 479) (h := ?_)
                    refine one_ (i := 5) (N := some 165) #[true, true, true, true, true, true, true, true, true, false, false, false] rfl rfl (one_of HT_.out (by kernel_rfl)) (by decide) (fun K hK => ?_)
                    refine goes_ Try.func41 (by kernel_rfl) rfl #[.slice A95 ((l0.take ((wrap64 (x10_3 + 4)) : Int).toNat).drop (x10_3 : Int).toNat).length (c0 - x10_3.toNat)] (by rfl) rfl rfl (by (try simp only [List.map_toArray, List.map_cons, List.map_nil]); first | done | (rw [show ((l0.take ((wrap64 (x10_3 + 4)) : Int).toNat).drop (x10_3 : Int).toNat).length = ((wrap64 (x10_3 + 4)).toNat - x10_3.toNat) from (by rw [List.length_drop, List.length_take]; have h_ : ((wrap64 (x10_3 + 4)) : Int) ≤ (l0.length : Int) := of_decide_eq_true (by first | (with_reducible assumption) | assumption); omega)] <;> rfl) | rfl | (simp only [List.length_drop, List.length_take]; rfl)) ?_
                    with_reducible refine (gaiterref09_number.calls k3 _ _ ((l0.take ((wrap64 (x10_3 + 4)) : Int).toNat).drop (x10_3 : Int).toNat) t487 _ ?side1 ?side2 A65.out).mono ?_
                    (case side1 => repeat (first | exact (Kd.C_below HR486.out HB.out) | (with_reducible refine Kd.C_alloc ?_ _) | (with_reducible refine Kd.C_drewN ?_ _) | (with_reducible refine Kd.C_drew ?_)))
                    (case side2 => exact HC486.out)
                    rintro e w' ⟨rfl, ⟨nd, rfl⟩⟩
                    refine ⟨_, rfl, ?_⟩
                    refine hK.out _ _ trivial (fun hHeld => ?_)
                    clear hK K
                    refine norm_ (a' := ?_) ?_ ?_
                    rotate_left
                    ·show Act.put _ (some 165) _ = _
                     simp only [Act.put, List.setIfInBounds_toArray, List.set_cons_zero, List.set_cons_succ, i64_w, i32_w]
                     rfl
                    refine one_ (i := 9) (N := some 169) #[true, true, true, true, true, true, true, true, true, true, false, false] rfl rfl (one_of HT_.out (by kernel_rfl)) (by decide) (fun K hK => ?_)
                    refine goes_ Try.func26 (by kernel_rfl) rfl #[.slice (some ad451) (l0.take (x10_3 : Int).toNat).length c0] (by rfl) rfl rfl (by (try simp only [List.map_toArray, List.map_cons, List.map_nil]); first | done | (rw [show (l0.take (x10_3 : Int).toNat).length = x10_3.toNat from (by rw [List.length_take]; have h_ : (x10_3 : Int) ≤ (l0.length : Int) := of_decide_eq_true (by first | (with_reducible assumption) | assumption); omega)] <;> rfl) | rfl | (simp only [List.length_drop, List.length_take]; rfl)) ?_
                    with_reducible refine (gaiterref09_Sum.calls k3 _ _ (l0.take (x10_3 : Int).toNat) t489 _ ?side1 ?side2 A68.out).mono ?_
                    (case side1 => repeat (first | exact (Kd.C_below HR488.out (kl HB)) | (with_reducible refine Kd.C_alloc ?_ _) | (with_reducible refine Kd.C_drewN ?_ _) | (with_reducible refine Kd.C_drew ?_)))
                    (case side2 => exact HC488.out)
                    rintro e w' ⟨rfl, ⟨nd, rfl⟩⟩
                    refine ⟨_, rfl, ?_⟩
                    refine hK.out _ _ trivial (fun hHeld => ?_)
                    clear hK K
                    refine norm_ (a' := ?_) ?_ ?_
                    rotate_left
                    ·show Act.put _ (some 169) _ = _
                     simp only [Act.put, List.setIfInBounds_toArray, List.set_cons_zero, List.set_cons_succ, i64_w, i32_w]
                     rfl
                    refine pu 10 (some 170) (bl 12 2047) (h := ?_)
                    refine pu 11 (some 171) (bl 12 4095) (h := ?_)
                    refine done_ (done_of HT_.out (by kernel_rfl)) ?_
                    try go_wp2
                    refine bodyPost_ret (results_list (rs := [.tmp 2, .tmp 3, .tmp 4, .tmp 5]) rfl (by simp) (.tmp (.tmp (.tmp (.tmp .nil))))) rfl ?_
                    exact ⟨_, by first | rfl | (simp [errW_none, errW_some] <;> rfl) | (simp [*, errW_none, errW_some] <;> rfl), by first | exact Kd.R_nil _ _ _ _ _ | exact Kd.N_nil _ _ _ _ _ | exact Kd.V_nil _ _ _ _ _ | exact Kd.Q_nil _ _ _ _ _ | exact Kd.S_nil _ _ _ _ _, (kl HB)⟩
                  ·rw [if_neg c67] at H
                   exact absurd H (by simp)
                 ·rw [if_neg c64] at H
                  exact absurd H (by simp)
                ·rw [if_neg c63] at H
                 exact absurd H (by simp)
               ·rw [if_neg c62] at H
                exact absurd H (by simp)
         ·rw [if_neg c16] at H
          have c16b0 : (t454 == 0) = false := beq_eq_false_iff_ne.mpr c16
          have c16b1 : (t454 != 0) = true := bne_iff_ne.mpr c16
          simp only [Option.some.injEq, Prod.mk.injEq] at H
          obtain ⟨rfl, rfl, rfl, rfl⟩ := H
          go_wp2_with (first | ((with_reducible refine gate_callee (f := 40) rfl ?_); refine goesL_ (some 50) rfl rfl Try.func40 (by kernel_rfl) rfl #[.slice (some ad451) l0.length c0, .int .i64 5] rfl km ?_; (with_reducible refine (gaiterref01_GetUvar.calls kj11 _ _ l0 5 t452 t453 t454 _ ?side1 ?side2 A15.out).mono ?_); (case side1 => repeat (first | exact (Kd.C_below HR0.out HB.out) | (with_reducible refine Kd.C_alloc ?_ _) | (with_reducible refine Kd.C_drewN ?_ _) | (with_reducible refine Kd.C_drew ?_))); (case side2 => exact HC0.out); rintro e w' ⟨rfl, ⟨nd, rfl⟩⟩; refine ⟨_, rfl, ?_⟩))
          refine bodyPost_ret (results_list (rs := [.tmp 2, .tmp 3, .tmp 4, .tmp 5]) rfl (by simp) (.tmp (.tmp (.tmp (.tmp .nil))))) rfl ?_
          exact ⟨_, by first | rfl | (simp [errW_none, errW_some] <;> rfl) | (simp [*, errW_none, errW_some] <;> rfl), by first | exact Kd.R_nil _ _ _ _ _ | exact Kd.N_nil _ _ _ _ _ | exact Kd.V_nil _ _ _ _ _ | exact Kd.Q_nil _ _ _ _ _ | exact Kd.S_nil _ _ _ _ _, (kl HB)⟩
     ·rw [if_neg c11] at H
      exact absurd H (by simp)

end Go.Proofs.Ytiahbcaoikoogaa.All
