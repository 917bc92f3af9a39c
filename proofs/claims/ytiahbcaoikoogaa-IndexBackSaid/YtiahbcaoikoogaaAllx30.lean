-- written by a program of the session out of the translation; Lean checks it
import Derived.Test.YtiahbcaoikoogaaAllx0
import Derived.Test.YtiahbcaoikoogaaAllx13
import Derived.Test.YtiahbcaoikoogaaAllx18
import Derived.Test.YtiahbcaoikoogaaAllx19
import Derived.Test.YtiahbcaoikoogaaAllx21
import Derived.Test.YtiahbcaoikoogaaAllx28
namespace Go.Proofs.Ytiahbcaoikoogaa.All
open Go.RowKit Go.Proofs.YtiahbcaoikoogaaW.PrintWords Go.Proofs.YtiahbcaoikoogaaW.PrintLast Go.Proofs.YtiahbcaoikoogaaW.PrintMore
attribute [local go_sem] max2_int min2_int max_two min_two max_three min_three max_four min_four   -- for this text's walks alone
set_option linter.unusedVariables false
set_option linter.unusedSimpArgs false

attribute [local go_sem high] errW_cells errW_match run_store_errW
/-! ### gaiterlaw14_IndexBack: function 6 -/
mutual
def gaiterlaw14_IndexBack.j0 : Nat → List Int → Bool → Bool → Int → List (S72) → Option (Bool)
 | 0, _, _, _, _, _ => none
 | k + 1, x1, x5, x33, x526000, x526001 => if x33 = true then (some x5) else ((index_Put.f k x526000 x526001).bind fun bt527 => (gaiterlaw14_IndexBack.l0 k x1 x5 bt527.1 bt527.2 0 0 x526000 x526001))
def gaiterlaw14_IndexBack.j2 : Nat → List Int → Bool → List Int → Option Int → Int → Int → List (S72) → Option (Bool)
 | 0, _, _, _, _, _, _, _ => none
 | k + 1, x1, x5, x6, x7, x8, x526000, x526001 => if x7.isNone = true then (gaiterlaw14_IndexBack.j3 k x1 x5 x6 x8 (decide (x8 < 10000)) x526000 x526001) else (gaiterlaw14_IndexBack.j3 k x1 x5 x6 x8 false x526000 x526001)
def gaiterlaw14_IndexBack.j3 : Nat → List Int → Bool → List Int → Int → Bool → Int → List (S72) → Option (Bool)
 | 0, _, _, _, _, _, _, _ => none
 | k + 1, x1, x5, x6, x8, x66, x526000, x526001 => if x66 = true then ((some (([] : List Int) : List Int)).bind fun y533 => (if y533.length + x6.length < 140737488355328 then ((some (y533 ++ x6 : List Int)).bind fun y536 => (if 0 ≤ x8 then (if y536.length + (x8 : Int).toNat < 140737488355328 then ((index_Get.f k (y536 ++ List.replicate (x8 : Int).toNat 0)).bind fun bt542 => ((some (([] : List Int) : List Int)).bind fun y549 => (if y549.length + x6.length < 140737488355328 then ((some (y549 ++ x6 : List Int)).bind fun y552 => (if 0 ≤ (wrap64 (x8 + 1)) then (if y552.length + (wrap64 (x8 + 1) : Int).toNat < 140737488355328 then ((index_Get.f k (y552 ++ List.replicate (wrap64 (x8 + 1) : Int).toNat 0)).bind fun bt558 => (if bt542.2.2.2.isNone = true then (if bt542.2.2.1 = (x6.length : Int) then (if bt542.1 = x526000 then ((gaiterlaw14_list.f k bt542.2.1).bind fun t566 => ((gaiterlaw14_list.f k x526001).bind fun t569 => ((gaiterlaw14_same.f k t566 t569).bind fun t572 => (if t572 = 0 then (gaiterlaw14_IndexBack.j4 k x1 x5 x6 x8 true) else ((gaiterlaw00_Code.f bt558.2.2.2).bind fun t573 => (gaiterlaw14_IndexBack.j4 k x1 x5 x6 x8 (t573 != 8))))))) else (gaiterlaw14_IndexBack.j4 k x1 x5 x6 x8 true)) else (gaiterlaw14_IndexBack.j4 k x1 x5 x6 x8 true)) else (gaiterlaw14_IndexBack.j4 k x1 x5 x6 x8 true))) else (none)) else (none))) else (none)))) else (none)) else (none))) else (none))) else (gaiterlaw14_IndexBack.j5 k x1 x5)
def gaiterlaw14_IndexBack.j5 : Nat → List Int → Bool → Option (Bool)
 | 0, _, _ => none
 | k + 1, x1, x5 => (index_Get.f k x1).bind fun bt591 => (if bt591.2.2.2.isNone = true then ((index_Put.f k bt591.1 bt591.2.1).bind fun bt599 => (if x5 = true then (if bt599.2.isNone = true then (if bt591.2.2.1 ≥ 0 then (if bt591.2.2.1 ≤ (x1.length : Int) then (if 0 ≤ (mx (mn bt591.2.2.1 (x1.length : Int)) 0) then (if (mx (mn bt591.2.2.1 (x1.length : Int)) 0) ≤ (x1.length : Int) then (some ((strOfNums bt599.1).toList == (strOfNums (x1.take ((mx (mn bt591.2.2.1 (x1.length : Int)) 0) : Int).toNat)).toList)) else (none)) else (none)) else (none)) else (none)) else (none)) else (none))) else (some x5))
def gaiterlaw14_IndexBack.j4 : Nat → List Int → Bool → List Int → Int → Bool → Option (Bool)
 | 0, _, _, _, _, _ => none
 | k + 1, x1, x5, x6, x8, x117 => if x117 = true then (none) else (if x8 > 0 then ((some (([] : List Int) : List Int)).bind fun y574 => (if y574.length + x6.length < 140737488355328 then ((some (y574 ++ x6 : List Int)).bind fun y577 => (if 0 ≤ (wrap64 (x8 - 1)) then (if y577.length + (wrap64 (x8 - 1) : Int).toNat < 140737488355328 then ((index_Get.f k (y577 ++ List.replicate (wrap64 (x8 - 1) : Int).toNat 0)).bind fun bt583 => ((gaiterlaw00_Code.f bt583.2.2.2).bind fun t590 => (if t590 = 8 then (gaiterlaw14_IndexBack.j5 k x1 x5) else (none)))) else (none)) else (none))) else (none))) else (gaiterlaw14_IndexBack.j5 k x1 x5))
def gaiterlaw14_IndexBack.l0 : Nat → List Int → Bool → List Int → Option Int → Int → Int → Int → List (S72) → Option (Bool)
 | 0, _, _, _, _, _, _, _, _ => none
 | k + 1, x1, x5, x6, x7, x8, x9, x526000, x526001 => if x9 < (x526001.length : Int) then (if x8 < 10000 then (if 0 ≤ x9 then (gaiterlaw14_IndexBack.l0 k x1 x5 x6 x7 (wrap64 (x8 + (mn (mx ((rd_T72 x526001 x9).f3) 0) 10000))) (wrap64 (x9 + 1)) x526000 x526001) else (none)) else (gaiterlaw14_IndexBack.j2 k x1 x5 x6 x7 x8 x526000 x526001)) else (gaiterlaw14_IndexBack.j2 k x1 x5 x6 x7 x8 x526000 x526001)
end
def gaiterlaw14_IndexBack.f (k : Nat) (a0_0 : Int) (l0_1 : List (S72)) (l1 : List Int) : Option (Bool) := (gaiterlaw14_up.f k).bind fun t526 => (if (l0_1.length : Int) > 200 then (gaiterlaw14_IndexBack.j0 k l1 t526 true a0_0 l0_1) else (gaiterlaw14_IndexBack.j0 k l1 t526 (decide ((l1.length : Int) > 3000)) a0_0 l0_1))
theorem gaiterlaw14_IndexBack.mono_l : ∀ k, (∀ y0 y1 y2 y3 y4, LeO (gaiterlaw14_IndexBack.j0 k y0 y1 y2 y3 y4) (gaiterlaw14_IndexBack.j0 (k + 1) y0 y1 y2 y3 y4)) ∧ (∀ y0 y1 y2 y3 y4 y5 y6, LeO (gaiterlaw14_IndexBack.j2 k y0 y1 y2 y3 y4 y5 y6) (gaiterlaw14_IndexBack.j2 (k + 1) y0 y1 y2 y3 y4 y5 y6)) ∧ (∀ y0 y1 y2 y3 y4 y5 y6, LeO (gaiterlaw14_IndexBack.j3 k y0 y1 y2 y3 y4 y5 y6) (gaiterlaw14_IndexBack.j3 (k + 1) y0 y1 y2 y3 y4 y5 y6)) ∧ (∀ y0 y1, LeO (gaiterlaw14_IndexBack.j5 k y0 y1) (gaiterlaw14_IndexBack.j5 (k + 1) y0 y1)) ∧ (∀ y0 y1 y2 y3 y4, LeO (gaiterlaw14_IndexBack.j4 k y0 y1 y2 y3 y4) (gaiterlaw14_IndexBack.j4 (k + 1) y0 y1 y2 y3 y4)) ∧ (∀ y0 y1 y2 y3 y4 y5 y6 y7, LeO (gaiterlaw14_IndexBack.l0 k y0 y1 y2 y3 y4 y5 y6 y7) (gaiterlaw14_IndexBack.l0 (k + 1) y0 y1 y2 y3 y4 y5 y6 y7))
 | 0 => ⟨fun _ _ _ _ _ r h => by simp [gaiterlaw14_IndexBack.j0] at h, fun _ _ _ _ _ _ _ r h => by simp [gaiterlaw14_IndexBack.j2] at h, fun _ _ _ _ _ _ _ r h => by simp [gaiterlaw14_IndexBack.j3] at h, fun _ _ r h => by simp [gaiterlaw14_IndexBack.j5] at h, fun _ _ _ _ _ r h => by simp [gaiterlaw14_IndexBack.j4] at h, fun _ _ _ _ _ _ _ _ r h => by simp [gaiterlaw14_IndexBack.l0] at h⟩
 | k + 1 => by
  obtain ⟨ih0, ih1, ih2, ih3, ih4, ih5⟩ := gaiterlaw14_IndexBack.mono_l k
  refine ⟨?_, ?_, ?_, ?_, ?_, ?_⟩
  ·intro y0 y1 y2 y3 y4
   unfold gaiterlaw14_IndexBack.j0
   repeat' first
   | (with_reducible exact ih0 _ _ _ _ _)
   | (with_reducible exact ih1 _ _ _ _ _ _ _)
   | (with_reducible exact ih2 _ _ _ _ _ _ _)
   | (with_reducible exact ih3 _ _)
   | (with_reducible exact ih4 _ _ _ _ _)
   | (with_reducible exact ih5 _ _ _ _ _ _ _ _)
   | (with_reducible exact gaiterlaw14_list.mono _ _)
   | (with_reducible exact gaiterlaw14_same.mono _ _ _)
   | (with_reducible exact gaiterlaw14_up.mono _)
   | (with_reducible exact index_Get.mono _ _)
   | (with_reducible exact index_Put.mono _ _ _)
   | (with_reducible exact LeO.refl _)
   | (with_reducible exact LeO.none _)
   | (with_reducible refine LeO.ite ?_ ?_)
   | (with_reducible refine LeO.bind ?_ (fun _ => ?_))
   | exact ih0 _ _ _ _ _
   | exact ih1 _ _ _ _ _ _ _
   | exact ih2 _ _ _ _ _ _ _
   | exact ih3 _ _
   | exact ih4 _ _ _ _ _
   | exact ih5 _ _ _ _ _ _ _ _
   | exact gaiterlaw14_list.mono _ _
   | exact gaiterlaw14_same.mono _ _ _
   | exact gaiterlaw14_up.mono _
   | exact index_Get.mono _ _
   | exact index_Put.mono _ _ _
   | exact LeO.none _
   | refine LeO.ite ?_ ?_
   | refine LeO.bind ?_ (fun _ => ?_)
  ·intro y0 y1 y2 y3 y4 y5 y6
   unfold gaiterlaw14_IndexBack.j2
   repeat' first
   | (with_reducible exact ih0 _ _ _ _ _)
   | (with_reducible exact ih1 _ _ _ _ _ _ _)
   | (with_reducible exact ih2 _ _ _ _ _ _ _)
   | (with_reducible exact ih3 _ _)
   | (with_reducible exact ih4 _ _ _ _ _)
   | (with_reducible exact ih5 _ _ _ _ _ _ _ _)
   | (with_reducible exact gaiterlaw14_list.mono _ _)
   | (with_reducible exact gaiterlaw14_same.mono _ _ _)
   | (with_reducible exact gaiterlaw14_up.mono _)
   | (with_reducible exact index_Get.mono _ _)
   | (with_reducible exact index_Put.mono _ _ _)
   | (with_reducible exact LeO.refl _)
   | (with_reducible exact LeO.none _)
   | (with_reducible refine LeO.ite ?_ ?_)
   | (with_reducible refine LeO.bind ?_ (fun _ => ?_))
   | exact ih0 _ _ _ _ _
   | exact ih1 _ _ _ _ _ _ _
   | exact ih2 _ _ _ _ _ _ _
   | exact ih3 _ _
   | exact ih4 _ _ _ _ _
   | exact ih5 _ _ _ _ _ _ _ _
   | exact gaiterlaw14_list.mono _ _
   | exact gaiterlaw14_same.mono _ _ _
   | exact gaiterlaw14_up.mono _
   | exact index_Get.mono _ _
   | exact index_Put.mono _ _ _
   | exact LeO.none _
   | refine LeO.ite ?_ ?_
   | refine LeO.bind ?_ (fun _ => ?_)
  ·intro y0 y1 y2 y3 y4 y5 y6
   unfold gaiterlaw14_IndexBack.j3
   repeat' first
   | (with_reducible exact ih0 _ _ _ _ _)
   | (with_reducible exact ih1 _ _ _ _ _ _ _)
   | (with_reducible exact ih2 _ _ _ _ _ _ _)
   | (with_reducible exact ih3 _ _)
   | (with_reducible exact ih4 _ _ _ _ _)
   | (with_reducible exact ih5 _ _ _ _ _ _ _ _)
   | (with_reducible exact gaiterlaw14_list.mono _ _)
   | (with_reducible exact gaiterlaw14_same.mono _ _ _)
   | (with_reducible exact gaiterlaw14_up.mono _)
   | (with_reducible exact index_Get.mono _ _)
   | (with_reducible exact index_Put.mono _ _ _)
   | (with_reducible exact LeO.refl _)
   | (with_reducible exact LeO.none _)
   | (with_reducible refine LeO.ite ?_ ?_)
   | (with_reducible refine LeO.bind ?_ (fun _ => ?_))
   | exact ih0 _ _ _ _ _
   | exact ih1 _ _ _ _ _ _ _
   | exact ih2 _ _ _ _ _ _ _
   | exact ih3 _ _
   | exact ih4 _ _ _ _ _
   | exact ih5 _ _ _ _ _ _ _ _
   | exact gaiterlaw14_list.mono _ _
   | exact gaiterlaw14_same.mono _ _ _
   | exact gaiterlaw14_up.mono _
   | exact index_Get.mono _ _
   | exact index_Put.mono _ _ _
   | exact LeO.none _
   | refine LeO.ite ?_ ?_
   | refine LeO.bind ?_ (fun _ => ?_)
  ·intro y0 y1
   unfold gaiterlaw14_IndexBack.j5
   repeat' first
   | (with_reducible exact ih0 _ _ _ _ _)
   | (with_reducible exact ih1 _ _ _ _ _ _ _)
   | (with_reducible exact ih2 _ _ _ _ _ _ _)
   | (with_reducible exact ih3 _ _)
   | (with_reducible exact ih4 _ _ _ _ _)
   | (with_reducible exact ih5 _ _ _ _ _ _ _ _)
   | (with_reducible exact gaiterlaw14_list.mono _ _)
   | (with_reducible exact gaiterlaw14_same.mono _ _ _)
   | (with_reducible exact gaiterlaw14_up.mono _)
   | (with_reducible exact index_Get.mono _ _)
   | (with_reducible exact index_Put.mono _ _ _)
   | (with_reducible exact LeO.refl _)
   | (with_reducible exact LeO.none _)
   | (with_reducible refine LeO.ite ?_ ?_)
   | (with_reducible refine LeO.bind ?_ (fun _ => ?_))
   | exact ih0 _ _ _ _ _
   | exact ih1 _ _ _ _ _ _ _
   | exact ih2 _ _ _ _ _ _ _
   | exact ih3 _ _
   | exact ih4 _ _ _ _ _
   | exact ih5 _ _ _ _ _ _ _ _
   | exact gaiterlaw14_list.mono _ _
   | exact gaiterlaw14_same.mono _ _ _
   | exact gaiterlaw14_up.mono _
   | exact index_Get.mono _ _
   | exact index_Put.mono _ _ _
   | exact LeO.none _
   | refine LeO.ite ?_ ?_
   | refine LeO.bind ?_ (fun _ => ?_)
  ·intro y0 y1 y2 y3 y4
   unfold gaiterlaw14_IndexBack.j4
   repeat' first
   | (with_reducible exact ih0 _ _ _ _ _)
   | (with_reducible exact ih1 _ _ _ _ _ _ _)
   | (with_reducible exact ih2 _ _ _ _ _ _ _)
   | (with_reducible exact ih3 _ _)
   | (with_reducible exact ih4 _ _ _ _ _)
   | (with_reducible exact ih5 _ _ _ _ _ _ _ _)
   | (with_reducible exact gaiterlaw14_list.mono _ _)
   | (with_reducible exact gaiterlaw14_same.mono _ _ _)
   | (with_reducible exact gaiterlaw14_up.mono _)
   | (with_reducible exact index_Get.mono _ _)
   | (with_reducible exact index_Put.mono _ _ _)
   | (with_reducible exact LeO.refl _)
   | (with_reducible exact LeO.none _)
   | (with_reducible refine LeO.ite ?_ ?_)
   | (with_reducible refine LeO.bind ?_ (fun _ => ?_))
   | exact ih0 _ _ _ _ _
   | exact ih1 _ _ _ _ _ _ _
   | exact ih2 _ _ _ _ _ _ _
   | exact ih3 _ _
   | exact ih4 _ _ _ _ _
   | exact ih5 _ _ _ _ _ _ _ _
   | exact gaiterlaw14_list.mono _ _
   | exact gaiterlaw14_same.mono _ _ _
   | exact gaiterlaw14_up.mono _
   | exact index_Get.mono _ _
   | exact index_Put.mono _ _ _
   | exact LeO.none _
   | refine LeO.ite ?_ ?_
   | refine LeO.bind ?_ (fun _ => ?_)
  ·intro y0 y1 y2 y3 y4 y5 y6 y7
   unfold gaiterlaw14_IndexBack.l0
   repeat' first
   | (with_reducible exact ih0 _ _ _ _ _)
   | (with_reducible exact ih1 _ _ _ _ _ _ _)
   | (with_reducible exact ih2 _ _ _ _ _ _ _)
   | (with_reducible exact ih3 _ _)
   | (with_reducible exact ih4 _ _ _ _ _)
   | (with_reducible exact ih5 _ _ _ _ _ _ _ _)
   | (with_reducible exact gaiterlaw14_list.mono _ _)
   | (with_reducible exact gaiterlaw14_same.mono _ _ _)
   | (with_reducible exact gaiterlaw14_up.mono _)
   | (with_reducible exact index_Get.mono _ _)
   | (with_reducible exact index_Put.mono _ _ _)
   | (with_reducible exact LeO.refl _)
   | (with_reducible exact LeO.none _)
   | (with_reducible refine LeO.ite ?_ ?_)
   | (with_reducible refine LeO.bind ?_ (fun _ => ?_))
   | exact ih0 _ _ _ _ _
   | exact ih1 _ _ _ _ _ _ _
   | exact ih2 _ _ _ _ _ _ _
   | exact ih3 _ _
   | exact ih4 _ _ _ _ _
   | exact ih5 _ _ _ _ _ _ _ _
   | exact gaiterlaw14_list.mono _ _
   | exact gaiterlaw14_same.mono _ _ _
   | exact gaiterlaw14_up.mono _
   | exact index_Get.mono _ _
   | exact index_Put.mono _ _ _
   | exact LeO.none _
   | refine LeO.ite ?_ ?_
   | refine LeO.bind ?_ (fun _ => ?_)
theorem gaiterlaw14_IndexBack.mono : ∀ a0 a1 a2 k, LeO (gaiterlaw14_IndexBack.f k a0 a1 a2) (gaiterlaw14_IndexBack.f (k + 1) a0 a1 a2) := by
 intro a0 a1 a2 k
 obtain ⟨ih0, ih1, ih2, ih3, ih4, ih5⟩ := gaiterlaw14_IndexBack.mono_l k
 unfold gaiterlaw14_IndexBack.f
 repeat' first
   | (with_reducible exact ih0 _ _ _ _ _)
   | (with_reducible exact ih1 _ _ _ _ _ _ _)
   | (with_reducible exact ih2 _ _ _ _ _ _ _)
   | (with_reducible exact ih3 _ _)
   | (with_reducible exact ih4 _ _ _ _ _)
   | (with_reducible exact ih5 _ _ _ _ _ _ _ _)
   | (with_reducible exact gaiterlaw14_list.mono _ _)
   | (with_reducible exact gaiterlaw14_same.mono _ _ _)
   | (with_reducible exact gaiterlaw14_up.mono _)
   | (with_reducible exact index_Get.mono _ _)
   | (with_reducible exact index_Put.mono _ _ _)
   | (with_reducible exact LeO.refl _)
   | (with_reducible exact LeO.none _)
   | (with_reducible refine LeO.ite ?_ ?_)
   | (with_reducible refine LeO.bind ?_ (fun _ => ?_))
   | exact ih0 _ _ _ _ _
   | exact ih1 _ _ _ _ _ _ _
   | exact ih2 _ _ _ _ _ _ _
   | exact ih3 _ _
   | exact ih4 _ _ _ _ _
   | exact ih5 _ _ _ _ _ _ _ _
   | exact gaiterlaw14_list.mono _ _
   | exact gaiterlaw14_same.mono _ _ _
   | exact gaiterlaw14_up.mono _
   | exact index_Get.mono _ _
   | exact index_Put.mono _ _ _
   | exact LeO.none _
   | refine LeO.ite ?_ ?_
   | refine LeO.bind ?_ (fun _ => ?_)
def gaiterlaw14_IndexBack.T13 : Bool × List (List Nat × List Nat) := (true, [([], []), ([0], [0]), ([1], [1]), ([2], [2]), ([2], [2]), ([4, 2], [2, 4]), ([3, 5, 2], [2, 3, 5]), ([2, 6], [2, 6]), ([7, 2], [7]), ([8], [8]), ([9, 8], [8, 9]), ([8], [8]), ([11, 8], [8, 11]), ([10, 12, 8], [8, 10, 12]), ([8, 13], [8, 13]), ([14, 8], [14]), ([15], [15]), ([16, 15], [15, 16]), ([17, 15, 15], [15, 17]), ([15], [15]), ([19, 15], [15, 19]), ([20, 18, 15], [15, 20]), ([18, 21, 21, 15], [15, 18, 21]), ([22, 15], [15, 22]), ([15, 23], [15, 23]), ([24, 22], [24]), ([25], [25]), ([26, 25, 25], [25, 26]), ([27, 25], [25, 27]), ([25, 28], [25, 28])])
def gaiterlaw14_IndexBack.B13 : List Nat := [0, 1, 3, 7, 7, 23, 63, 127, 255, 511, 1023, 511, 2559, 8191, 16383, 32767, 65535, 131071, 262143, 65535, 589823, 2097151, 4194303, 8388607, 16777215, 33554431, 67108863, 134217727, 268435455, 536870911]
theorem gaiterlaw14_IndexBack.tab13 : rtab .any (opsOf Try.f6 13) = gaiterlaw14_IndexBack.T13 := by kernel_rfl
theorem gaiterlaw14_IndexBack.bits13 : waitsOk gaiterlaw14_IndexBack.T13.2 gaiterlaw14_IndexBack.B13 = true := by kernel_rfl
def gaiterlaw14_IndexBack.T23 : Bool × List (List Nat × List Nat) := (true, [([], []), ([0], [0]), ([1], [1]), ([2, 1], [1, 2]), ([1, 3], [1, 3]), ([4, 1], [4]), ([5], [5]), ([6, 5], [5, 6]), ([5, 7], [5, 7]), ([8, 5], [8]), ([9], [9]), ([9], [9]), ([11, 9], [9, 11]), ([10, 12, 9], [9, 10, 12]), ([9, 13], [9, 13]), ([14, 9], [14]), ([15], [15]), ([16, 15], [15, 16]), ([15], [15]), ([15], [15]), ([15], [15]), ([20, 15], [15, 20]), ([19, 21, 15], [15, 19, 21]), ([22, 15], [15, 22]), ([18, 23, 15], [15, 18, 23]), ([24, 15], [15, 24]), ([17, 25, 15], [15, 17, 25]), ([15, 26], [15, 26]), ([27, 15, 0, 1, 2, 3, 4, 5, 6, 7, 8, 9, 10, 11, 12, 13, 14, 15, 16, 17, 18, 19, 20, 21, 22, 23, 24, 25, 26, 27], [27])])
def gaiterlaw14_IndexBack.B23 : List Nat := [0, 1, 3, 7, 15, 31, 63, 127, 255, 511, 1023, 1023, 3071, 8191, 16383, 32767, 65535, 131071, 65535, 65535, 65535, 1114111, 3735551, 7929855, 16580607, 33357823, 67108863, 134217727, 268435455]
theorem gaiterlaw14_IndexBack.tab23 : rtab .any (opsOf Try.f6 23) = gaiterlaw14_IndexBack.T23 := by kernel_rfl
theorem gaiterlaw14_IndexBack.bits23 : waitsOk gaiterlaw14_IndexBack.T23.2 gaiterlaw14_IndexBack.B23 = true := by kernel_rfl
set_option maxHeartbeats 8000000 in
set_option maxRecDepth 100000 in
theorem gaiterlaw14_IndexBack.calls (k : Nat) (a0_0 : Int) (A0_1 : Option Addr) (c0_1 : Nat) (l0_1 : List (S72)) (A1 : Option Addr) (c1 : Nat) (l1 : List Int) (r : Bool) (w : World) (hr0_1 : Kd.C k72 w A0_1 l0_1.length l0_1) (hc0_1 : l0_1.length ≤ c0_1) (hr1 : Kd.C (Kd.int .u8) w A1 l1.length l1) (hc1 : l1.length ≤ c1) (h : gaiterlaw14_IndexBack.f k a0_0 l0_1 l1 = some r) :
  Calls Try.prog 6 #[.agg #[.int .i64 a0_0, .slice A0_1 l0_1.length c0_1], .slice A1 l1.length c1] w fun e w' => e = .returned (.bool r) ∧ Below w.heap.size w w' := by
 have hu53 := Try.underlying53
 have hu27 := Try.underlying27
 have hu29 := Try.underlying29
 have HR0_1 := Aside0.mk hr0_1
 have HC0_1 := Aside0.mk hc0_1
 clear hr0_1 hc0_1
 have HR1 := Aside0.mk hr1
 have HC1 := Aside0.mk hc1
 clear hr1 hc1
 have HB := Aside0.mk (Below.refl w.heap.size w)
 have H : ((gaiterlaw14_up.f k).bind fun t526 => (if (l0_1.length : Int) > 200 then (gaiterlaw14_IndexBack.j0 k l1 t526 true a0_0 l0_1) else (gaiterlaw14_IndexBack.j0 k l1 t526 (decide ((l1.length : Int) > 3000)) a0_0 l0_1))) = some r := h
 clear h
 replace H := Option.bind_eq_some_iff.mp H
 obtain ⟨t526, A30, H⟩ := H
 replace H : (if (l0_1.length : Int) > 200 then (gaiterlaw14_IndexBack.j0 k l1 t526 true a0_0 l0_1) else (gaiterlaw14_IndexBack.j0 k l1 t526 (decide ((l1.length : Int) > 3000)) a0_0 l0_1)) = some r := H
 have A3 := Aside0.mk A30
 clear A30
 have HC4 := Aside0.mk H
 clear H
 go_enter Try.func6, Try.ntmps6
 go_upto_region 2 with (first | ((with_reducible refine gate_dst (N := 2) rfl ?_); (try (refine gate_guard (by rfl) ?_; dsimp only)); refine box_event ?hg (N := 2) ?hd (cs := #[.int .i64 a0_0, .slice A0_1 l0_1.length c0_1]) (t := 53) ?hr ?_; (case hd => rfl); (case hg => rfl); (case hr => first | (go_simp; done) | (go_simp; rfl)); intro gb525 hg w5 hbox hb; have BK525 := Aside0.mk (hbox); have GW525 := kG hg HB; have GE525 := kG hg HB; replace HB := kH HB hb; clear hb hbox hg) | ((with_reducible refine gate_callee (f := 21) rfl ?_); refine goesL_ (some 24) rfl rfl Try.func21 (by kernel_rfl) rfl #[] rfl km ?_; (with_reducible refine (gaiterlaw14_up.calls k  t526 _ A3.out).mono ?_); rintro e w6 ⟨rfl, hb⟩; refine ⟨_, rfl, ?_⟩; replace BK525 := kB BK525 hb; replace HB := kH HB hb; (try clear hb); (try clear hb2); (try clear hk); (try clear hi)))
 (try simp only [Act.put, List.setIfInBounds_toArray, List.set_cons_zero, List.set_cons_succ])
 go_cut [33] (fun v33 wc => ∃ (kq : Nat) (x33_3 : Bool), v33 = .bool x33_3 ∧ Aside0 (gaiterlaw14_IndexBack.j0 kq l1 t526 x33_3 a0_0 l0_1 = some r) ∧ Aside0 (kq ≤ k) ∧ Aside0 (wc.heap[gb525]? = some (.cells #[.int .i64 a0_0, (.slice A0_1 l0_1.length c0_1)] 53 (0, 0))) ∧ Aside0 (Below w.heap.size w wc))
 case first =>
  have H := HC4.out
  clear HC4
  by_cases c7 : (l0_1.length : Int) > 200
  ·rw [if_pos c7] at H
   have c7b0 : decide (200 < (l0_1.length : Int)) = true := decide_eq_true c7
   have c7b1 : decide (200 < l0_1.length) = true := decide_eq_true (by omega)
   clear c7
   (first | rw [c7b0] | (simp only [i64_w, i32_w]; rw [c7b0]) | skip)
   have H' := Aside0.mk H
   clear H
   obtain ⟨hcz8_0, hcz8_1⟩ := kc2 BK525
   obtain ⟨hfz8_0, hfz8_1⟩ := kf2 BK525
   go_wp2
   go_meet
   case rel => exact ⟨_, (true), (by first | rfl | (simp; done) | (simp [*]; done)), H', ⟨by first | omega | exact Nat.le_refl _⟩, ⟨kb BK525⟩, ⟨(kl HB)⟩⟩
  ·rw [if_neg c7] at H
   have c7b0 : decide (200 < (l0_1.length : Int)) = false := decide_eq_false c7
   have c7b1 : decide (200 < l0_1.length) = false := decide_eq_false (by omega)
   clear c7
   (first | rw [c7b0] | (simp only [i64_w, i32_w]; rw [c7b0]) | skip)
   have H' := Aside0.mk H
   clear H
   obtain ⟨hcz9_0, hcz9_1⟩ := kc2 BK525
   obtain ⟨hfz9_0, hfz9_1⟩ := kf2 BK525
   go_wp2
   go_meet
   case rel => exact ⟨_, (decide ((l1.length : Int) > 3000)), (by first | rfl | (simp; done) | (simp [*]; done)), H', ⟨by first | omega | exact Nat.le_refl _⟩, ⟨kb BK525⟩, ⟨(kl HB)⟩⟩
 case rest =>
  as_aux_lemma =>
  clear HC4
  try clear c1
  try clear c2
  try clear p2
  try clear c6
  try clear c7
  try clear c7b0
  try clear c7b1
  try clear hcz8_0
  try clear hcz8_1
  try clear hcz9_0
  try clear hcz9_1
  try clear hfz8_0
  try clear hfz8_1
  try clear hfz9_0
  try clear hfz9_1
  obtain ⟨kq, x33_3, rfl, HA, HJ3, BK525, HB⟩ := hcut
  cases kq with
  | zero => exact absurd HA.out (by simp [gaiterlaw14_IndexBack.j0])
  | succ kj3 =>
   have H := HA.out
   clear HA
   simp only [gaiterlaw14_IndexBack.j0] at H
   by_cases c10 : x33_3 = true
   ·subst c10
    have H1 : (some t526) = some r := by rw [if_pos rfl] at H; exact H
    clear H
    have H := H1
    clear H1
    obtain rfl := Option.some.inj H
    go_wp2
    go_ret
    exact ⟨by first | rfl | (simp [errW_none, errW_some] <;> rfl) | (simp [*, errW_none, errW_some] <;> rfl), (kl HB)⟩
   ·replace c10 := Bool.eq_false_iff.mpr c10
    subst c10
    have H1 : ((index_Put.f kj3 a0_0 l0_1).bind fun bt527 => (gaiterlaw14_IndexBack.l0 kj3 l1 t526 bt527.1 bt527.2 0 0 a0_0 l0_1)) = some r := by rw [if_neg (show ¬ (false = true) by decide)] at H; exact H
    clear H
    have H := H1
    clear H1
    replace H := Option.bind_eq_some_iff.mp H
    obtain ⟨⟨t527, t530⟩, A110, H⟩ := H
    replace H : (gaiterlaw14_IndexBack.l0 kj3 l1 t526 t527 t530 0 0 a0_0 l0_1) = some r := H
    have A11 := Aside0.mk A110
    clear A110
    have HC12 := Aside0.mk H
    clear H
    obtain ⟨hcz13_0, hcz13_1⟩ := kc2 BK525
    obtain ⟨hfz13_0, hfz13_1⟩ := kf2 BK525
    go_upto_block 0 with (first | ((with_reducible refine gate_callee (f := 22) rfl ?_); refine goesL_ (some 37) rfl rfl Try.func22 (by kernel_rfl) rfl #[.agg #[.int .i64 a0_0, .slice A0_1 l0_1.length c0_1]] rfl km ?_; (with_reducible refine (index_Put.calls kj3 a0_0 _ _ l0_1 t527 t530 _ ?side1 ?side2 A11.out).mono ?_); (case side1 => repeat (first | exact (Kd.C_below HR0_1.out HB.out) | (with_reducible refine Kd.C_alloc ?_ _) | (with_reducible refine Kd.C_drewN ?_ _) | (with_reducible refine Kd.C_drew ?_))); (case side2 => exact HC0_1.out); rintro e w14 ⟨v528, rfl, ho0, hb⟩; refine ⟨_, rfl, ?_⟩; have HO529 := Aside0.mk (Kd.R_lower ho0 (below_size (kl HB))); replace BK525 := kB BK525 hb; replace HB := kH HB hb; (try clear hb); (try clear hb2); (try clear hk); (try clear hi); (try clear ho0); (try simp only [errW_none, errW_some])))
    (try simp only [Act.put, List.setIfInBounds_toArray, List.set_cons_zero, List.set_cons_succ])
    go_cut [8] (fun v8 wc => ∃ (kq : Nat) (x8_11 : Int), v8 = .int .i64 x8_11 ∧ Aside0 (gaiterlaw14_IndexBack.j2 kq l1 t526 t527 t530 x8_11 a0_0 l0_1 = some r) ∧ Aside0 (kq ≤ kj3) ∧ Aside0 (Kd.R (Kd.int .u8) 5 wc w.heap.size (fun _ => True) v528 t527) ∧ Aside0 (wc.heap[gb525]? = some (.cells #[.int .i64 a0_0, (.slice A0_1 l0_1.length c0_1)] 53 (0, 0))) ∧ Aside0 (Below w.heap.size w wc))
    case first =>
     as_aux_lemma =>
     have H := HC12.out
     clear HC12
     have H' := Aside0.mk H
     clear H
     go_wp2
     go_loopg [8, 9] kj3 (fun kq v8 v9 w' => ∃ (x8_2 : Int) (x9_2 : Int), v8 = .int .i64 x8_2 ∧ v9 = .int .i64 x9_2 ∧ Aside0 (gaiterlaw14_IndexBack.l0 kq l1 t526 t527 t530 x8_2 x9_2 a0_0 l0_1 = some r) ∧ Aside0 (kq ≤ kj3) ∧ Aside0 (Kd.R (Kd.int .u8) 5 w' w.heap.size (fun _ => True) v528 t527) ∧ Aside0 (w'.heap[gb525]? = some (.cells #[.int .i64 a0_0, (.slice A0_1 l0_1.length c0_1)] 53 (0, 0))) ∧ Aside0 (Below w.heap.size w w'))
     case atStart => exact ⟨(0), (0), (by first | rfl | (simp; done) | (simp [*]; done)), (by first | rfl | (simp; done) | (simp [*]; done)), H', ⟨Nat.le_refl _⟩, ⟨kr HO529⟩, ⟨kb BK525⟩, ⟨(kl HB)⟩⟩
     case round =>
      as_aux_lemma =>
      clear H'
      try clear c1
      try clear c2
      try clear p2
      try clear c6
      try clear c7
      try clear c7b0
      try clear c7b1
      try clear c10
      try clear hcz13_0
      try clear hcz13_1
      try clear hcz8_0
      try clear hcz8_1
      try clear hcz9_0
      try clear hcz9_1
      try clear hfz13_0
      try clear hfz13_1
      try clear hfz8_0
      try clear hfz8_1
      try clear hfz9_0
      try clear hfz9_1
      try clear p2
      obtain ⟨x8_2, x9_2, rfl, rfl, HA, HK2, HO_6, BK525, HB⟩ := hrel
      cases gk with
      | zero => exact absurd HA.out (by simp [gaiterlaw14_IndexBack.l0])
      | succ k2 =>
       have H := HA.out
       clear HA
       simp only [gaiterlaw14_IndexBack.l0] at H
       by_cases c15 : x9_2 < (l0_1.length : Int)
       ·rw [if_pos c15] at H
        have c15b0 : decide (x9_2 < (l0_1.length : Int)) = true := decide_eq_true c15
        clear c15
        (first | rw [c15b0] | (simp only [i64_w, i32_w]; rw [c15b0]) | skip)
        by_cases c16 : x8_2 < 10000
        ·rw [if_pos c16] at H
         have c16b0 : decide (x8_2 < 10000) = true := decide_eq_true c16
         clear c16
         by_cases c17 : 0 ≤ x9_2
         ·rw [if_pos c17] at H
          have c17b0 : decide (0 ≤ x9_2) = true := decide_eq_true c17
          clear c17
          obtain ⟨ji18, hji18⟩ : ∃ j_ : Int, (mx ((rd_T72 l0_1 x9_2).f3) 0) = j_ := ⟨_, rfl⟩
          replace H : (gaiterlaw14_IndexBack.l0 k2 l1 t526 t527 t530 (wrap64 (x8_2 + (mn (ji18) 10000))) (wrap64 (x9_2 + 1)) a0_0 l0_1) = some r := by first | (rw [hji18] at H; exact H) | (simp only [hji18] at H ⊢; exact H)
          have hji18_ : (if ((rd_T72 l0_1 x9_2).f3) < 0 then 0 else ((rd_T72 l0_1 x9_2).f3)) = ji18 := hji18
          (try (have hji18n := hji18_; simp only [Int.ofNat_lt] at hji18n))
          obtain ⟨ji19, hji19⟩ : ∃ j_ : Int, (mn (ji18) 10000) = j_ := ⟨_, rfl⟩
          replace H : (gaiterlaw14_IndexBack.l0 k2 l1 t526 t527 t530 (wrap64 (x8_2 + (ji19))) (wrap64 (x9_2 + 1)) a0_0 l0_1) = some r := by first | (rw [hji19] at H; exact H) | (simp only [hji19] at H ⊢; exact H)
          have hji19_ : (if 10000 < (ji18) then 10000 else (ji18)) = ji19 := hji19
          (try (have hji19n := hji19_; simp only [Int.ofNat_lt] at hji19n))
          have H' := Aside0.mk H
          clear H
          obtain ⟨hcz20_0, hcz20_1⟩ := kc2 BK525
          obtain ⟨hfz20_0, hfz20_1⟩ := kf2 BK525
          have p531 : 0 ≤ (x9_2 : Int) := of_decide_eq_true (by first | (with_reducible assumption) | assumption)
          have q531 : x9_2 < (l0_1.length : Int) := of_decide_eq_true (by first | (with_reducible assumption) | assumption)
          obtain ⟨ad531, e531, hx531_0, hx531_1, hx531_2, hx531_3⟩ := at_T72 HR0_1.out x9_2 p531 q531
          cases e531
          replace hx531_0 := (HB.out.cell (World.block_lt_of_cell? w _ hx531_0)).trans hx531_0
          replace hx531_1 := (HB.out.cell (World.block_lt_of_cell? w _ hx531_1)).trans hx531_1
          replace hx531_2 := (HB.out.cell (World.block_lt_of_cell? w _ hx531_2)).trans hx531_2
          replace hx531_3 := (HB.out.cell (World.block_lt_of_cell? w _ hx531_3)).trans hx531_3
          replace p531 := eq_true p531
          (try (have q531s := q531; simp only [List.length_drop, List.length_take] at q531s; replace q531s := eq_true q531s)); replace q531 := eq_true q531
          go_wp2
          go_roundg k2
          case measure => have := HJ3.out; have := HK2.out; omega
          case rel => exact ⟨(wrap64 (x8_2 + (ji19))), (wrap64 (x9_2 + 1)), (by first | rfl | (simp; done) | (simp only [← hji19] <;> (first | rfl | simp)) | (simp [*]; done)), (by first | rfl | (simp; done) | (simp [*]; done)), H', ⟨by have := HJ3.out; have := HK2.out; omega⟩, ⟨kr HO_6⟩, ⟨kb BK525⟩, ⟨(kl HB)⟩⟩
         ·rw [if_neg c17] at H
          exact absurd H (by simp)
        ·rw [if_neg c16] at H
         have c16b0 : decide (x8_2 < 10000) = false := decide_eq_false c16
         clear c16
         have H' := Aside0.mk H
         clear H
         obtain ⟨hcz21_0, hcz21_1⟩ := kc2 BK525
         obtain ⟨hfz21_0, hfz21_1⟩ := kf2 BK525
         go_wp2
         go_meet
         case rel => exact ⟨_, (x8_2), (by first | rfl | (simp; done) | (simp [*]; done)), H', ⟨by have := HJ3.out; have := HK2.out; first | omega | exact Nat.le_refl _⟩, ⟨kr HO_6⟩, ⟨kb BK525⟩, ⟨(kl HB)⟩⟩
       ·rw [if_neg c15] at H
        have c15b0 : decide (x9_2 < (l0_1.length : Int)) = false := decide_eq_false c15
        clear c15
        (first | rw [c15b0] | (simp only [i64_w, i32_w]; rw [c15b0]) | skip)
        have H' := Aside0.mk H
        clear H
        obtain ⟨hcz22_0, hcz22_1⟩ := kc2 BK525
        obtain ⟨hfz22_0, hfz22_1⟩ := kf2 BK525
        go_wp2
        go_meet
        case rel => exact ⟨_, (x8_2), (by first | rfl | (simp; done) | (simp [*]; done)), H', ⟨by have := HJ3.out; have := HK2.out; first | omega | exact Nat.le_refl _⟩, ⟨kr HO_6⟩, ⟨kb BK525⟩, ⟨(kl HB)⟩⟩
    case rest =>
     as_aux_lemma =>
     clear HC12
     try clear c1
     try clear c2
     try clear p2
     try clear p5
     try clear q5
     try clear hx5
     try clear c6
     try clear p6
     try clear c7
     try clear c7b0
     try clear c7b1
     try clear c10
     try clear c15
     try clear c15b0
     try clear c16
     try clear c16b0
     try clear c17
     try clear c17b0
     try clear c21
     try clear c22
     try clear hcz13_0
     try clear hcz13_1
     try clear hcz20_0
     try clear hcz20_1
     try clear hcz21_0
     try clear hcz21_1
     try clear hcz22_0
     try clear hcz22_1
     try clear hcz8_0
     try clear hcz8_1
     try clear hcz9_0
     try clear hcz9_1
     try clear hfz13_0
     try clear hfz13_1
     try clear hfz20_0
     try clear hfz20_1
     try clear hfz21_0
     try clear hfz21_1
     try clear hfz22_0
     try clear hfz22_1
     try clear hfz8_0
     try clear hfz8_1
     try clear hfz9_0
     try clear hfz9_1
     try clear hx531_0
     try clear hx531_1
     try clear hx531_2
     try clear hx531_3
     try clear p2
     try clear p531
     try clear q531
     obtain ⟨kq, x8_11, rfl, HA, HJ11, HO_6, BK525, HB⟩ := hcut
     cases kq with
     | zero => exact absurd HA.out (by simp [gaiterlaw14_IndexBack.j2])
     | succ kj11 =>
      have H := HA.out
      clear HA
      simp only [gaiterlaw14_IndexBack.j2] at H
      have HC23 := Aside0.mk H
      clear H
      go_upto_region 10 with (fail)
      go_cut [66] (fun v66 wc => ∃ (kq : Nat) (x66_22 : Bool), v66 = .bool x66_22 ∧ Aside0 (gaiterlaw14_IndexBack.j3 kq l1 t526 t527 x8_11 x66_22 a0_0 l0_1 = some r) ∧ Aside0 (kq ≤ kj11) ∧ Aside0 (Kd.R (Kd.int .u8) 5 wc w.heap.size (fun _ => True) v528 t527) ∧ Aside0 (wc.heap[gb525]? = some (.cells #[.int .i64 a0_0, (.slice A0_1 l0_1.length c0_1)] 53 (0, 0))) ∧ Aside0 (Below w.heap.size w wc))
      case first =>
       have H := HC23.out
       clear HC23
       rcases t530 with _ | q532
       ·have H1 : (gaiterlaw14_IndexBack.j3 kj11 l1 t526 t527 x8_11 (decide (x8_11 < 10000)) a0_0 l0_1) = some r := by rw [if_pos (show (none : Option Int).isNone = true by rfl)] at H; exact H
        clear H
        have H := H1
        clear H1
        try simp only [errW_none, errW_some]
        have H' := Aside0.mk H
        clear H
        go_wp2
        go_meet
        case rel => exact ⟨_, (decide (x8_11 < 10000)), (by first | rfl | (simp; done) | (simp [*]; done)), H', ⟨by have := HJ3.out; have := HJ11.out; first | omega | exact Nat.le_refl _⟩, ⟨kr HO_6⟩, ⟨kb BK525⟩, ⟨(kl HB)⟩⟩
       ·have H1 : (gaiterlaw14_IndexBack.j3 kj11 l1 t526 t527 x8_11 false a0_0 l0_1) = some r := by rw [if_neg (show ¬ (some q532).isNone = true by simp)] at H; exact H
        clear H
        have H := H1
        clear H1
        try simp only [errW_none, errW_some]
        have H' := Aside0.mk H
        clear H
        go_wp2
        go_meet
        case rel => exact ⟨_, (false), (by first | rfl | (simp; done) | (simp [*]; done)), H', ⟨by have := HJ3.out; have := HJ11.out; first | omega | exact Nat.le_refl _⟩, ⟨kr HO_6⟩, ⟨kb BK525⟩, ⟨(kl HB)⟩⟩
      case rest =>
       as_aux_lemma =>
       clear HC23
       try clear c1
       try clear c2
       try clear p2
       try clear p5
       try clear q5
       try clear hx5
       try clear c6
       try clear p6
       try clear c7
       try clear c7b0
       try clear c7b1
       try clear c10
       try clear c15
       try clear c15b0
       try clear c16
       try clear c16b0
       try clear c17
       try clear c17b0
       try clear c21
       try clear c22
       try clear hcz13_0
       try clear hcz13_1
       try clear hcz20_0
       try clear hcz20_1
       try clear hcz21_0
       try clear hcz21_1
       try clear hcz22_0
       try clear hcz22_1
       try clear hcz8_0
       try clear hcz8_1
       try clear hcz9_0
       try clear hcz9_1
       try clear hfz13_0
       try clear hfz13_1
       try clear hfz20_0
       try clear hfz20_1
       try clear hfz21_0
       try clear hfz21_1
       try clear hfz22_0
       try clear hfz22_1
       try clear hfz8_0
       try clear hfz8_1
       try clear hfz9_0
       try clear hfz9_1
       try clear hx531_0
       try clear hx531_1
       try clear hx531_2
       try clear hx531_3
       try clear p2
       try clear p5
       try clear p531
       try clear p6
       try clear q5
       try clear q531
       try clear q532
       obtain ⟨kq, x66_22, rfl, HA, HJ22, HO_6, BK525, HB⟩ := hcut
       cases kq with
       | zero => exact absurd HA.out (by simp [gaiterlaw14_IndexBack.j3])
       | succ kj22 =>
        have H := HA.out
        clear HA
        simp only [gaiterlaw14_IndexBack.j3] at H
        have HC24 := Aside0.mk H
        clear H
        go_upto_if 66 with (fail)
        go_cut [] (fun wc => ∃ (kq : Nat), Aside0 (gaiterlaw14_IndexBack.j5 kq l1 t526 = some r) ∧ Aside0 (kq ≤ kj22) ∧ Aside0 (wc.heap[gb525]? = some (.cells #[.int .i64 a0_0, (.slice A0_1 l0_1.length c0_1)] 53 (0, 0))) ∧ Aside0 (Below w.heap.size w wc))
        case first =>
         as_aux_lemma =>
         have H := HC24.out
         clear HC24
         by_cases c25 : x66_22 = true
         ·subst c25
          have H1 : ((some (([] : List Int) : List Int)).bind fun y533 => (if y533.length + t527.length < 140737488355328 then ((some (y533 ++ t527 : List Int)).bind fun y536 => (if 0 ≤ x8_11 then (if y536.length + (x8_11 : Int).toNat < 140737488355328 then ((index_Get.f kj22 (y536 ++ List.replicate (x8_11 : Int).toNat 0)).bind fun bt542 => ((some (([] : List Int) : List Int)).bind fun y549 => (if y549.length + t527.length < 140737488355328 then ((some (y549 ++ t527 : List Int)).bind fun y552 => (if 0 ≤ (wrap64 (x8_11 + 1)) then (if y552.length + (wrap64 (x8_11 + 1) : Int).toNat < 140737488355328 then ((index_Get.f kj22 (y552 ++ List.replicate (wrap64 (x8_11 + 1) : Int).toNat 0)).bind fun bt558 => (if bt542.2.2.2.isNone = true then (if bt542.2.2.1 = (t527.length : Int) then (if bt542.1 = a0_0 then ((gaiterlaw14_list.f kj22 bt542.2.1).bind fun t566 => ((gaiterlaw14_list.f kj22 l0_1).bind fun t569 => ((gaiterlaw14_same.f kj22 t566 t569).bind fun t572 => (if t572 = 0 then (gaiterlaw14_IndexBack.j4 kj22 l1 t526 t527 x8_11 true) else ((gaiterlaw00_Code.f bt558.2.2.2).bind fun t573 => (gaiterlaw14_IndexBack.j4 kj22 l1 t526 t527 x8_11 (t573 != 8))))))) else (gaiterlaw14_IndexBack.j4 kj22 l1 t526 t527 x8_11 true)) else (gaiterlaw14_IndexBack.j4 kj22 l1 t526 t527 x8_11 true)) else (gaiterlaw14_IndexBack.j4 kj22 l1 t526 t527 x8_11 true))) else (none)) else (none))) else (none)))) else (none)) else (none))) else (none))) = some r := by rw [if_pos rfl] at H; exact H
          clear H
          have H := H1
          clear H1
          obtain ⟨y533, hy533⟩ : ∃ y_ : List Int, y_ = (([] : List Int)) := ⟨_, rfl⟩
          replace H : (if y533.length + t527.length < 140737488355328 then ((some (y533 ++ t527 : List Int)).bind fun y536 => (if 0 ≤ x8_11 then (if y536.length + (x8_11 : Int).toNat < 140737488355328 then ((index_Get.f kj22 (y536 ++ List.replicate (x8_11 : Int).toNat 0)).bind fun bt542 => ((some (([] : List Int) : List Int)).bind fun y549 => (if y549.length + t527.length < 140737488355328 then ((some (y549 ++ t527 : List Int)).bind fun y552 => (if 0 ≤ (wrap64 (x8_11 + 1)) then (if y552.length + (wrap64 (x8_11 + 1) : Int).toNat < 140737488355328 then ((index_Get.f kj22 (y552 ++ List.replicate (wrap64 (x8_11 + 1) : Int).toNat 0)).bind fun bt558 => (if bt542.2.2.2.isNone = true then (if bt542.2.2.1 = (t527.length : Int) then (if bt542.1 = a0_0 then ((gaiterlaw14_list.f kj22 bt542.2.1).bind fun t566 => ((gaiterlaw14_list.f kj22 l0_1).bind fun t569 => ((gaiterlaw14_same.f kj22 t566 t569).bind fun t572 => (if t572 = 0 then (gaiterlaw14_IndexBack.j4 kj22 l1 t526 t527 x8_11 true) else ((gaiterlaw00_Code.f bt558.2.2.2).bind fun t573 => (gaiterlaw14_IndexBack.j4 kj22 l1 t526 t527 x8_11 (t573 != 8))))))) else (gaiterlaw14_IndexBack.j4 kj22 l1 t526 t527 x8_11 true)) else (gaiterlaw14_IndexBack.j4 kj22 l1 t526 t527 x8_11 true)) else (gaiterlaw14_IndexBack.j4 kj22 l1 t526 t527 x8_11 true))) else (none)) else (none))) else (none)))) else (none)) else (none))) else (none)) = some r := by first | (rw [hy533]; with_reducible exact H) | (have H2_ := (Option.bind_some _ _).symm.trans H; rw [hy533]; with_reducible exact H2_) | (have H2_ := (Option.bind_some _ _).symm.trans H; with_reducible exact H2_) | with_reducible exact H | (rw [hy533]; exact H) | exact H
          have Ny533 := Aside0.mk hy533
          clear hy533
          by_cases c26 : y533.length + t527.length < 140737488355328
          ·as_aux_lemma =>
           rw [if_pos c26] at H
           have LMc26 := Aside0.mk c26
           clear c26
           obtain ⟨y536, hy536⟩ : ∃ y_ : List Int, y_ = (y533 ++ t527) := ⟨_, rfl⟩
           replace H : (if 0 ≤ x8_11 then (if y536.length + (x8_11 : Int).toNat < 140737488355328 then ((index_Get.f kj22 (y536 ++ List.replicate (x8_11 : Int).toNat 0)).bind fun bt542 => ((some (([] : List Int) : List Int)).bind fun y549 => (if y549.length + t527.length < 140737488355328 then ((some (y549 ++ t527 : List Int)).bind fun y552 => (if 0 ≤ (wrap64 (x8_11 + 1)) then (if y552.length + (wrap64 (x8_11 + 1) : Int).toNat < 140737488355328 then ((index_Get.f kj22 (y552 ++ List.replicate (wrap64 (x8_11 + 1) : Int).toNat 0)).bind fun bt558 => (if bt542.2.2.2.isNone = true then (if bt542.2.2.1 = (t527.length : Int) then (if bt542.1 = a0_0 then ((gaiterlaw14_list.f kj22 bt542.2.1).bind fun t566 => ((gaiterlaw14_list.f kj22 l0_1).bind fun t569 => ((gaiterlaw14_same.f kj22 t566 t569).bind fun t572 => (if t572 = 0 then (gaiterlaw14_IndexBack.j4 kj22 l1 t526 t527 x8_11 true) else ((gaiterlaw00_Code.f bt558.2.2.2).bind fun t573 => (gaiterlaw14_IndexBack.j4 kj22 l1 t526 t527 x8_11 (t573 != 8))))))) else (gaiterlaw14_IndexBack.j4 kj22 l1 t526 t527 x8_11 true)) else (gaiterlaw14_IndexBack.j4 kj22 l1 t526 t527 x8_11 true)) else (gaiterlaw14_IndexBack.j4 kj22 l1 t526 t527 x8_11 true))) else (none)) else (none))) else (none)))) else (none)) else (none)) = some r := by first | (rw [hy536]; with_reducible exact H) | (have H2_ := (Option.bind_some _ _).symm.trans H; rw [hy536]; with_reducible exact H2_) | (have H2_ := (Option.bind_some _ _).symm.trans H; with_reducible exact H2_) | with_reducible exact H | (rw [hy536]; exact H) | exact H
           have Ny536 := Aside0.mk hy536
           clear hy536
           by_cases c27 : 0 ≤ x8_11
           ·as_aux_lemma =>
            rw [if_pos c27] at H
            have c27b0 := eq_true c27
            have c27b1 : decide (0 ≤ x8_11) = true := decide_eq_true c27
            clear c27
            by_cases c28 : y536.length + (x8_11 : Int).toNat < 140737488355328
            ·as_aux_lemma =>
             rw [if_pos c28] at H
             have LMc28 := Aside0.mk c28
             clear c28
             obtain ⟨y539, hy539⟩ : ∃ y_ : List Int, y_ = (y536 ++ List.replicate (x8_11 : Int).toNat 0) := ⟨_, rfl⟩
             replace H : ((index_Get.f kj22 y539).bind fun bt542 => ((some (([] : List Int) : List Int)).bind fun y549 => (if y549.length + t527.length < 140737488355328 then ((some (y549 ++ t527 : List Int)).bind fun y552 => (if 0 ≤ (wrap64 (x8_11 + 1)) then (if y552.length + (wrap64 (x8_11 + 1) : Int).toNat < 140737488355328 then ((index_Get.f kj22 (y552 ++ List.replicate (wrap64 (x8_11 + 1) : Int).toNat 0)).bind fun bt558 => (if bt542.2.2.2.isNone = true then (if bt542.2.2.1 = (t527.length : Int) then (if bt542.1 = a0_0 then ((gaiterlaw14_list.f kj22 bt542.2.1).bind fun t566 => ((gaiterlaw14_list.f kj22 l0_1).bind fun t569 => ((gaiterlaw14_same.f kj22 t566 t569).bind fun t572 => (if t572 = 0 then (gaiterlaw14_IndexBack.j4 kj22 l1 t526 t527 x8_11 true) else ((gaiterlaw00_Code.f bt558.2.2.2).bind fun t573 => (gaiterlaw14_IndexBack.j4 kj22 l1 t526 t527 x8_11 (t573 != 8))))))) else (gaiterlaw14_IndexBack.j4 kj22 l1 t526 t527 x8_11 true)) else (gaiterlaw14_IndexBack.j4 kj22 l1 t526 t527 x8_11 true)) else (gaiterlaw14_IndexBack.j4 kj22 l1 t526 t527 x8_11 true))) else (none)) else (none))) else (none)))) = some r := by first | (rw [hy539]; with_reducible exact H) | (have H2_ := (Option.bind_some _ _).symm.trans H; rw [hy539]; with_reducible exact H2_) | (have H2_ := (Option.bind_some _ _).symm.trans H; with_reducible exact H2_) | with_reducible exact H | (rw [hy539]; exact H) | exact H
             have Ny539 := Aside0.mk hy539
             clear hy539
             replace H := Option.bind_eq_some_iff.mp H
             obtain ⟨⟨t542, t543, t546, t547⟩, A290, H⟩ := H
             replace H : ((some (([] : List Int) : List Int)).bind fun y549 => (if y549.length + t527.length < 140737488355328 then ((some (y549 ++ t527 : List Int)).bind fun y552 => (if 0 ≤ (wrap64 (x8_11 + 1)) then (if y552.length + (wrap64 (x8_11 + 1) : Int).toNat < 140737488355328 then ((index_Get.f kj22 (y552 ++ List.replicate (wrap64 (x8_11 + 1) : Int).toNat 0)).bind fun bt558 => (if t547.isNone = true then (if t546 = (t527.length : Int) then (if t542 = a0_0 then ((gaiterlaw14_list.f kj22 t543).bind fun t566 => ((gaiterlaw14_list.f kj22 l0_1).bind fun t569 => ((gaiterlaw14_same.f kj22 t566 t569).bind fun t572 => (if t572 = 0 then (gaiterlaw14_IndexBack.j4 kj22 l1 t526 t527 x8_11 true) else ((gaiterlaw00_Code.f bt558.2.2.2).bind fun t573 => (gaiterlaw14_IndexBack.j4 kj22 l1 t526 t527 x8_11 (t573 != 8))))))) else (gaiterlaw14_IndexBack.j4 kj22 l1 t526 t527 x8_11 true)) else (gaiterlaw14_IndexBack.j4 kj22 l1 t526 t527 x8_11 true)) else (gaiterlaw14_IndexBack.j4 kj22 l1 t526 t527 x8_11 true))) else (none)) else (none))) else (none))) = some r := H
             have A29 := Aside0.mk A290
             clear A290
             obtain ⟨y549, hy549⟩ : ∃ y_ : List Int, y_ = (([] : List Int)) := ⟨_, rfl⟩
             replace H : (if y549.length + t527.length < 140737488355328 then ((some (y549 ++ t527 : List Int)).bind fun y552 => (if 0 ≤ (wrap64 (x8_11 + 1)) then (if y552.length + (wrap64 (x8_11 + 1) : Int).toNat < 140737488355328 then ((index_Get.f kj22 (y552 ++ List.replicate (wrap64 (x8_11 + 1) : Int).toNat 0)).bind fun bt558 => (if t547.isNone = true then (if t546 = (t527.length : Int) then (if t542 = a0_0 then ((gaiterlaw14_list.f kj22 t543).bind fun t566 => ((gaiterlaw14_list.f kj22 l0_1).bind fun t569 => ((gaiterlaw14_same.f kj22 t566 t569).bind fun t572 => (if t572 = 0 then (gaiterlaw14_IndexBack.j4 kj22 l1 t526 t527 x8_11 true) else ((gaiterlaw00_Code.f bt558.2.2.2).bind fun t573 => (gaiterlaw14_IndexBack.j4 kj22 l1 t526 t527 x8_11 (t573 != 8))))))) else (gaiterlaw14_IndexBack.j4 kj22 l1 t526 t527 x8_11 true)) else (gaiterlaw14_IndexBack.j4 kj22 l1 t526 t527 x8_11 true)) else (gaiterlaw14_IndexBack.j4 kj22 l1 t526 t527 x8_11 true))) else (none)) else (none))) else (none)) = some r := by first | (rw [hy549]; with_reducible exact H) | (have H2_ := (Option.bind_some _ _).symm.trans H; rw [hy549]; with_reducible exact H2_) | (have H2_ := (Option.bind_some _ _).symm.trans H; with_reducible exact H2_) | with_reducible exact H | (rw [hy549]; exact H) | exact H
             have Ny549 := Aside0.mk hy549
             clear hy549
             by_cases c30 : y549.length + t527.length < 140737488355328
             ·as_aux_lemma =>
              rw [if_pos c30] at H
              have LMc30 := Aside0.mk c30
              clear c30
              obtain ⟨y552, hy552⟩ : ∃ y_ : List Int, y_ = (y549 ++ t527) := ⟨_, rfl⟩
              replace H : (if 0 ≤ (wrap64 (x8_11 + 1)) then (if y552.length + (wrap64 (x8_11 + 1) : Int).toNat < 140737488355328 then ((index_Get.f kj22 (y552 ++ List.replicate (wrap64 (x8_11 + 1) : Int).toNat 0)).bind fun bt558 => (if t547.isNone = true then (if t546 = (t527.length : Int) then (if t542 = a0_0 then ((gaiterlaw14_list.f kj22 t543).bind fun t566 => ((gaiterlaw14_list.f kj22 l0_1).bind fun t569 => ((gaiterlaw14_same.f kj22 t566 t569).bind fun t572 => (if t572 = 0 then (gaiterlaw14_IndexBack.j4 kj22 l1 t526 t527 x8_11 true) else ((gaiterlaw00_Code.f bt558.2.2.2).bind fun t573 => (gaiterlaw14_IndexBack.j4 kj22 l1 t526 t527 x8_11 (t573 != 8))))))) else (gaiterlaw14_IndexBack.j4 kj22 l1 t526 t527 x8_11 true)) else (gaiterlaw14_IndexBack.j4 kj22 l1 t526 t527 x8_11 true)) else (gaiterlaw14_IndexBack.j4 kj22 l1 t526 t527 x8_11 true))) else (none)) else (none)) = some r := by first | (rw [hy552]; with_reducible exact H) | (have H2_ := (Option.bind_some _ _).symm.trans H; rw [hy552]; with_reducible exact H2_) | (have H2_ := (Option.bind_some _ _).symm.trans H; with_reducible exact H2_) | with_reducible exact H | (rw [hy552]; exact H) | exact H
              have Ny552 := Aside0.mk hy552
              clear hy552
              obtain ⟨ji31, hji31⟩ : ∃ j_ : Int, (wrap64 (x8_11 + 1)) = j_ := ⟨_, rfl⟩
              replace H : (if 0 ≤ (ji31) then (if y552.length + (ji31 : Int).toNat < 140737488355328 then ((index_Get.f kj22 (y552 ++ List.replicate (ji31 : Int).toNat 0)).bind fun bt558 => (if t547.isNone = true then (if t546 = (t527.length : Int) then (if t542 = a0_0 then ((gaiterlaw14_list.f kj22 t543).bind fun t566 => ((gaiterlaw14_list.f kj22 l0_1).bind fun t569 => ((gaiterlaw14_same.f kj22 t566 t569).bind fun t572 => (if t572 = 0 then (gaiterlaw14_IndexBack.j4 kj22 l1 t526 t527 x8_11 true) else ((gaiterlaw00_Code.f bt558.2.2.2).bind fun t573 => (gaiterlaw14_IndexBack.j4 kj22 l1 t526 t527 x8_11 (t573 != 8))))))) else (gaiterlaw14_IndexBack.j4 kj22 l1 t526 t527 x8_11 true)) else (gaiterlaw14_IndexBack.j4 kj22 l1 t526 t527 x8_11 true)) else (gaiterlaw14_IndexBack.j4 kj22 l1 t526 t527 x8_11 true))) else (none)) else (none)) = some r := by first | (rw [hji31] at H; exact H) | (simp only [hji31] at H ⊢; exact H)
              (try rw [hji31] at A29)
              have hji31w : (IntKind.i64.wrap (x8_11 + 1)) = ji31 := (i64_w _).trans hji31
              by_cases c32 : 0 ≤ (ji31)
              ·as_aux_lemma =>
               rw [if_pos c32] at H
               have c32b0 := eq_true c32
               have c32b1 : decide (0 ≤ (ji31)) = true := decide_eq_true c32
               clear c32
               by_cases c33 : y552.length + (ji31 : Int).toNat < 140737488355328
               ·as_aux_lemma =>
                rw [if_pos c33] at H
                have LMc33 := Aside0.mk c33
                clear c33
                obtain ⟨y555, hy555⟩ : ∃ y_ : List Int, y_ = (y552 ++ List.replicate (ji31 : Int).toNat 0) := ⟨_, rfl⟩
                replace H : ((index_Get.f kj22 y555).bind fun bt558 => (if t547.isNone = true then (if t546 = (t527.length : Int) then (if t542 = a0_0 then ((gaiterlaw14_list.f kj22 t543).bind fun t566 => ((gaiterlaw14_list.f kj22 l0_1).bind fun t569 => ((gaiterlaw14_same.f kj22 t566 t569).bind fun t572 => (if t572 = 0 then (gaiterlaw14_IndexBack.j4 kj22 l1 t526 t527 x8_11 true) else ((gaiterlaw00_Code.f bt558.2.2.2).bind fun t573 => (gaiterlaw14_IndexBack.j4 kj22 l1 t526 t527 x8_11 (t573 != 8))))))) else (gaiterlaw14_IndexBack.j4 kj22 l1 t526 t527 x8_11 true)) else (gaiterlaw14_IndexBack.j4 kj22 l1 t526 t527 x8_11 true)) else (gaiterlaw14_IndexBack.j4 kj22 l1 t526 t527 x8_11 true))) = some r := by first | (rw [hy555]; with_reducible exact H) | (have H2_ := (Option.bind_some _ _).symm.trans H; rw [hy555]; with_reducible exact H2_) | (have H2_ := (Option.bind_some _ _).symm.trans H; with_reducible exact H2_) | with_reducible exact H | (rw [hy555]; exact H) | exact H
                have Ny555 := Aside0.mk hy555
                clear hy555
                replace H := Option.bind_eq_some_iff.mp H
                obtain ⟨⟨t558, t559, t562, t563⟩, A340, H⟩ := H
                replace H : (if t547.isNone = true then (if t546 = (t527.length : Int) then (if t542 = a0_0 then ((gaiterlaw14_list.f kj22 t543).bind fun t566 => ((gaiterlaw14_list.f kj22 l0_1).bind fun t569 => ((gaiterlaw14_same.f kj22 t566 t569).bind fun t572 => (if t572 = 0 then (gaiterlaw14_IndexBack.j4 kj22 l1 t526 t527 x8_11 true) else ((gaiterlaw00_Code.f t563).bind fun t573 => (gaiterlaw14_IndexBack.j4 kj22 l1 t526 t527 x8_11 (t573 != 8))))))) else (gaiterlaw14_IndexBack.j4 kj22 l1 t526 t527 x8_11 true)) else (gaiterlaw14_IndexBack.j4 kj22 l1 t526 t527 x8_11 true)) else (gaiterlaw14_IndexBack.j4 kj22 l1 t526 t527 x8_11 true)) = some r := H
                have A34 := Aside0.mk A340
                clear A340
                have HC35 := Aside0.mk H
                clear H
                go_upto_region 13 with (first | ((with_reducible refine gate_dst (N := 68) rfl ?_); (try (refine gate_guard (by rfl) ?_; dsimp only)); refine Kd.R_lit (Kd.int .u8) _ 5 ?hg (N := 68) ?hd (xs := ([] : List Int)) (inner := []) (ok := fun _ => True) (okp := fun _ => True) ?hr ?hp (fun _ hk => hk) trivial (Below.refl _ _) (Nat.le_refl _) (by simp) ?_; (case hd => rfl); (case hg => rfl); (case hr => first | (go_simp; done) | (go_simp; rfl)); (case hp => exact (Reps.none _ _)); intro v534 w36 ho37 hb hg_ hnew_; clear hg_ hnew_; (first | rw [← Ny533.out] at ho37 | (simp only [Int.reduceToNat] at ho37; rw [← Ny533.out] at ho37)); have HO535 := Aside0.mk (Kd.R_lower (Kd.R_new' ho37 (Kd.R_lt (kr HO_6))) (below_size (kl HB))); replace HO_6 := Aside0.mk (Kd.R_elder' (kr HO_6) (Kd.R_base ho37) hb); replace BK525 := kB BK525 hb; replace HB := kH HB hb; clear hb ho37; obtain ⟨Ao39, co39, eo39⟩ := Kd.R_slice HO_6.out; subst eo39) | ((with_reducible refine gate_builtin (b := .append) (xs := #[.tmp 68, .tmp 69]) rfl ?_); (try (refine gate_guard (by rfl) ?_; dsimp only)); at_builtin; refine Kd.R_append_rows (Kd.int .u8) (w0 := w) w.heap.size rfl (.tmp 68) (.tmp 69) 54 5 (.int .u8 0) 1 rfl Try.underlying54 info5 rfl (by decide) (by omega) v534 y533 t527 _ _ _ (fun k_ => some k_ ≠ (.slice Ao39 t527.length co39 : Value).ownBlock) (fun _ => False) rfl rfl ?aO ?aR (fun _ _ h => h) (fun _ h => h.elim) ?aF ?aB ?aS ?aL ?_; (case aR => repeat (first | exact (Kd.R_reads' HO_6.out).2.2 | (with_reducible refine Kd.C_alloc ?_ _) | (with_reducible refine Kd.C_drewN ?_ _) | (with_reducible refine Kd.C_drew ?_))); (case aB => exact (kl HB)); (case aF => exact (fun k_ hk => Kd.fresh' (Kd.R_lt (kr HO_6)) k_ hk)); (case aO => exact (by (with_reducible repeat (first | apply Kd.R_alloc | apply Kd.R_drewN | apply Kd.R_drew)); exact Kd.R_mono HO535.out (fun _ hk => hk.2))); (case aS => exact (below_size (kl HB))); (case aL => have := LMc26.out; omega); intro v537 w38 ho hb hg hat; rw [← Ny536.out] at ho; have n0_ := Aside0.mk (Kd.R_after (ok := (fun _ => True)) (kr HO_6) hg hat); have n1_ := Aside0.mk (blk_grown (g := gb525) (o := .cells #[.int .i64 a0_0, .slice A0_1 l0_1.length c0_1] 53 (0, 0)) (kb BK525) hg (Kd.R_ne HO535.out BK525.out (by decide))); have n2_ := Aside0.mk (hb); have n3_ := Aside0.mk (ho); clear HO_6; clear BK525; clear HB; clear HO535; have HO_6 := n0_; have BK525 := n1_; have HB := n2_; have HO538 := n3_; clear n0_ n1_ n2_ n3_; clear ho hb hg hat) | (at_builtin; refine Kd.R_append_zeros (Kd.int .u8) (w0 := w) w.heap.size rfl (.tmp 70) (.tmp 71) 54 3 5 (.int .u8 0) 1 rfl Try.underlying54 Try.underlying3 info5 rfl (by decide) (by omega) v537 y536 0 (x8_11 : Int) (fun k_ => some k_ ≠ (.slice Ao39 t527.length co39 : Value).ownBlock) rfl rfl rfl ?aF ?aO (of_decide_eq_true (by first | (with_reducible assumption) | assumption)) ?aB ?aS ?aL ?_; (case aB => exact (kl HB)); (case aF => exact (fun k_ hk => Kd.fresh' (Kd.R_lt (kr HO_6)) k_ hk)); (case aO => exact (kr HO538)); (case aS => exact (below_size (kl HB))); (case aL => have := LMc28.out; omega); intro v540 w40 ho hb hg hat; (try simp only [Int.reduceToNat] at ho); rw [← Ny539.out] at ho; have n0_ := Aside0.mk (Kd.R_after (ok := (fun _ => True)) (kr HO_6) hg hat); have n1_ := Aside0.mk (blk_grown (g := gb525) (o := .cells #[.int .i64 a0_0, .slice A0_1 l0_1.length c0_1] 53 (0, 0)) (kb BK525) hg (Kd.R_ne HO538.out BK525.out (by decide))); have n2_ := Aside0.mk (hb); have n3_ := Aside0.mk (ho); clear HO_6; clear BK525; clear HB; clear HO538; have HO_6 := n0_; have BK525 := n1_; have HB := n2_; have HO541 := n3_; clear n0_ n1_ n2_ n3_; clear ho hb hg hat; obtain ⟨Ao41, co41, eo41⟩ := Kd.R_slice HO541.out; subst eo41) | ((with_reducible refine gate_callee (f := 27) rfl ?_); refine goesL_ (some 73) rfl rfl Try.func27 (by kernel_rfl) rfl #[.slice Ao41 y539.length co41] rfl km ?_; (with_reducible refine (index_Get.calls kj22 _ _ y539 t542 t543 t546 t547 _ ?side1 ?side2 A29.out).mono ?_); (case side1 => repeat (first | exact (Kd.R_reads' HO541.out).2.2 | (with_reducible refine Kd.C_alloc ?_ _) | (with_reducible refine Kd.C_drewN ?_ _) | (with_reducible refine Kd.C_drew ?_))); (case side2 => exact (Kd.R_reads' HO541.out).2.1); rintro e w42 ⟨v544, rfl, ho0, hb⟩; refine ⟨_, rfl, ?_⟩; replace HO_6 := Aside0.mk (Kd.R_below (kr HO_6) hb); replace HO541 := Aside0.mk (Kd.R_below (kr HO541) hb); have HO545 := Aside0.mk (Kd.R_lower ho0 (below_size (kl HB))); replace BK525 := kB BK525 hb; replace HB := kH HB hb; (try clear hb); (try clear hb2); (try clear hk); (try clear hi); (try clear ho0); (try simp only [errW_none, errW_some])) | ((with_reducible refine gate_dst (N := 10) rfl ?_); (try (refine gate_guard (by rfl) ?_; dsimp only)); refine box_event ?hg (N := 10) ?hd (cs := #[.int .i64 0, .slice none 0 0]) (t := 53) ?hr ?_; (case hd => rfl); (case hg => rfl); (case hr => first | (go_simp; done) | (go_simp; rfl)); intro gb548 hg w43 hbox hb; replace HO_6 := Aside0.mk (Kd.R_below (kr HO_6) hb); replace HO541 := Aside0.mk (Kd.R_below (kr HO541) hb); replace HO545 := Aside0.mk (Kd.R_below (kr HO545) hb); have BK548 := Aside0.mk (hbox); have GW548 := kG hg HB; have GE548 := kG hg HB; replace HB := kH HB hb; obtain ⟨NB525_548, NB548_525⟩ := kN hg BK525; replace BK525 := kB BK525 hb; clear hb hbox hg; have hnb44 := NB548_525.out; have hnc44 := NB525_548.out; have hcz45_0 : w43.cell? ⟨gb548, 0, none⟩ = some (.int .i64 0) := (blk_cell BK548.out 0).trans rfl; have hcz45_1 : w43.cell? ⟨gb548, 1, none⟩ = some (.slice none 0 0) := (blk_cell BK548.out 1).trans rfl; have hfz45_0 := blk_frozen BK548.out 0; have hfz45_1 := blk_frozen BK548.out 1; obtain ⟨Ao46, co46, eo46⟩ := Kd.R_slice HO545.out; subst eo46) | ((with_reducible refine gate_dst (N := 78) rfl ?_); (try (refine gate_guard (by rfl) ?_; dsimp only)); refine Kd.R_lit (Kd.int .u8) _ 5 ?hg (N := 78) ?hd (xs := ([] : List Int)) (inner := []) (ok := fun _ => True) (okp := fun _ => True) ?hr ?hp (fun _ hk => hk) trivial (Below.refl _ _) (Nat.le_refl _) (by simp) ?_; (case hd => rfl); (case hg => rfl); (case hr => first | (go_simp; done) | (go_simp; rfl)); (case hp => exact (Reps.none _ _)); intro v550 w47 ho48 hb hg_ hnew_; clear hg_ hnew_; (first | rw [← Ny549.out] at ho48 | (simp only [Int.reduceToNat] at ho48; rw [← Ny549.out] at ho48)); replace HO545 := Aside0.mk (Kd.R_below (by (with_reducible repeat (first | apply Kd.R_alloc | apply Kd.R_drewN | apply Kd.R_drew)); exact (Kd.R_mono (Kd.R_far (p := ⟨gb548, 1, none⟩) (Kd.R_far (p := ⟨gb548, 0, none⟩) (Kd.R_types HO545.out BK548.out (by decide)) (fun _ hk => hk.2) (.int .i64 t542)) (fun _ hk => hk.2) (.slice Ao46 t543.length co46)) (fun _ h_ => h_.1))) hb); have HO551 := Aside0.mk (Kd.R_lower (Kd.R_new' (Kd.R_new' ho48 (Kd.R_lt (by (with_reducible repeat (first | apply Kd.R_alloc | apply Kd.R_drewN | apply Kd.R_drew)); exact (Kd.R_mono (Kd.R_far (p := ⟨gb548, 1, none⟩) (Kd.R_far (p := ⟨gb548, 0, none⟩) (Kd.R_types HO_6.out BK548.out (by decide)) (fun _ hk => hk.2) (.int .i64 t542)) (fun _ hk => hk.2) (.slice Ao46 t543.length co46)) (fun _ h_ => h_.1))))) (Kd.R_lt (by (with_reducible repeat (first | apply Kd.R_alloc | apply Kd.R_drewN | apply Kd.R_drew)); exact (Kd.R_mono (Kd.R_far (p := ⟨gb548, 1, none⟩) (Kd.R_far (p := ⟨gb548, 0, none⟩) (Kd.R_types HO541.out BK548.out (by decide)) (fun _ hk => hk.2) (.int .i64 t542)) (fun _ hk => hk.2) (.slice Ao46 t543.length co46)) (fun _ h_ => h_.1))))) (below_size (kl HB))); replace HO_6 := Aside0.mk (Kd.R_elder' (by (with_reducible repeat (first | apply Kd.R_alloc | apply Kd.R_drewN | apply Kd.R_drew)); exact (Kd.R_mono (Kd.R_far (p := ⟨gb548, 1, none⟩) (Kd.R_far (p := ⟨gb548, 0, none⟩) (Kd.R_types HO_6.out BK548.out (by decide)) (fun _ hk => hk.2) (.int .i64 t542)) (fun _ hk => hk.2) (.slice Ao46 t543.length co46)) (fun _ h_ => h_.1))) (Kd.R_base ho48) hb); replace HO541 := Aside0.mk (Kd.R_elder' (by (with_reducible repeat (first | apply Kd.R_alloc | apply Kd.R_drewN | apply Kd.R_drew)); exact (Kd.R_mono (Kd.R_far (p := ⟨gb548, 1, none⟩) (Kd.R_far (p := ⟨gb548, 0, none⟩) (Kd.R_types HO541.out BK548.out (by decide)) (fun _ hk => hk.2) (.int .i64 t542)) (fun _ hk => hk.2) (.slice Ao46 t543.length co46)) (fun _ h_ => h_.1))) (Kd.R_base ho48) hb); replace BK525 := Aside0.mk (blk_below (g := gb525) (o := .cells #[.int .i64 a0_0, .slice A0_1 l0_1.length c0_1] 53 (0, 0)) (kb BK525) hb); replace BK548 := Aside0.mk (blk_below (g := gb548) (o := .cells #[.int .i64 t542, .slice Ao46 t543.length co46] 53 (0, 0)) (kb BK548) hb); replace HB := kH HB hb; clear hb ho48) | ((with_reducible refine gate_builtin (b := .append) (xs := #[.tmp 78, .tmp 79]) rfl ?_); (try (refine gate_guard (by rfl) ?_; dsimp only)); at_builtin; refine Kd.R_append_rows (Kd.int .u8) (w0 := w) w.heap.size rfl (.tmp 78) (.tmp 79) 54 5 (.int .u8 0) 1 rfl Try.underlying54 info5 rfl (by decide) (by omega) v550 y549 t527 _ _ _ (fun k_ => some k_ ≠ (.slice Ao39 t527.length co39 : Value).ownBlock ∧ some k_ ≠ (.slice Ao41 y539.length co41 : Value).ownBlock) (fun _ => False) rfl rfl ?aO ?aR (fun _ _ h => h) (fun _ h => h.elim) ?aF ?aB ?aS ?aL ?_; (case aR => repeat (first | exact (Kd.R_reads' HO_6.out).2.2 | (with_reducible refine Kd.C_alloc ?_ _) | (with_reducible refine Kd.C_drewN ?_ _) | (with_reducible refine Kd.C_drew ?_))); (case aB => exact (kl HB)); (case aF => exact (fun k_ hk => ⟨Kd.fresh' (Kd.R_lt (kr HO_6)) k_ hk, Kd.fresh' (Kd.R_lt (kr HO541)) k_ hk⟩)); (case aO => exact (by (with_reducible repeat (first | apply Kd.R_alloc | apply Kd.R_drewN | apply Kd.R_drew)); exact Kd.R_mono HO551.out (fun _ hk => ⟨hk.1.2, hk.2⟩))); (case aS => exact (below_size (kl HB))); (case aL => have := LMc30.out; omega); intro v553 w49 ho hb hg hat; rw [← Ny552.out] at ho; have n0_ := Aside0.mk (Kd.R_after (ok := (fun k_ => some k_ ≠ (.slice Ao41 y539.length co41 : Value).ownBlock)) (by (with_reducible repeat (first | apply Kd.R_alloc | apply Kd.R_drewN | apply Kd.R_drew)); exact Kd.R_mono HO_6.out (fun _ hk => ⟨hk.1.2, hk.2⟩)) hg hat); have n1_ := Aside0.mk (blk_grown (g := gb525) (o := .cells #[.int .i64 a0_0, .slice A0_1 l0_1.length c0_1] 53 (0, 0)) (kb BK525) hg (Kd.R_ne HO551.out BK525.out (by decide))); have n2_ := Aside0.mk (Kd.R_after (ok := (fun k_ => some k_ ≠ (.slice Ao39 t527.length co39 : Value).ownBlock)) (kr HO541) hg hat); have n3_ := Aside0.mk (Kd.R_over' (kr HO545) (Kd.R_typed (kr HO551)) (by decide) hg); have n4_ := Aside0.mk (blk_grown (g := gb548) (o := .cells #[.int .i64 t542, .slice Ao46 t543.length co46] 53 (0, 0)) (kb BK548) hg (Kd.R_ne HO551.out BK548.out (by decide))); have n5_ := Aside0.mk (hb); have n6_ := Aside0.mk (ho); clear HO_6; clear BK525; clear HO541; clear HO545; clear BK548; clear HB; clear HO551; have HO_6 := n0_; have BK525 := n1_; have HO541 := n2_; have HO545 := n3_; have BK548 := n4_; have HB := n5_; have HO554 := n6_; clear n0_ n1_ n2_ n3_ n4_ n5_ n6_; clear ho hb hg hat) | (at_builtin; refine Kd.R_append_zeros (Kd.int .u8) (w0 := w) w.heap.size rfl (.tmp 80) (.tmp 82) 54 3 5 (.int .u8 0) 1 rfl Try.underlying54 Try.underlying3 info5 rfl (by decide) (by omega) v553 y552 0 (ji31 : Int) (fun k_ => some k_ ≠ (.slice Ao39 t527.length co39 : Value).ownBlock ∧ some k_ ≠ (.slice Ao41 y539.length co41 : Value).ownBlock) rfl rfl rfl ?aF ?aO (of_decide_eq_true (by first | (with_reducible assumption) | assumption)) ?aB ?aS ?aL ?_; (case aB => exact (kl HB)); (case aF => exact (fun k_ hk => ⟨Kd.fresh' (Kd.R_lt (kr HO_6)) k_ hk, Kd.fresh' (Kd.R_lt (kr HO541)) k_ hk⟩)); (case aO => exact (kr HO554)); (case aS => exact (below_size (kl HB))); (case aL => have := LMc33.out; omega); intro v556 w50 ho hb hg hat; (try simp only [Int.reduceToNat] at ho); rw [← Ny555.out] at ho; have n0_ := Aside0.mk (Kd.R_after (ok := (fun k_ => some k_ ≠ (.slice Ao41 y539.length co41 : Value).ownBlock)) (kr HO_6) hg hat); have n1_ := Aside0.mk (blk_grown (g := gb525) (o := .cells #[.int .i64 a0_0, .slice A0_1 l0_1.length c0_1] 53 (0, 0)) (kb BK525) hg (Kd.R_ne HO554.out BK525.out (by decide))); have n2_ := Aside0.mk (Kd.R_after (ok := (fun k_ => some k_ ≠ (.slice Ao39 t527.length co39 : Value).ownBlock)) (kr HO541) hg hat); have n3_ := Aside0.mk (Kd.R_over' (kr HO545) (Kd.R_typed (kr HO554)) (by decide) hg); have n4_ := Aside0.mk (blk_grown (g := gb548) (o := .cells #[.int .i64 t542, .slice Ao46 t543.length co46] 53 (0, 0)) (kb BK548) hg (Kd.R_ne HO554.out BK548.out (by decide))); have n5_ := Aside0.mk (hb); have n6_ := Aside0.mk (ho); clear HO_6; clear BK525; clear HO541; clear HO545; clear BK548; clear HB; clear HO554; have HO_6 := n0_; have BK525 := n1_; have HO541 := n2_; have HO545 := n3_; have BK548 := n4_; have HB := n5_; have HO557 := n6_; clear n0_ n1_ n2_ n3_ n4_ n5_ n6_; clear ho hb hg hat; obtain ⟨Ao51, co51, eo51⟩ := Kd.R_slice HO557.out; subst eo51) | ((with_reducible refine gate_callee (f := 27) rfl ?_); refine goesL_ (some 84) rfl rfl Try.func27 (by kernel_rfl) rfl #[.slice Ao51 y555.length co51] rfl km ?_; (with_reducible refine (index_Get.calls kj22 _ _ y555 t558 t559 t562 t563 _ ?side1 ?side2 A34.out).mono ?_); (case side1 => repeat (first | exact (Kd.R_reads' HO557.out).2.2 | (with_reducible refine Kd.C_alloc ?_ _) | (with_reducible refine Kd.C_drewN ?_ _) | (with_reducible refine Kd.C_drew ?_))); (case side2 => exact (Kd.R_reads' HO557.out).2.1); rintro e w52 ⟨v560, rfl, ho0, hb⟩; refine ⟨_, rfl, ?_⟩; replace HO_6 := Aside0.mk (Kd.R_below (kr HO_6) hb); replace HO541 := Aside0.mk (Kd.R_below (kr HO541) hb); replace HO557 := Aside0.mk (Kd.R_below (kr HO557) hb); have HO561 := Aside0.mk (Kd.R_lower (Kd.R_new' ho0 (Kd.R_lt (kr HO545))) (below_size (kl HB))); replace HO545 := Aside0.mk (Kd.R_elder' (kr HO545) (Kd.R_base ho0) hb); replace BK525 := kB BK525 hb; replace BK548 := kB BK548 hb; replace HB := kH HB hb; (try clear hb); (try clear hb2); (try clear hk); (try clear hi); (try clear ho0); (try simp only [errW_none, errW_some])) | ((with_reducible refine gate_dst (N := 13) rfl ?_); (try (refine gate_guard (by rfl) ?_; dsimp only)); refine box_event ?hg (N := 13) ?hd (cs := #[.int .i64 0, .slice none 0 0]) (t := 53) ?hr ?_; (case hd => rfl); (case hg => rfl); (case hr => first | (go_simp; done) | (go_simp; rfl)); intro gb564 hg w53 hbox hb; replace HO_6 := Aside0.mk (Kd.R_below (kr HO_6) hb); replace HO541 := Aside0.mk (Kd.R_below (kr HO541) hb); replace HO545 := Aside0.mk (Kd.R_below (kr HO545) hb); replace HO557 := Aside0.mk (Kd.R_below (kr HO557) hb); replace HO561 := Aside0.mk (Kd.R_below (kr HO561) hb); have BK564 := Aside0.mk (hbox); have GW564 := kG hg HB; have GE564 := kG hg HB; replace HB := kH HB hb; obtain ⟨NB525_564, NB564_525⟩ := kN hg BK525; replace BK525 := kB BK525 hb; obtain ⟨NB548_564, NB564_548⟩ := kN hg BK548; replace BK548 := kB BK548 hb; clear hb hbox hg; have hnb54 := NB564_525.out; have hnc54 := NB525_564.out; have hnb55 := NB564_548.out; have hnc55 := NB548_564.out; have hcz56_0 : w53.cell? ⟨gb564, 0, none⟩ = some (.int .i64 0) := (blk_cell BK564.out 0).trans rfl; have hcz56_1 : w53.cell? ⟨gb564, 1, none⟩ = some (.slice none 0 0) := (blk_cell BK564.out 1).trans rfl; have hfz56_0 := blk_frozen BK564.out 0; have hfz56_1 := blk_frozen BK564.out 1; obtain ⟨Ao57, co57, eo57⟩ := Kd.R_slice HO561.out; subst eo57))
                (try simp only [Act.put, List.setIfInBounds_toArray, List.set_cons_zero, List.set_cons_succ])
                go_cut [117] (fun v117 wc => ∃ (kq : Nat) (x117_34 : Bool), v117 = .bool x117_34 ∧ Aside0 (gaiterlaw14_IndexBack.j4 kq l1 t526 t527 x8_11 x117_34 = some r) ∧ Aside0 (kq ≤ kj22) ∧ Aside0 (Kd.R (Kd.int .u8) 5 wc w.heap.size (fun _ => True) (.slice Ao39 t527.length co39) t527) ∧ Aside0 (Kd.R k72 72 wc w.heap.size (fun k_ => some k_ ≠ ((.slice Ao57 t559.length co57) : Value).ownBlock) (.slice Ao46 t543.length co46) t543) ∧ Aside0 (Kd.R k72 72 wc w.heap.size (fun k_ => some k_ ≠ ((.slice Ao46 t543.length co46) : Value).ownBlock) (.slice Ao57 t559.length co57) t559) ∧ Aside0 (wc.heap[gb525]? = some (.cells #[.int .i64 a0_0, (.slice A0_1 l0_1.length c0_1)] 53 (0, 0))) ∧ Aside0 (wc.heap[gb548]? = some (.cells #[.int .i64 t542, (.slice Ao46 t543.length co46)] 53 (0, 0))) ∧ Aside0 (wc.heap[gb564]? = some (.cells #[.int .i64 t558, (.slice Ao57 t559.length co57)] 53 (0, 0))) ∧ Aside0 (Below w.heap.size w wc))
                case first =>
                 as_aux_lemma =>
                 have H := HC35.out
                 clear HC35
                 rcases t547 with _ | q565
                 ·as_aux_lemma =>
                  have H1 : (if t546 = (t527.length : Int) then (if t542 = a0_0 then ((gaiterlaw14_list.f kj22 t543).bind fun t566 => ((gaiterlaw14_list.f kj22 l0_1).bind fun t569 => ((gaiterlaw14_same.f kj22 t566 t569).bind fun t572 => (if t572 = 0 then (gaiterlaw14_IndexBack.j4 kj22 l1 t526 t527 x8_11 true) else ((gaiterlaw00_Code.f t563).bind fun t573 => (gaiterlaw14_IndexBack.j4 kj22 l1 t526 t527 x8_11 (t573 != 8))))))) else (gaiterlaw14_IndexBack.j4 kj22 l1 t526 t527 x8_11 true)) else (gaiterlaw14_IndexBack.j4 kj22 l1 t526 t527 x8_11 true)) = some r := by rw [if_pos (show (none : Option Int).isNone = true by rfl)] at H; exact H
                  clear H
                  have H := H1
                  clear H1
                  try simp only [errW_none, errW_some]
                  by_cases c58 : t546 = (t527.length : Int)
                  ·as_aux_lemma =>
                   rw [if_pos c58] at H
                   have c58b0 : (t546 == (t527.length : Int)) = true := beq_iff_eq.mpr c58
                   have c58b1 : (t546 != (t527.length : Int)) = false := bne_eq_false_iff_eq.mpr c58
                   clear c58
                   (first | rw [c58b0] | (simp only [i64_w, i32_w]; rw [c58b0]) | skip)
                   by_cases c59 : t542 = a0_0
                   ·as_aux_lemma =>
                    rw [if_pos c59] at H
                    have c59b0 : (t542 == a0_0) = true := beq_iff_eq.mpr c59
                    have c59b1 : (t542 != a0_0) = false := bne_eq_false_iff_eq.mpr c59
                    clear c59
                    replace H := Option.bind_eq_some_iff.mp H
                    obtain ⟨t566, A600, H⟩ := H
                    replace H : ((gaiterlaw14_list.f kj22 l0_1).bind fun t569 => ((gaiterlaw14_same.f kj22 t566 t569).bind fun t572 => (if t572 = 0 then (gaiterlaw14_IndexBack.j4 kj22 l1 t526 t527 x8_11 true) else ((gaiterlaw00_Code.f t563).bind fun t573 => (gaiterlaw14_IndexBack.j4 kj22 l1 t526 t527 x8_11 (t573 != 8)))))) = some r := H
                    have A60 := Aside0.mk A600
                    clear A600
                    replace H := Option.bind_eq_some_iff.mp H
                    obtain ⟨t569, A610, H⟩ := H
                    replace H : ((gaiterlaw14_same.f kj22 t566 t569).bind fun t572 => (if t572 = 0 then (gaiterlaw14_IndexBack.j4 kj22 l1 t526 t527 x8_11 true) else ((gaiterlaw00_Code.f t563).bind fun t573 => (gaiterlaw14_IndexBack.j4 kj22 l1 t526 t527 x8_11 (t573 != 8))))) = some r := H
                    have A61 := Aside0.mk A610
                    clear A610
                    replace H := Option.bind_eq_some_iff.mp H
                    obtain ⟨t572, A620, H⟩ := H
                    replace H : (if t572 = 0 then (gaiterlaw14_IndexBack.j4 kj22 l1 t526 t527 x8_11 true) else ((gaiterlaw00_Code.f t563).bind fun t573 => (gaiterlaw14_IndexBack.j4 kj22 l1 t526 t527 x8_11 (t573 != 8)))) = some r := H
                    have A62 := Aside0.mk A620
                    clear A620
                    by_cases c63 : t572 = 0
                    ·as_aux_lemma =>
                     rw [if_pos c63] at H
                     have c63b0 : (t572 == 0) = true := beq_iff_eq.mpr c63
                     have c63b1 : (t572 != 0) = false := bne_eq_false_iff_eq.mpr c63
                     clear c63
                     have H' := Aside0.mk H
                     clear H
                     try go_wp2
                     have n0_ : Aside0 (Kd.R (Kd.int .u8) 5 ((w53.setCell ⟨gb564, 0, none⟩ (.int .i64 t558)).setCell ⟨gb564, 1, none⟩ (.slice Ao57 t559.length co57)) w.heap.size (fun k_ => some k_ ≠ (.slice Ao41 y539.length co41 : Value).ownBlock ∧ some k_ ≠ (.slice Ao51 y555.length co51 : Value).ownBlock) (.slice Ao39 t527.length co39) t527) := ⟨by (with_reducible repeat (first | apply Kd.R_alloc | apply Kd.R_drewN | apply Kd.R_drew)); exact Kd.R_mono (Kd.R_far (p := ⟨gb564, 1, none⟩) (Kd.R_far (p := ⟨gb564, 0, none⟩) (Kd.R_types HO_6.out BK564.out (by decide)) (fun _ hk => hk.2) (.int .i64 t558)) (fun _ hk => hk.2) (.slice Ao57 t559.length co57)) (fun _ hk => ⟨hk.1.1, hk.1.2⟩)⟩
                     have n1_ : Aside0 (Kd.R (Kd.int .u8) 5 ((w53.setCell ⟨gb564, 0, none⟩ (.int .i64 t558)).setCell ⟨gb564, 1, none⟩ (.slice Ao57 t559.length co57)) w.heap.size (fun k_ => some k_ ≠ (.slice Ao39 t527.length co39 : Value).ownBlock ∧ some k_ ≠ (.slice Ao51 y555.length co51 : Value).ownBlock) (.slice Ao41 y539.length co41) y539) := ⟨by (with_reducible repeat (first | apply Kd.R_alloc | apply Kd.R_drewN | apply Kd.R_drew)); exact Kd.R_mono (Kd.R_far (p := ⟨gb564, 1, none⟩) (Kd.R_far (p := ⟨gb564, 0, none⟩) (Kd.R_types HO541.out BK564.out (by decide)) (fun _ hk => hk.2) (.int .i64 t558)) (fun _ hk => hk.2) (.slice Ao57 t559.length co57)) (fun _ hk => ⟨hk.1.1, hk.1.2⟩)⟩
                     have n2_ : Aside0 (Kd.R k72 72 ((w53.setCell ⟨gb564, 0, none⟩ (.int .i64 t558)).setCell ⟨gb564, 1, none⟩ (.slice Ao57 t559.length co57)) w.heap.size (fun k_ => some k_ ≠ (.slice Ao57 t559.length co57 : Value).ownBlock) (.slice Ao46 t543.length co46) t543) := ⟨by (with_reducible repeat (first | apply Kd.R_alloc | apply Kd.R_drewN | apply Kd.R_drew)); exact Kd.R_mono (Kd.R_far (p := ⟨gb564, 1, none⟩) (Kd.R_far (p := ⟨gb564, 0, none⟩) (Kd.R_types HO545.out BK564.out (by decide)) (fun _ hk => hk.2) (.int .i64 t558)) (fun _ hk => hk.2) (.slice Ao57 t559.length co57)) (fun _ hk => hk.1.2)⟩
                     have n3_ : Aside0 (Kd.R (Kd.int .u8) 5 ((w53.setCell ⟨gb564, 0, none⟩ (.int .i64 t558)).setCell ⟨gb564, 1, none⟩ (.slice Ao57 t559.length co57)) w.heap.size (fun k_ => some k_ ≠ (.slice Ao39 t527.length co39 : Value).ownBlock ∧ some k_ ≠ (.slice Ao41 y539.length co41 : Value).ownBlock) (.slice Ao51 y555.length co51) y555) := ⟨by (with_reducible repeat (first | apply Kd.R_alloc | apply Kd.R_drewN | apply Kd.R_drew)); exact Kd.R_mono (Kd.R_far (p := ⟨gb564, 1, none⟩) (Kd.R_far (p := ⟨gb564, 0, none⟩) (Kd.R_types HO557.out BK564.out (by decide)) (fun _ hk => hk.2) (.int .i64 t558)) (fun _ hk => hk.2) (.slice Ao57 t559.length co57)) (fun _ hk => ⟨hk.1.1, hk.1.2⟩)⟩
                     have n4_ : Aside0 (Kd.R k72 72 ((w53.setCell ⟨gb564, 0, none⟩ (.int .i64 t558)).setCell ⟨gb564, 1, none⟩ (.slice Ao57 t559.length co57)) w.heap.size (fun k_ => some k_ ≠ (.slice Ao46 t543.length co46 : Value).ownBlock) (.slice Ao57 t559.length co57) t559) := ⟨by (with_reducible repeat (first | apply Kd.R_alloc | apply Kd.R_drewN | apply Kd.R_drew)); exact Kd.R_mono (Kd.R_far (p := ⟨gb564, 1, none⟩) (Kd.R_far (p := ⟨gb564, 0, none⟩) (Kd.R_types HO561.out BK564.out (by decide)) (fun _ hk => hk.2) (.int .i64 t558)) (fun _ hk => hk.2) (.slice Ao57 t559.length co57)) (fun _ hk => hk.1.2)⟩
                     have n5_ : Aside0 (((w53.setCell ⟨gb564, 0, none⟩ (.int .i64 t558)).setCell ⟨gb564, 1, none⟩ (.slice Ao57 t559.length co57)).heap[gb525]? = some (.cells #[.int .i64 a0_0, .slice A0_1 l0_1.length c0_1] 53 (0, 0))) := ⟨by (with_reducible repeat (first | refine blk_drewN ?_ _ | refine blk_drew ?_ | refine blk_alloc ?_ _)); refine blk_far ?_ NB525_564.out _; (with_reducible repeat (first | refine blk_drewN ?_ _ | refine blk_drew ?_ | refine blk_alloc ?_ _)); refine blk_far ?_ NB525_564.out _; (with_reducible repeat (first | refine blk_drewN ?_ _ | refine blk_drew ?_ | refine blk_alloc ?_ _)); exact BK525.out⟩
                     have n6_ : Aside0 (((w53.setCell ⟨gb564, 0, none⟩ (.int .i64 t558)).setCell ⟨gb564, 1, none⟩ (.slice Ao57 t559.length co57)).heap[gb548]? = some (.cells #[.int .i64 t542, .slice Ao46 t543.length co46] 53 (0, 0))) := ⟨by (with_reducible repeat (first | refine blk_drewN ?_ _ | refine blk_drew ?_ | refine blk_alloc ?_ _)); refine blk_far ?_ NB548_564.out _; (with_reducible repeat (first | refine blk_drewN ?_ _ | refine blk_drew ?_ | refine blk_alloc ?_ _)); refine blk_far ?_ NB548_564.out _; (with_reducible repeat (first | refine blk_drewN ?_ _ | refine blk_drew ?_ | refine blk_alloc ?_ _)); exact BK548.out⟩
                     have n7_ : Aside0 (((w53.setCell ⟨gb564, 0, none⟩ (.int .i64 t558)).setCell ⟨gb564, 1, none⟩ (.slice Ao57 t559.length co57)).heap[gb564]? = some (.cells #[.int .i64 t558, .slice Ao57 t559.length co57] 53 (0, 0))) := ⟨by (with_reducible repeat (first | refine blk_drewN ?_ _ | refine blk_drew ?_ | refine blk_alloc ?_ _)); refine blk_put (cs := #[.int .i64 t558, .slice none 0 0]) ?_ 1 _ rfl; (with_reducible repeat (first | refine blk_drewN ?_ _ | refine blk_drew ?_ | refine blk_alloc ?_ _)); refine blk_put (cs := #[.int .i64 0, .slice none 0 0]) ?_ 0 _ rfl; (with_reducible repeat (first | refine blk_drewN ?_ _ | refine blk_drew ?_ | refine blk_alloc ?_ _)); exact BK564.out⟩
                     have n8_ : Aside0 (Below w.heap.size w ((w53.setCell ⟨gb564, 0, none⟩ (.int .i64 t558)).setCell ⟨gb564, 1, none⟩ (.slice Ao57 t559.length co57))) := ⟨(kl HB)⟩
                     (try clear HO_6)
                     (try clear HO541)
                     (try clear HO545)
                     (try clear HO557)
                     (try clear HO561)
                     (try clear BK525)
                     (try clear BK548)
                     (try clear BK564)
                     (try clear HB)
                     generalize ((w53.setCell ⟨gb564, 0, none⟩ (.int .i64 t558)).setCell ⟨gb564, 1, none⟩ (.slice Ao57 t559.length co57)) = w64 at n0_ n1_ n2_ n3_ n4_ n5_ n6_ n7_ n8_ ⊢
                     have HO_6 := n0_
                     have HO541 := n1_
                     have HO545 := n2_
                     have HO557 := n3_
                     have HO561 := n4_
                     have BK525 := n5_
                     have BK548 := n6_
                     have BK564 := n7_
                     have HB := n8_
                     clear n0_ n1_ n2_ n3_ n4_ n5_ n6_ n7_ n8_
                     replace HO_6 := Aside0.mk (Kd.R_drew HO_6.out)
                     replace HO541 := Aside0.mk (Kd.R_drew HO541.out)
                     replace HO545 := Aside0.mk (Kd.R_drew HO545.out)
                     replace HO557 := Aside0.mk (Kd.R_drew HO557.out)
                     replace HO561 := Aside0.mk (Kd.R_drew HO561.out)
                     replace BK525 := Aside0.mk (blk_drew BK525.out)
                     replace BK548 := Aside0.mk (blk_drew BK548.out)
                     replace BK564 := Aside0.mk (blk_drew BK564.out)
                     replace HB := Aside0.mk (below_drew1 HB.out)
                     refine start_ (n := 30) (S := fun w' => w'.cell? ⟨gb548, 0, none⟩ = some (.int .i64 t542) ∧ w'.cell? ⟨gb548, 1, none⟩ = some (.slice Ao46 t543.length co46) ∧ w'.cell? ⟨gb525, 0, none⟩ = some (.int .i64 a0_0) ∧ w'.cell? ⟨gb525, 1, none⟩ = some (.slice A0_1 l0_1.length c0_1)) (ds := []) (bl 30 0) (by kernel_rfl) rfl rfl kz (fun hHeld => ?_); refine with_tabW gaiterlaw14_IndexBack.tab13 gaiterlaw14_IndexBack.bits13 (fun HT_ HW_ => ?_)
                     generalize w64.drew = w65 at HO_6 HO541 HO545 HO557 HO561 BK525 BK548 BK564 HB hHeld ⊢
                     refine pu 0 (some 88) (bl 30 1) (h := ?_)
                     refine pu 1 (some 89) (bl 30 3) (h := ?_)
                     refine pu 2 (some 90) (bl 30 7) (h := ?_)
                     refine pu 3 (some 91) (bl 30 15) (h := ?_)
                     refine pu 4 (some 92) (bl 30 31) (h := ?_)
                     refine pu 5 (some 93) (bl 30 63) (h := ?_)
                     refine pu 6 (some 94) (bl 30 127) (h := ?_)
                     refine pu 7 (some 95) (bl 30 255) (h := ?_)
                     refine pu 8 (some 96) (bl 30 511) (h := ?_)
                     refine pu 9 (some 97) (bl 30 1023) (h := ?_)
                     refine pu 11 (some 99) (bl 30 3071) (h := ?_)
                     refine ta 10 (some 98) (bl 30 4095) (h := ?_)
                     refine ta 12 (some 100) (bl 30 8191) (h := ?_)
                     refine pu 13 (some 101) (bl 30 16383) (h := ?_)
                     refine pu 14 (some 102) (bl 30 32767) (h := ?_)
                     refine pu 15 (some 103) (bl 30 65535) (h := ?_)
                     refine pu 16 (some 104) (bl 30 131071) (h := ?_)
                     refine pu 19 (some 107) (bl 30 655359) (h := ?_)
                     refine ta 17 (some 105) (bl 30 786431) (h := ?_)
                     refine ta 20 (some 108) (bl 30 1835007) (h := ?_)
                     refine one_ (i := 18) (N := some 106) #[true, true, true, true, true, true, true, true, true, true, true, true, true, true, true, true, true, true, true, true, true, false, false, false, false, false, false, false, false, false] rfl rfl (one_of HT_.out (by kernel_rfl)) (by decide) (fun K hK => ?_)
                     refine goes_ Try.func24 (by kernel_rfl) rfl #[.slice Ao46 t543.length co46] (by rfl) rfl rfl km ?_
                     with_reducible refine (gaiterlaw14_list.calls kj22 _ _ t543 t566 _ ?side1 ?side2 A60.out).mono ?_
                     (case side1 => repeat (first | exact (Kd.R_reads' HO545.out).2.2 | (with_reducible refine Kd.C_alloc ?_ _) | (with_reducible refine Kd.C_drewN ?_ _) | (with_reducible refine Kd.C_drew ?_)))
                     (case side2 => exact (Kd.R_reads' HO545.out).2.1)
                     rintro e w66 ⟨v567, rfl, ho0, hb⟩
                     refine ⟨_, rfl, ?_⟩
                     replace HO_6 := Aside0.mk (Kd.R_below (kr HO_6) hb)
                     replace HO541 := Aside0.mk (Kd.R_below (kr HO541) hb)
                     replace HO545 := Aside0.mk (Kd.R_below (kr HO545) hb)
                     replace HO557 := Aside0.mk (Kd.R_below (kr HO557) hb)
                     replace HO561 := Aside0.mk (Kd.R_below (kr HO561) hb)
                     have HO568 := Aside0.mk (Kd.R_lower ho0 (below_size (kl HB)))
                     replace BK525 := kB BK525 hb
                     replace BK548 := kB BK548 hb
                     replace BK564 := kB BK564 hb
                     replace HB := kH HB hb
                     (try clear hb)
                     (try clear hb2)
                     (try clear hk)
                     (try clear hi)
                     (try clear ho0)
                     refine hK.out _ _ kz (fun hHeld => ?_)
                     clear hK K
                     refine norm_ (a' := ?_) ?_ ?_
                     rotate_left
                     ·show Act.put _ (some 106) _ = _
                      simp only [Act.put, List.setIfInBounds_toArray, List.set_cons_zero, List.set_cons_succ, i64_w, i32_w]
                      rfl
                     refine one_ (i := 21) (N := some 109) #[true, true, true, true, true, true, true, true, true, true, true, true, true, true, true, true, true, true, true, true, true, true, false, false, false, false, false, false, false, false] rfl rfl (one_of HT_.out (by kernel_rfl)) (by decide) (fun K hK => ?_)
                     refine goes_ Try.func24 (by kernel_rfl) rfl #[.slice A0_1 l0_1.length c0_1] (by rfl) rfl rfl km ?_
                     with_reducible refine (gaiterlaw14_list.calls kj22 _ _ l0_1 t569 _ ?side1 ?side2 A61.out).mono ?_
                     (case side1 => repeat (first | exact (Kd.C_below HR0_1.out HB.out) | (with_reducible refine Kd.C_alloc ?_ _) | (with_reducible refine Kd.C_drewN ?_ _) | (with_reducible refine Kd.C_drew ?_)))
                     (case side2 => exact HC0_1.out)
                     rintro e w67 ⟨v570, rfl, ho0, hb⟩
                     refine ⟨_, rfl, ?_⟩
                     replace HO_6 := Aside0.mk (Kd.R_below (kr HO_6) hb)
                     replace HO541 := Aside0.mk (Kd.R_below (kr HO541) hb)
                     replace HO545 := Aside0.mk (Kd.R_below (kr HO545) hb)
                     replace HO557 := Aside0.mk (Kd.R_below (kr HO557) hb)
                     replace HO561 := Aside0.mk (Kd.R_below (kr HO561) hb)
                     have HO571 := Aside0.mk (Kd.R_lower (Kd.R_new' ho0 (Kd.R_lt (kr HO568))) (below_size (kl HB)))
                     replace HO568 := Aside0.mk (Kd.R_elder' (kr HO568) (Kd.R_base ho0) hb)
                     replace BK525 := kB BK525 hb
                     replace BK548 := kB BK548 hb
                     replace BK564 := kB BK564 hb
                     replace HB := kH HB hb
                     (try clear hb)
                     (try clear hb2)
                     (try clear hk)
                     (try clear hi)
                     (try clear ho0)
                     obtain ⟨Ao68, co68, eo68⟩ := Kd.R_slice HO568.out
                     (first | subst eo68 | (injection eo68 with f1_ f2_ f3_; have f4_ := f1_.symm; have f5_ := f3_.symm; clear f1_ f2_ f3_; subst f4_; subst f5_))
                     obtain ⟨Ao69, co69, eo69⟩ := Kd.R_slice HO571.out
                     (first | subst eo69 | (injection eo69 with f1_ f2_ f3_; have f4_ := f1_.symm; have f5_ := f3_.symm; clear f1_ f2_ f3_; subst f4_; subst f5_))
                     refine hK.out _ _ kz (fun hHeld => ?_)
                     clear hK K
                     refine norm_ (a' := ?_) ?_ ?_
                     rotate_left
                     ·show Act.put _ (some 109) _ = _
                      simp only [Act.put, List.setIfInBounds_toArray, List.set_cons_zero, List.set_cons_succ, i64_w, i32_w]
                      rfl
                     refine one_ (i := 22) (N := some 110) #[true, true, true, true, true, true, true, true, true, true, true, true, true, true, true, true, true, true, true, true, true, true, true, false, false, false, false, false, false, false] rfl rfl (one_of HT_.out (by kernel_rfl)) (by decide) (fun K hK => ?_)
                     refine goes_ Try.func29 (by kernel_rfl) rfl #[.slice Ao68 t566.length co68, .slice Ao69 t569.length co69] (by rfl) rfl rfl km ?_
                     with_reducible refine (gaiterlaw14_same.calls kj22 _ _ t566 _ _ t569 t572 _ ?side1 ?side2 ?side3 ?side4 A62.out).mono ?_
                     (case side1 => repeat (first | exact (Kd.R_reads' HO568.out).2.2 | (with_reducible refine Kd.C_alloc ?_ _) | (with_reducible refine Kd.C_drewN ?_ _) | (with_reducible refine Kd.C_drew ?_)))
                     (case side2 => exact (Kd.R_reads' HO568.out).2.1)
                     (case side3 => repeat (first | exact (Kd.R_reads' HO571.out).2.2 | (with_reducible refine Kd.C_alloc ?_ _) | (with_reducible refine Kd.C_drewN ?_ _) | (with_reducible refine Kd.C_drew ?_)))
                     (case side4 => exact (Kd.R_reads' HO571.out).2.1)
                     rintro e w' ⟨rfl, ⟨nd, rfl⟩⟩
                     refine ⟨_, rfl, ?_⟩
                     refine hK.out _ _ kz (fun hHeld => ?_)
                     clear hK K
                     refine norm_ (a' := ?_) ?_ ?_
                     rotate_left
                     ·show Act.put _ (some 110) _ = _
                      simp only [Act.put, List.setIfInBounds_toArray, List.set_cons_zero, List.set_cons_succ, i64_w, i32_w]
                      rfl
                     refine pu 23 (some 111) (bl 30 16777215) (h := ?_)
                     refine pu 24 (some 112) (bl 30 33554431) (h := ?_)
                     refine pu 25 (some 113) (bl 30 67108863) (h := ?_)
                     refine pure_ (i := 26) (N := some 114) (v := undef) (a' := ?_) #[true, true, true, true, true, true, true, true, true, true, true, true, true, true, true, true, true, true, true, true, true, true, true, true, true, true, true, false, false, false] rfl rfl (any_of HT_.out (by kernel_rfl)) (fun _ _ _ h => h) (Or.inr ⟨by rfl, rfl⟩) ?_ ?_
                     rotate_left
                     ·simp only [Act.put, List.setIfInBounds_toArray, List.set_cons_zero, List.set_cons_succ, i64_w, i32_w]
                      rfl
                     refine pure_ (i := 27) (N := some 115) (v := undef) (a' := ?_) #[true, true, true, true, true, true, true, true, true, true, true, true, true, true, true, true, true, true, true, true, true, true, true, true, true, true, true, true, false, false] rfl rfl (any_of HT_.out (by kernel_rfl)) (fun _ _ _ h => h) (Or.inr ⟨by rfl, rfl⟩) ?_ ?_
                     rotate_left
                     ·simp only [Act.put, List.setIfInBounds_toArray, List.set_cons_zero, List.set_cons_succ, i64_w, i32_w]
                      rfl
                     refine pure_ (i := 28) (N := some 116) (v := undef) (a' := ?_) #[true, true, true, true, true, true, true, true, true, true, true, true, true, true, true, true, true, true, true, true, true, true, true, true, true, true, true, true, true, false] rfl rfl (any_of HT_.out (by kernel_rfl)) (fun _ _ _ h => h) (Or.inr ⟨by rfl, rfl⟩) ?_ ?_
                     rotate_left
                     ·simp only [Act.put, List.setIfInBounds_toArray, List.set_cons_zero, List.set_cons_succ, i64_w, i32_w]
                      rfl
                     refine pu 29 (some 117) (bl 30 1073741823) (h := ?_)
                     refine done_ (done_of HT_.out (by kernel_rfl)) ?_
                     try go_wp2
                     go_meet
                     case rel => exact ⟨_, (true), (by first | rfl | (simp; done) | (simp [*]; done)), H', ⟨by have := HJ3.out; have := HJ11.out; have := HJ22.out; first | omega | exact Nat.le_refl _⟩, ⟨by (with_reducible repeat (first | apply Kd.R_alloc | apply Kd.R_drewN | apply Kd.R_drew)); exact Kd.R_mono HO_6.out (fun _ hk => trivial)⟩, ⟨kr HO545⟩, ⟨kr HO561⟩, ⟨kb BK525⟩, ⟨kb BK548⟩, ⟨kb BK564⟩, ⟨(kl HB)⟩⟩
                    ·as_aux_lemma =>
                     rw [if_neg c63] at H
                     have c63b0 : (t572 == 0) = false := beq_eq_false_iff_ne.mpr c63
                     have c63b1 : (t572 != 0) = true := bne_iff_ne.mpr c63
                     replace H := Option.bind_eq_some_iff.mp H
                     obtain ⟨t573, A700, H⟩ := H
                     replace H : (gaiterlaw14_IndexBack.j4 kj22 l1 t526 t527 x8_11 (t573 != 8)) = some r := H
                     have A70 := Aside0.mk A700
                     clear A700
                     have H' := Aside0.mk H
                     clear H
                     try go_wp2
                     have n0_ : Aside0 (Kd.R (Kd.int .u8) 5 ((w53.setCell ⟨gb564, 0, none⟩ (.int .i64 t558)).setCell ⟨gb564, 1, none⟩ (.slice Ao57 t559.length co57)) w.heap.size (fun k_ => some k_ ≠ (.slice Ao41 y539.length co41 : Value).ownBlock ∧ some k_ ≠ (.slice Ao51 y555.length co51 : Value).ownBlock) (.slice Ao39 t527.length co39) t527) := ⟨by (with_reducible repeat (first | apply Kd.R_alloc | apply Kd.R_drewN | apply Kd.R_drew)); exact Kd.R_mono (Kd.R_far (p := ⟨gb564, 1, none⟩) (Kd.R_far (p := ⟨gb564, 0, none⟩) (Kd.R_types HO_6.out BK564.out (by decide)) (fun _ hk => hk.2) (.int .i64 t558)) (fun _ hk => hk.2) (.slice Ao57 t559.length co57)) (fun _ hk => ⟨hk.1.1, hk.1.2⟩)⟩
                     have n1_ : Aside0 (Kd.R (Kd.int .u8) 5 ((w53.setCell ⟨gb564, 0, none⟩ (.int .i64 t558)).setCell ⟨gb564, 1, none⟩ (.slice Ao57 t559.length co57)) w.heap.size (fun k_ => some k_ ≠ (.slice Ao39 t527.length co39 : Value).ownBlock ∧ some k_ ≠ (.slice Ao51 y555.length co51 : Value).ownBlock) (.slice Ao41 y539.length co41) y539) := ⟨by (with_reducible repeat (first | apply Kd.R_alloc | apply Kd.R_drewN | apply Kd.R_drew)); exact Kd.R_mono (Kd.R_far (p := ⟨gb564, 1, none⟩) (Kd.R_far (p := ⟨gb564, 0, none⟩) (Kd.R_types HO541.out BK564.out (by decide)) (fun _ hk => hk.2) (.int .i64 t558)) (fun _ hk => hk.2) (.slice Ao57 t559.length co57)) (fun _ hk => ⟨hk.1.1, hk.1.2⟩)⟩
                     have n2_ : Aside0 (Kd.R k72 72 ((w53.setCell ⟨gb564, 0, none⟩ (.int .i64 t558)).setCell ⟨gb564, 1, none⟩ (.slice Ao57 t559.length co57)) w.heap.size (fun k_ => some k_ ≠ (.slice Ao57 t559.length co57 : Value).ownBlock) (.slice Ao46 t543.length co46) t543) := ⟨by (with_reducible repeat (first | apply Kd.R_alloc | apply Kd.R_drewN | apply Kd.R_drew)); exact Kd.R_mono (Kd.R_far (p := ⟨gb564, 1, none⟩) (Kd.R_far (p := ⟨gb564, 0, none⟩) (Kd.R_types HO545.out BK564.out (by decide)) (fun _ hk => hk.2) (.int .i64 t558)) (fun _ hk => hk.2) (.slice Ao57 t559.length co57)) (fun _ hk => hk.1.2)⟩
                     have n3_ : Aside0 (Kd.R (Kd.int .u8) 5 ((w53.setCell ⟨gb564, 0, none⟩ (.int .i64 t558)).setCell ⟨gb564, 1, none⟩ (.slice Ao57 t559.length co57)) w.heap.size (fun k_ => some k_ ≠ (.slice Ao39 t527.length co39 : Value).ownBlock ∧ some k_ ≠ (.slice Ao41 y539.length co41 : Value).ownBlock) (.slice Ao51 y555.length co51) y555) := ⟨by (with_reducible repeat (first | apply Kd.R_alloc | apply Kd.R_drewN | apply Kd.R_drew)); exact Kd.R_mono (Kd.R_far (p := ⟨gb564, 1, none⟩) (Kd.R_far (p := ⟨gb564, 0, none⟩) (Kd.R_types HO557.out BK564.out (by decide)) (fun _ hk => hk.2) (.int .i64 t558)) (fun _ hk => hk.2) (.slice Ao57 t559.length co57)) (fun _ hk => ⟨hk.1.1, hk.1.2⟩)⟩
                     have n4_ : Aside0 (Kd.R k72 72 ((w53.setCell ⟨gb564, 0, none⟩ (.int .i64 t558)).setCell ⟨gb564, 1, none⟩ (.slice Ao57 t559.length co57)) w.heap.size (fun k_ => some k_ ≠ (.slice Ao46 t543.length co46 : Value).ownBlock) (.slice Ao57 t559.length co57) t559) := ⟨by (with_reducible repeat (first | apply Kd.R_alloc | apply Kd.R_drewN | apply Kd.R_drew)); exact Kd.R_mono (Kd.R_far (p := ⟨gb564, 1, none⟩) (Kd.R_far (p := ⟨gb564, 0, none⟩) (Kd.R_types HO561.out BK564.out (by decide)) (fun _ hk => hk.2) (.int .i64 t558)) (fun _ hk => hk.2) (.slice Ao57 t559.length co57)) (fun _ hk => hk.1.2)⟩
                     have n5_ : Aside0 (((w53.setCell ⟨gb564, 0, none⟩ (.int .i64 t558)).setCell ⟨gb564, 1, none⟩ (.slice Ao57 t559.length co57)).heap[gb525]? = some (.cells #[.int .i64 a0_0, .slice A0_1 l0_1.length c0_1] 53 (0, 0))) := ⟨by (with_reducible repeat (first | refine blk_drewN ?_ _ | refine blk_drew ?_ | refine blk_alloc ?_ _)); refine blk_far ?_ NB525_564.out _; (with_reducible repeat (first | refine blk_drewN ?_ _ | refine blk_drew ?_ | refine blk_alloc ?_ _)); refine blk_far ?_ NB525_564.out _; (with_reducible repeat (first | refine blk_drewN ?_ _ | refine blk_drew ?_ | refine blk_alloc ?_ _)); exact BK525.out⟩
                     have n6_ : Aside0 (((w53.setCell ⟨gb564, 0, none⟩ (.int .i64 t558)).setCell ⟨gb564, 1, none⟩ (.slice Ao57 t559.length co57)).heap[gb548]? = some (.cells #[.int .i64 t542, .slice Ao46 t543.length co46] 53 (0, 0))) := ⟨by (with_reducible repeat (first | refine blk_drewN ?_ _ | refine blk_drew ?_ | refine blk_alloc ?_ _)); refine blk_far ?_ NB548_564.out _; (with_reducible repeat (first | refine blk_drewN ?_ _ | refine blk_drew ?_ | refine blk_alloc ?_ _)); refine blk_far ?_ NB548_564.out _; (with_reducible repeat (first | refine blk_drewN ?_ _ | refine blk_drew ?_ | refine blk_alloc ?_ _)); exact BK548.out⟩
                     have n7_ : Aside0 (((w53.setCell ⟨gb564, 0, none⟩ (.int .i64 t558)).setCell ⟨gb564, 1, none⟩ (.slice Ao57 t559.length co57)).heap[gb564]? = some (.cells #[.int .i64 t558, .slice Ao57 t559.length co57] 53 (0, 0))) := ⟨by (with_reducible repeat (first | refine blk_drewN ?_ _ | refine blk_drew ?_ | refine blk_alloc ?_ _)); refine blk_put (cs := #[.int .i64 t558, .slice none 0 0]) ?_ 1 _ rfl; (with_reducible repeat (first | refine blk_drewN ?_ _ | refine blk_drew ?_ | refine blk_alloc ?_ _)); refine blk_put (cs := #[.int .i64 0, .slice none 0 0]) ?_ 0 _ rfl; (with_reducible repeat (first | refine blk_drewN ?_ _ | refine blk_drew ?_ | refine blk_alloc ?_ _)); exact BK564.out⟩
                     have n8_ : Aside0 (Below w.heap.size w ((w53.setCell ⟨gb564, 0, none⟩ (.int .i64 t558)).setCell ⟨gb564, 1, none⟩ (.slice Ao57 t559.length co57))) := ⟨(kl HB)⟩
                     (try clear HO_6)
                     (try clear HO541)
                     (try clear HO545)
                     (try clear HO557)
                     (try clear HO561)
                     (try clear BK525)
                     (try clear BK548)
                     (try clear BK564)
                     (try clear HB)
                     generalize ((w53.setCell ⟨gb564, 0, none⟩ (.int .i64 t558)).setCell ⟨gb564, 1, none⟩ (.slice Ao57 t559.length co57)) = w71 at n0_ n1_ n2_ n3_ n4_ n5_ n6_ n7_ n8_ ⊢
                     have HO_6 := n0_
                     have HO541 := n1_
                     have HO545 := n2_
                     have HO557 := n3_
                     have HO561 := n4_
                     have BK525 := n5_
                     have BK548 := n6_
                     have BK564 := n7_
                     have HB := n8_
                     clear n0_ n1_ n2_ n3_ n4_ n5_ n6_ n7_ n8_
                     replace HO_6 := Aside0.mk (Kd.R_drew HO_6.out)
                     replace HO541 := Aside0.mk (Kd.R_drew HO541.out)
                     replace HO545 := Aside0.mk (Kd.R_drew HO545.out)
                     replace HO557 := Aside0.mk (Kd.R_drew HO557.out)
                     replace HO561 := Aside0.mk (Kd.R_drew HO561.out)
                     replace BK525 := Aside0.mk (blk_drew BK525.out)
                     replace BK548 := Aside0.mk (blk_drew BK548.out)
                     replace BK564 := Aside0.mk (blk_drew BK564.out)
                     replace HB := Aside0.mk (below_drew1 HB.out)
                     refine start_ (n := 30) (S := fun w' => w'.cell? ⟨gb548, 0, none⟩ = some (.int .i64 t542) ∧ w'.cell? ⟨gb548, 1, none⟩ = some (.slice Ao46 t543.length co46) ∧ w'.cell? ⟨gb525, 0, none⟩ = some (.int .i64 a0_0) ∧ w'.cell? ⟨gb525, 1, none⟩ = some (.slice A0_1 l0_1.length c0_1)) (ds := []) (bl 30 0) (by kernel_rfl) rfl rfl kz (fun hHeld => ?_); refine with_tabW gaiterlaw14_IndexBack.tab13 gaiterlaw14_IndexBack.bits13 (fun HT_ HW_ => ?_)
                     generalize w71.drew = w72 at HO_6 HO541 HO545 HO557 HO561 BK525 BK548 BK564 HB hHeld ⊢
                     refine pu 0 (some 88) (bl 30 1) (h := ?_)
                     refine pu 1 (some 89) (bl 30 3) (h := ?_)
                     refine pu 2 (some 90) (bl 30 7) (h := ?_)
                     refine pu 3 (some 91) (bl 30 15) (h := ?_)
                     refine pu 4 (some 92) (bl 30 31) (h := ?_)
                     refine pu 5 (some 93) (bl 30 63) (h := ?_)
                     refine pu 6 (some 94) (bl 30 127) (h := ?_)
                     refine pu 7 (some 95) (bl 30 255) (h := ?_)
                     refine pu 8 (some 96) (bl 30 511) (h := ?_)
                     refine pu 9 (some 97) (bl 30 1023) (h := ?_)
                     refine pu 11 (some 99) (bl 30 3071) (h := ?_)
                     refine ta 10 (some 98) (bl 30 4095) (h := ?_)
                     refine ta 12 (some 100) (bl 30 8191) (h := ?_)
                     refine pu 13 (some 101) (bl 30 16383) (h := ?_)
                     refine pu 14 (some 102) (bl 30 32767) (h := ?_)
                     refine pu 15 (some 103) (bl 30 65535) (h := ?_)
                     refine pu 16 (some 104) (bl 30 131071) (h := ?_)
                     refine pu 19 (some 107) (bl 30 655359) (h := ?_)
                     refine ta 17 (some 105) (bl 30 786431) (h := ?_)
                     refine ta 20 (some 108) (bl 30 1835007) (h := ?_)
                     refine one_ (i := 18) (N := some 106) #[true, true, true, true, true, true, true, true, true, true, true, true, true, true, true, true, true, true, true, true, true, false, false, false, false, false, false, false, false, false] rfl rfl (one_of HT_.out (by kernel_rfl)) (by decide) (fun K hK => ?_)
                     refine goes_ Try.func24 (by kernel_rfl) rfl #[.slice Ao46 t543.length co46] (by rfl) rfl rfl km ?_
                     with_reducible refine (gaiterlaw14_list.calls kj22 _ _ t543 t566 _ ?side1 ?side2 A60.out).mono ?_
                     (case side1 => repeat (first | exact (Kd.R_reads' HO545.out).2.2 | (with_reducible refine Kd.C_alloc ?_ _) | (with_reducible refine Kd.C_drewN ?_ _) | (with_reducible refine Kd.C_drew ?_)))
                     (case side2 => exact (Kd.R_reads' HO545.out).2.1)
                     rintro e w73 ⟨v567, rfl, ho0, hb⟩
                     refine ⟨_, rfl, ?_⟩
                     replace HO_6 := Aside0.mk (Kd.R_below (kr HO_6) hb)
                     replace HO541 := Aside0.mk (Kd.R_below (kr HO541) hb)
                     replace HO545 := Aside0.mk (Kd.R_below (kr HO545) hb)
                     replace HO557 := Aside0.mk (Kd.R_below (kr HO557) hb)
                     replace HO561 := Aside0.mk (Kd.R_below (kr HO561) hb)
                     have HO568 := Aside0.mk (Kd.R_lower ho0 (below_size (kl HB)))
                     replace BK525 := kB BK525 hb
                     replace BK548 := kB BK548 hb
                     replace BK564 := kB BK564 hb
                     replace HB := kH HB hb
                     (try clear hb)
                     (try clear hb2)
                     (try clear hk)
                     (try clear hi)
                     (try clear ho0)
                     refine hK.out _ _ kz (fun hHeld => ?_)
                     clear hK K
                     refine norm_ (a' := ?_) ?_ ?_
                     rotate_left
                     ·show Act.put _ (some 106) _ = _
                      simp only [Act.put, List.setIfInBounds_toArray, List.set_cons_zero, List.set_cons_succ, i64_w, i32_w]
                      rfl
                     refine one_ (i := 21) (N := some 109) #[true, true, true, true, true, true, true, true, true, true, true, true, true, true, true, true, true, true, true, true, true, true, false, false, false, false, false, false, false, false] rfl rfl (one_of HT_.out (by kernel_rfl)) (by decide) (fun K hK => ?_)
                     refine goes_ Try.func24 (by kernel_rfl) rfl #[.slice A0_1 l0_1.length c0_1] (by rfl) rfl rfl km ?_
                     with_reducible refine (gaiterlaw14_list.calls kj22 _ _ l0_1 t569 _ ?side1 ?side2 A61.out).mono ?_
                     (case side1 => repeat (first | exact (Kd.C_below HR0_1.out HB.out) | (with_reducible refine Kd.C_alloc ?_ _) | (with_reducible refine Kd.C_drewN ?_ _) | (with_reducible refine Kd.C_drew ?_)))
                     (case side2 => exact HC0_1.out)
                     rintro e w74 ⟨v570, rfl, ho0, hb⟩
                     refine ⟨_, rfl, ?_⟩
                     replace HO_6 := Aside0.mk (Kd.R_below (kr HO_6) hb)
                     replace HO541 := Aside0.mk (Kd.R_below (kr HO541) hb)
                     replace HO545 := Aside0.mk (Kd.R_below (kr HO545) hb)
                     replace HO557 := Aside0.mk (Kd.R_below (kr HO557) hb)
                     replace HO561 := Aside0.mk (Kd.R_below (kr HO561) hb)
                     have HO571 := Aside0.mk (Kd.R_lower (Kd.R_new' ho0 (Kd.R_lt (kr HO568))) (below_size (kl HB)))
                     replace HO568 := Aside0.mk (Kd.R_elder' (kr HO568) (Kd.R_base ho0) hb)
                     replace BK525 := kB BK525 hb
                     replace BK548 := kB BK548 hb
                     replace BK564 := kB BK564 hb
                     replace HB := kH HB hb
                     (try clear hb)
                     (try clear hb2)
                     (try clear hk)
                     (try clear hi)
                     (try clear ho0)
                     obtain ⟨Ao75, co75, eo75⟩ := Kd.R_slice HO568.out
                     (first | subst eo75 | (injection eo75 with f1_ f2_ f3_; have f4_ := f1_.symm; have f5_ := f3_.symm; clear f1_ f2_ f3_; subst f4_; subst f5_))
                     obtain ⟨Ao76, co76, eo76⟩ := Kd.R_slice HO571.out
                     (first | subst eo76 | (injection eo76 with f1_ f2_ f3_; have f4_ := f1_.symm; have f5_ := f3_.symm; clear f1_ f2_ f3_; subst f4_; subst f5_))
                     refine hK.out _ _ kz (fun hHeld => ?_)
                     clear hK K
                     refine norm_ (a' := ?_) ?_ ?_
                     rotate_left
                     ·show Act.put _ (some 109) _ = _
                      simp only [Act.put, List.setIfInBounds_toArray, List.set_cons_zero, List.set_cons_succ, i64_w, i32_w]
                      rfl
                     refine one_ (i := 22) (N := some 110) #[true, true, true, true, true, true, true, true, true, true, true, true, true, true, true, true, true, true, true, true, true, true, true, false, false, false, false, false, false, false] rfl rfl (one_of HT_.out (by kernel_rfl)) (by decide) (fun K hK => ?_)
                     refine goes_ Try.func29 (by kernel_rfl) rfl #[.slice Ao75 t566.length co75, .slice Ao76 t569.length co76] (by rfl) rfl rfl km ?_
                     with_reducible refine (gaiterlaw14_same.calls kj22 _ _ t566 _ _ t569 t572 _ ?side1 ?side2 ?side3 ?side4 A62.out).mono ?_
                     (case side1 => repeat (first | exact (Kd.R_reads' HO568.out).2.2 | (with_reducible refine Kd.C_alloc ?_ _) | (with_reducible refine Kd.C_drewN ?_ _) | (with_reducible refine Kd.C_drew ?_)))
                     (case side2 => exact (Kd.R_reads' HO568.out).2.1)
                     (case side3 => repeat (first | exact (Kd.R_reads' HO571.out).2.2 | (with_reducible refine Kd.C_alloc ?_ _) | (with_reducible refine Kd.C_drewN ?_ _) | (with_reducible refine Kd.C_drew ?_)))
                     (case side4 => exact (Kd.R_reads' HO571.out).2.1)
                     rintro e w' ⟨rfl, ⟨nd, rfl⟩⟩
                     refine ⟨_, rfl, ?_⟩
                     have CA70 := fun W => gaiterlaw00_Code.calls t563 t573 W A70.out
                     try simp only [errW_none, errW_some] at CA70
                     refine hK.out _ _ kz (fun hHeld => ?_)
                     clear hK K
                     refine norm_ (a' := ?_) ?_ ?_
                     rotate_left
                     ·show Act.put _ (some 110) _ = _
                      simp only [Act.put, List.setIfInBounds_toArray, List.set_cons_zero, List.set_cons_succ, i64_w, i32_w]
                      rfl
                     refine pu 23 (some 111) (bl 30 16777215) (h := ?_)
                     refine pu 24 (some 112) (bl 30 33554431) (h := ?_)
                     refine pu 25 (some 113) (bl 30 67108863) (h := ?_)
                     refine pu 26 (some 114) (bl 30 134217727) (h := ?_)
                     refine one_ (i := 27) (N := some 115) #[true, true, true, true, true, true, true, true, true, true, true, true, true, true, true, true, true, true, true, true, true, true, true, true, true, true, true, true, false, false] rfl rfl (one_of HT_.out (by kernel_rfl)) (by decide) (fun K hK => ?_)
                     refine goes_ Try.func18 (by kernel_rfl) rfl #[errW t563] (by rfl) rfl rfl km ?_
                     with_reducible refine (CA70 _).mono ?_
                     rintro e w' ⟨rfl, ⟨nd, rfl⟩⟩
                     refine ⟨_, rfl, ?_⟩
                     refine hK.out _ _ kz (fun hHeld => ?_)
                     clear hK K
                     refine norm_ (a' := ?_) ?_ ?_
                     rotate_left
                     ·show Act.put _ (some 115) _ = _
                      simp only [Act.put, List.setIfInBounds_toArray, List.set_cons_zero, List.set_cons_succ, i64_w, i32_w]
                      rfl
                     refine pu 28 (some 116) (bl 30 536870911) (h := ?_)
                     refine pu 29 (some 117) (bl 30 1073741823) (h := ?_)
                     refine done_ (done_of HT_.out (by kernel_rfl)) ?_
                     try go_wp2
                     go_meet
                     case rel => exact ⟨_, ((t573 != 8)), (by first | rfl | (simp; done) | (simp [*]; done)), H', ⟨by have := HJ3.out; have := HJ11.out; have := HJ22.out; first | omega | exact Nat.le_refl _⟩, ⟨by (with_reducible repeat (first | apply Kd.R_alloc | apply Kd.R_drewN | apply Kd.R_drew)); exact Kd.R_mono HO_6.out (fun _ hk => trivial)⟩, ⟨kr HO545⟩, ⟨kr HO561⟩, ⟨kb BK525⟩, ⟨kb BK548⟩, ⟨kb BK564⟩, ⟨(kl HB)⟩⟩
                   ·as_aux_lemma =>
                    rw [if_neg c59] at H
                    have c59b0 : (t542 == a0_0) = false := beq_eq_false_iff_ne.mpr c59
                    have c59b1 : (t542 != a0_0) = true := bne_iff_ne.mpr c59
                    have H' := Aside0.mk H
                    clear H
                    try go_wp2
                    have n0_ : Aside0 (Kd.R (Kd.int .u8) 5 ((w53.setCell ⟨gb564, 0, none⟩ (.int .i64 t558)).setCell ⟨gb564, 1, none⟩ (.slice Ao57 t559.length co57)) w.heap.size (fun k_ => some k_ ≠ (.slice Ao41 y539.length co41 : Value).ownBlock ∧ some k_ ≠ (.slice Ao51 y555.length co51 : Value).ownBlock) (.slice Ao39 t527.length co39) t527) := ⟨by (with_reducible repeat (first | apply Kd.R_alloc | apply Kd.R_drewN | apply Kd.R_drew)); exact Kd.R_mono (Kd.R_far (p := ⟨gb564, 1, none⟩) (Kd.R_far (p := ⟨gb564, 0, none⟩) (Kd.R_types HO_6.out BK564.out (by decide)) (fun _ hk => hk.2) (.int .i64 t558)) (fun _ hk => hk.2) (.slice Ao57 t559.length co57)) (fun _ hk => ⟨hk.1.1, hk.1.2⟩)⟩
                    have n1_ : Aside0 (Kd.R (Kd.int .u8) 5 ((w53.setCell ⟨gb564, 0, none⟩ (.int .i64 t558)).setCell ⟨gb564, 1, none⟩ (.slice Ao57 t559.length co57)) w.heap.size (fun k_ => some k_ ≠ (.slice Ao39 t527.length co39 : Value).ownBlock ∧ some k_ ≠ (.slice Ao51 y555.length co51 : Value).ownBlock) (.slice Ao41 y539.length co41) y539) := ⟨by (with_reducible repeat (first | apply Kd.R_alloc | apply Kd.R_drewN | apply Kd.R_drew)); exact Kd.R_mono (Kd.R_far (p := ⟨gb564, 1, none⟩) (Kd.R_far (p := ⟨gb564, 0, none⟩) (Kd.R_types HO541.out BK564.out (by decide)) (fun _ hk => hk.2) (.int .i64 t558)) (fun _ hk => hk.2) (.slice Ao57 t559.length co57)) (fun _ hk => ⟨hk.1.1, hk.1.2⟩)⟩
                    have n2_ : Aside0 (Kd.R k72 72 ((w53.setCell ⟨gb564, 0, none⟩ (.int .i64 t558)).setCell ⟨gb564, 1, none⟩ (.slice Ao57 t559.length co57)) w.heap.size (fun k_ => some k_ ≠ (.slice Ao57 t559.length co57 : Value).ownBlock) (.slice Ao46 t543.length co46) t543) := ⟨by (with_reducible repeat (first | apply Kd.R_alloc | apply Kd.R_drewN | apply Kd.R_drew)); exact Kd.R_mono (Kd.R_far (p := ⟨gb564, 1, none⟩) (Kd.R_far (p := ⟨gb564, 0, none⟩) (Kd.R_types HO545.out BK564.out (by decide)) (fun _ hk => hk.2) (.int .i64 t558)) (fun _ hk => hk.2) (.slice Ao57 t559.length co57)) (fun _ hk => hk.1.2)⟩
                    have n3_ : Aside0 (Kd.R (Kd.int .u8) 5 ((w53.setCell ⟨gb564, 0, none⟩ (.int .i64 t558)).setCell ⟨gb564, 1, none⟩ (.slice Ao57 t559.length co57)) w.heap.size (fun k_ => some k_ ≠ (.slice Ao39 t527.length co39 : Value).ownBlock ∧ some k_ ≠ (.slice Ao41 y539.length co41 : Value).ownBlock) (.slice Ao51 y555.length co51) y555) := ⟨by (with_reducible repeat (first | apply Kd.R_alloc | apply Kd.R_drewN | apply Kd.R_drew)); exact Kd.R_mono (Kd.R_far (p := ⟨gb564, 1, none⟩) (Kd.R_far (p := ⟨gb564, 0, none⟩) (Kd.R_types HO557.out BK564.out (by decide)) (fun _ hk => hk.2) (.int .i64 t558)) (fun _ hk => hk.2) (.slice Ao57 t559.length co57)) (fun _ hk => ⟨hk.1.1, hk.1.2⟩)⟩
                    have n4_ : Aside0 (Kd.R k72 72 ((w53.setCell ⟨gb564, 0, none⟩ (.int .i64 t558)).setCell ⟨gb564, 1, none⟩ (.slice Ao57 t559.length co57)) w.heap.size (fun k_ => some k_ ≠ (.slice Ao46 t543.length co46 : Value).ownBlock) (.slice Ao57 t559.length co57) t559) := ⟨by (with_reducible repeat (first | apply Kd.R_alloc | apply Kd.R_drewN | apply Kd.R_drew)); exact Kd.R_mono (Kd.R_far (p := ⟨gb564, 1, none⟩) (Kd.R_far (p := ⟨gb564, 0, none⟩) (Kd.R_types HO561.out BK564.out (by decide)) (fun _ hk => hk.2) (.int .i64 t558)) (fun _ hk => hk.2) (.slice Ao57 t559.length co57)) (fun _ hk => hk.1.2)⟩
                    have n5_ : Aside0 (((w53.setCell ⟨gb564, 0, none⟩ (.int .i64 t558)).setCell ⟨gb564, 1, none⟩ (.slice Ao57 t559.length co57)).heap[gb525]? = some (.cells #[.int .i64 a0_0, .slice A0_1 l0_1.length c0_1] 53 (0, 0))) := ⟨by (with_reducible repeat (first | refine blk_drewN ?_ _ | refine blk_drew ?_ | refine blk_alloc ?_ _)); refine blk_far ?_ NB525_564.out _; (with_reducible repeat (first | refine blk_drewN ?_ _ | refine blk_drew ?_ | refine blk_alloc ?_ _)); refine blk_far ?_ NB525_564.out _; (with_reducible repeat (first | refine blk_drewN ?_ _ | refine blk_drew ?_ | refine blk_alloc ?_ _)); exact BK525.out⟩
                    have n6_ : Aside0 (((w53.setCell ⟨gb564, 0, none⟩ (.int .i64 t558)).setCell ⟨gb564, 1, none⟩ (.slice Ao57 t559.length co57)).heap[gb548]? = some (.cells #[.int .i64 t542, .slice Ao46 t543.length co46] 53 (0, 0))) := ⟨by (with_reducible repeat (first | refine blk_drewN ?_ _ | refine blk_drew ?_ | refine blk_alloc ?_ _)); refine blk_far ?_ NB548_564.out _; (with_reducible repeat (first | refine blk_drewN ?_ _ | refine blk_drew ?_ | refine blk_alloc ?_ _)); refine blk_far ?_ NB548_564.out _; (with_reducible repeat (first | refine blk_drewN ?_ _ | refine blk_drew ?_ | refine blk_alloc ?_ _)); exact BK548.out⟩
                    have n7_ : Aside0 (((w53.setCell ⟨gb564, 0, none⟩ (.int .i64 t558)).setCell ⟨gb564, 1, none⟩ (.slice Ao57 t559.length co57)).heap[gb564]? = some (.cells #[.int .i64 t558, .slice Ao57 t559.length co57] 53 (0, 0))) := ⟨by (with_reducible repeat (first | refine blk_drewN ?_ _ | refine blk_drew ?_ | refine blk_alloc ?_ _)); refine blk_put (cs := #[.int .i64 t558, .slice none 0 0]) ?_ 1 _ rfl; (with_reducible repeat (first | refine blk_drewN ?_ _ | refine blk_drew ?_ | refine blk_alloc ?_ _)); refine blk_put (cs := #[.int .i64 0, .slice none 0 0]) ?_ 0 _ rfl; (with_reducible repeat (first | refine blk_drewN ?_ _ | refine blk_drew ?_ | refine blk_alloc ?_ _)); exact BK564.out⟩
                    have n8_ : Aside0 (Below w.heap.size w ((w53.setCell ⟨gb564, 0, none⟩ (.int .i64 t558)).setCell ⟨gb564, 1, none⟩ (.slice Ao57 t559.length co57))) := ⟨(kl HB)⟩
                    (try clear HO_6)
                    (try clear HO541)
                    (try clear HO545)
                    (try clear HO557)
                    (try clear HO561)
                    (try clear BK525)
                    (try clear BK548)
                    (try clear BK564)
                    (try clear HB)
                    generalize ((w53.setCell ⟨gb564, 0, none⟩ (.int .i64 t558)).setCell ⟨gb564, 1, none⟩ (.slice Ao57 t559.length co57)) = w77 at n0_ n1_ n2_ n3_ n4_ n5_ n6_ n7_ n8_ ⊢
                    have HO_6 := n0_
                    have HO541 := n1_
                    have HO545 := n2_
                    have HO557 := n3_
                    have HO561 := n4_
                    have BK525 := n5_
                    have BK548 := n6_
                    have BK564 := n7_
                    have HB := n8_
                    clear n0_ n1_ n2_ n3_ n4_ n5_ n6_ n7_ n8_
                    replace HO_6 := Aside0.mk (Kd.R_drew HO_6.out)
                    replace HO541 := Aside0.mk (Kd.R_drew HO541.out)
                    replace HO545 := Aside0.mk (Kd.R_drew HO545.out)
                    replace HO557 := Aside0.mk (Kd.R_drew HO557.out)
                    replace HO561 := Aside0.mk (Kd.R_drew HO561.out)
                    replace BK525 := Aside0.mk (blk_drew BK525.out)
                    replace BK548 := Aside0.mk (blk_drew BK548.out)
                    replace BK564 := Aside0.mk (blk_drew BK564.out)
                    replace HB := Aside0.mk (below_drew1 HB.out)
                    refine start_ (n := 30) (S := fun w' => w'.cell? ⟨gb548, 0, none⟩ = some (.int .i64 t542) ∧ w'.cell? ⟨gb548, 1, none⟩ = some (.slice Ao46 t543.length co46) ∧ w'.cell? ⟨gb525, 0, none⟩ = some (.int .i64 a0_0) ∧ w'.cell? ⟨gb525, 1, none⟩ = some (.slice A0_1 l0_1.length c0_1)) (ds := []) (bl 30 0) (by kernel_rfl) rfl rfl kz (fun hHeld => ?_); refine with_tabW gaiterlaw14_IndexBack.tab13 gaiterlaw14_IndexBack.bits13 (fun HT_ HW_ => ?_)
                    generalize w77.drew = w78 at HO_6 HO541 HO545 HO557 HO561 BK525 BK548 BK564 HB hHeld ⊢
                    refine pu 0 (some 88) (bl 30 1) (h := ?_)
                    refine pu 1 (some 89) (bl 30 3) (h := ?_)
                    refine pu 2 (some 90) (bl 30 7) (h := ?_)
                    refine pu 3 (some 91) (bl 30 15) (h := ?_)
                    refine pu 4 (some 92) (bl 30 31) (h := ?_)
                    refine pu 5 (some 93) (bl 30 63) (h := ?_)
                    refine pu 6 (some 94) (bl 30 127) (h := ?_)
                    refine pu 7 (some 95) (bl 30 255) (h := ?_)
                    refine pu 8 (some 96) (bl 30 511) (h := ?_)
                    refine pu 9 (some 97) (bl 30 1023) (h := ?_)
                    refine pu 11 (some 99) (bl 30 3071) (h := ?_)
                    refine ta 10 (some 98) (bl 30 4095) (h := ?_)
                    refine ta 12 (some 100) (bl 30 8191) (h := ?_)
                    refine pu 13 (some 101) (bl 30 16383) (h := ?_)
                    refine pu 14 (some 102) (bl 30 32767) (h := ?_)
                    refine pu 15 (some 103) (bl 30 65535) (h := ?_)
                    refine pure_ (i := 16) (N := some 104) (v := undef) (a' := ?_) #[true, true, true, true, true, true, true, true, true, true, true, true, true, true, true, true, true, false, false, false, false, false, false, false, false, false, false, false, false, false] rfl rfl (any_of HT_.out (by kernel_rfl)) (fun _ _ _ h => h) (Or.inr ⟨by rfl, rfl⟩) ?_ ?_
                    rotate_left
                    ·simp only [Act.put, List.setIfInBounds_toArray, List.set_cons_zero, List.set_cons_succ, i64_w, i32_w]
                     rfl
                    refine pure_ (i := 17) (N := some 105) (v := undef) (a' := ?_) #[true, true, true, true, true, true, true, true, true, true, true, true, true, true, true, true, true, true, false, false, false, false, false, false, false, false, false, false, false, false] rfl rfl (any_of HT_.out (by kernel_rfl)) (fun _ _ _ h => h) (Or.inr ⟨by rfl, rfl⟩) ?_ ?_
                    rotate_left
                    ·simp only [Act.put, List.setIfInBounds_toArray, List.set_cons_zero, List.set_cons_succ, i64_w, i32_w]
                     rfl
                    refine pure_ (i := 18) (N := some 106) (v := undef) (a' := ?_) #[true, true, true, true, true, true, true, true, true, true, true, true, true, true, true, true, true, true, true, false, false, false, false, false, false, false, false, false, false, false] rfl rfl (any_of HT_.out (by kernel_rfl)) (fun _ _ _ h => h) (Or.inr ⟨by rfl, rfl⟩) ?_ ?_
                    rotate_left
                    ·simp only [Act.put, List.setIfInBounds_toArray, List.set_cons_zero, List.set_cons_succ, i64_w, i32_w]
                     rfl
                    refine pure_ (i := 19) (N := some 107) (v := undef) (a' := ?_) #[true, true, true, true, true, true, true, true, true, true, true, true, true, true, true, true, true, true, true, true, false, false, false, false, false, false, false, false, false, false] rfl rfl (any_of HT_.out (by kernel_rfl)) (fun _ _ _ h => h) (Or.inr ⟨by rfl, rfl⟩) ?_ ?_
                    rotate_left
                    ·simp only [Act.put, List.setIfInBounds_toArray, List.set_cons_zero, List.set_cons_succ, i64_w, i32_w]
                     rfl
                    refine pure_ (i := 20) (N := some 108) (v := undef) (a' := ?_) #[true, true, true, true, true, true, true, true, true, true, true, true, true, true, true, true, true, true, true, true, true, false, false, false, false, false, false, false, false, false] rfl rfl (any_of HT_.out (by kernel_rfl)) (fun _ _ _ h => h) (Or.inr ⟨by rfl, rfl⟩) ?_ ?_
                    rotate_left
                    ·simp only [Act.put, List.setIfInBounds_toArray, List.set_cons_zero, List.set_cons_succ, i64_w, i32_w]
                     rfl
                    refine pure_ (i := 21) (N := some 109) (v := undef) (a' := ?_) #[true, true, true, true, true, true, true, true, true, true, true, true, true, true, true, true, true, true, true, true, true, true, false, false, false, false, false, false, false, false] rfl rfl (any_of HT_.out (by kernel_rfl)) (fun _ _ _ h => h) (Or.inr ⟨by rfl, rfl⟩) ?_ ?_
                    rotate_left
                    ·simp only [Act.put, List.setIfInBounds_toArray, List.set_cons_zero, List.set_cons_succ, i64_w, i32_w]
                     rfl
                    refine pure_ (i := 22) (N := some 110) (v := undef) (a' := ?_) #[true, true, true, true, true, true, true, true, true, true, true, true, true, true, true, true, true, true, true, true, true, true, true, false, false, false, false, false, false, false] rfl rfl (any_of HT_.out (by kernel_rfl)) (fun _ _ _ h => h) (Or.inr ⟨by rfl, rfl⟩) ?_ ?_
                    rotate_left
                    ·simp only [Act.put, List.setIfInBounds_toArray, List.set_cons_zero, List.set_cons_succ, i64_w, i32_w]
                     rfl
                    refine pure_ (i := 23) (N := some 111) (v := undef) (a' := ?_) #[true, true, true, true, true, true, true, true, true, true, true, true, true, true, true, true, true, true, true, true, true, true, true, true, false, false, false, false, false, false] rfl rfl (any_of HT_.out (by kernel_rfl)) (fun _ _ _ h => h) (Or.inr ⟨by rfl, rfl⟩) ?_ ?_
                    rotate_left
                    ·simp only [Act.put, List.setIfInBounds_toArray, List.set_cons_zero, List.set_cons_succ, i64_w, i32_w]
                     rfl
                    refine pu 24 (some 112) (bl 30 33554431) (h := ?_)
                    refine pu 25 (some 113) (bl 30 67108863) (h := ?_)
                    refine pure_ (i := 26) (N := some 114) (v := undef) (a' := ?_) #[true, true, true, true, true, true, true, true, true, true, true, true, true, true, true, true, true, true, true, true, true, true, true, true, true, true, true, false, false, false] rfl rfl (any_of HT_.out (by kernel_rfl)) (fun _ _ _ h => h) (Or.inr ⟨by rfl, rfl⟩) ?_ ?_
                    rotate_left
                    ·simp only [Act.put, List.setIfInBounds_toArray, List.set_cons_zero, List.set_cons_succ, i64_w, i32_w]
                     rfl
                    refine pure_ (i := 27) (N := some 115) (v := undef) (a' := ?_) #[true, true, true, true, true, true, true, true, true, true, true, true, true, true, true, true, true, true, true, true, true, true, true, true, true, true, true, true, false, false] rfl rfl (any_of HT_.out (by kernel_rfl)) (fun _ _ _ h => h) (Or.inr ⟨by rfl, rfl⟩) ?_ ?_
                    rotate_left
                    ·simp only [Act.put, List.setIfInBounds_toArray, List.set_cons_zero, List.set_cons_succ, i64_w, i32_w]
                     rfl
                    refine pure_ (i := 28) (N := some 116) (v := undef) (a' := ?_) #[true, true, true, true, true, true, true, true, true, true, true, true, true, true, true, true, true, true, true, true, true, true, true, true, true, true, true, true, true, false] rfl rfl (any_of HT_.out (by kernel_rfl)) (fun _ _ _ h => h) (Or.inr ⟨by rfl, rfl⟩) ?_ ?_
                    rotate_left
                    ·simp only [Act.put, List.setIfInBounds_toArray, List.set_cons_zero, List.set_cons_succ, i64_w, i32_w]
                     rfl
                    refine pu 29 (some 117) (bl 30 1073741823) (h := ?_)
                    refine done_ (done_of HT_.out (by kernel_rfl)) ?_
                    try go_wp2
                    go_meet
                    case rel => exact ⟨_, (true), (by first | rfl | (simp; done) | (simp [*]; done)), H', ⟨by have := HJ3.out; have := HJ11.out; have := HJ22.out; first | omega | exact Nat.le_refl _⟩, ⟨by (with_reducible repeat (first | apply Kd.R_alloc | apply Kd.R_drewN | apply Kd.R_drew)); exact Kd.R_mono HO_6.out (fun _ hk => trivial)⟩, ⟨kr HO545⟩, ⟨kr HO561⟩, ⟨kb BK525⟩, ⟨kb BK548⟩, ⟨kb BK564⟩, ⟨(kl HB)⟩⟩
                  ·as_aux_lemma =>
                   rw [if_neg c58] at H
                   have c58b0 : (t546 == (t527.length : Int)) = false := beq_eq_false_iff_ne.mpr c58
                   have c58b1 : (t546 != (t527.length : Int)) = true := bne_iff_ne.mpr c58
                   (first | rw [c58b0] | (simp only [i64_w, i32_w]; rw [c58b0]) | skip)
                   have H' := Aside0.mk H
                   clear H
                   try go_wp2
                   have n0_ : Aside0 (Kd.R (Kd.int .u8) 5 ((w53.setCell ⟨gb564, 0, none⟩ (.int .i64 t558)).setCell ⟨gb564, 1, none⟩ (.slice Ao57 t559.length co57)) w.heap.size (fun k_ => some k_ ≠ (.slice Ao41 y539.length co41 : Value).ownBlock ∧ some k_ ≠ (.slice Ao51 y555.length co51 : Value).ownBlock) (.slice Ao39 t527.length co39) t527) := ⟨by (with_reducible repeat (first | apply Kd.R_alloc | apply Kd.R_drewN | apply Kd.R_drew)); exact Kd.R_mono (Kd.R_far (p := ⟨gb564, 1, none⟩) (Kd.R_far (p := ⟨gb564, 0, none⟩) (Kd.R_types HO_6.out BK564.out (by decide)) (fun _ hk => hk.2) (.int .i64 t558)) (fun _ hk => hk.2) (.slice Ao57 t559.length co57)) (fun _ hk => ⟨hk.1.1, hk.1.2⟩)⟩
                   have n1_ : Aside0 (Kd.R (Kd.int .u8) 5 ((w53.setCell ⟨gb564, 0, none⟩ (.int .i64 t558)).setCell ⟨gb564, 1, none⟩ (.slice Ao57 t559.length co57)) w.heap.size (fun k_ => some k_ ≠ (.slice Ao39 t527.length co39 : Value).ownBlock ∧ some k_ ≠ (.slice Ao51 y555.length co51 : Value).ownBlock) (.slice Ao41 y539.length co41) y539) := ⟨by (with_reducible repeat (first | apply Kd.R_alloc | apply Kd.R_drewN | apply Kd.R_drew)); exact Kd.R_mono (Kd.R_far (p := ⟨gb564, 1, none⟩) (Kd.R_far (p := ⟨gb564, 0, none⟩) (Kd.R_types HO541.out BK564.out (by decide)) (fun _ hk => hk.2) (.int .i64 t558)) (fun _ hk => hk.2) (.slice Ao57 t559.length co57)) (fun _ hk => ⟨hk.1.1, hk.1.2⟩)⟩
                   have n2_ : Aside0 (Kd.R k72 72 ((w53.setCell ⟨gb564, 0, none⟩ (.int .i64 t558)).setCell ⟨gb564, 1, none⟩ (.slice Ao57 t559.length co57)) w.heap.size (fun k_ => some k_ ≠ (.slice Ao57 t559.length co57 : Value).ownBlock) (.slice Ao46 t543.length co46) t543) := ⟨by (with_reducible repeat (first | apply Kd.R_alloc | apply Kd.R_drewN | apply Kd.R_drew)); exact Kd.R_mono (Kd.R_far (p := ⟨gb564, 1, none⟩) (Kd.R_far (p := ⟨gb564, 0, none⟩) (Kd.R_types HO545.out BK564.out (by decide)) (fun _ hk => hk.2) (.int .i64 t558)) (fun _ hk => hk.2) (.slice Ao57 t559.length co57)) (fun _ hk => hk.1.2)⟩
                   have n3_ : Aside0 (Kd.R (Kd.int .u8) 5 ((w53.setCell ⟨gb564, 0, none⟩ (.int .i64 t558)).setCell ⟨gb564, 1, none⟩ (.slice Ao57 t559.length co57)) w.heap.size (fun k_ => some k_ ≠ (.slice Ao39 t527.length co39 : Value).ownBlock ∧ some k_ ≠ (.slice Ao41 y539.length co41 : Value).ownBlock) (.slice Ao51 y555.length co51) y555) := ⟨by (with_reducible repeat (first | apply Kd.R_alloc | apply Kd.R_drewN | apply Kd.R_drew)); exact Kd.R_mono (Kd.R_far (p := ⟨gb564, 1, none⟩) (Kd.R_far (p := ⟨gb564, 0, none⟩) (Kd.R_types HO557.out BK564.out (by decide)) (fun _ hk => hk.2) (.int .i64 t558)) (fun _ hk => hk.2) (.slice Ao57 t559.length co57)) (fun _ hk => ⟨hk.1.1, hk.1.2⟩)⟩
                   have n4_ : Aside0 (Kd.R k72 72 ((w53.setCell ⟨gb564, 0, none⟩ (.int .i64 t558)).setCell ⟨gb564, 1, none⟩ (.slice Ao57 t559.length co57)) w.heap.size (fun k_ => some k_ ≠ (.slice Ao46 t543.length co46 : Value).ownBlock) (.slice Ao57 t559.length co57) t559) := ⟨by (with_reducible repeat (first | apply Kd.R_alloc | apply Kd.R_drewN | apply Kd.R_drew)); exact Kd.R_mono (Kd.R_far (p := ⟨gb564, 1, none⟩) (Kd.R_far (p := ⟨gb564, 0, none⟩) (Kd.R_types HO561.out BK564.out (by decide)) (fun _ hk => hk.2) (.int .i64 t558)) (fun _ hk => hk.2) (.slice Ao57 t559.length co57)) (fun _ hk => hk.1.2)⟩
                   have n5_ : Aside0 (((w53.setCell ⟨gb564, 0, none⟩ (.int .i64 t558)).setCell ⟨gb564, 1, none⟩ (.slice Ao57 t559.length co57)).heap[gb525]? = some (.cells #[.int .i64 a0_0, .slice A0_1 l0_1.length c0_1] 53 (0, 0))) := ⟨by (with_reducible repeat (first | refine blk_drewN ?_ _ | refine blk_drew ?_ | refine blk_alloc ?_ _)); refine blk_far ?_ NB525_564.out _; (with_reducible repeat (first | refine blk_drewN ?_ _ | refine blk_drew ?_ | refine blk_alloc ?_ _)); refine blk_far ?_ NB525_564.out _; (with_reducible repeat (first | refine blk_drewN ?_ _ | refine blk_drew ?_ | refine blk_alloc ?_ _)); exact BK525.out⟩
                   have n6_ : Aside0 (((w53.setCell ⟨gb564, 0, none⟩ (.int .i64 t558)).setCell ⟨gb564, 1, none⟩ (.slice Ao57 t559.length co57)).heap[gb548]? = some (.cells #[.int .i64 t542, .slice Ao46 t543.length co46] 53 (0, 0))) := ⟨by (with_reducible repeat (first | refine blk_drewN ?_ _ | refine blk_drew ?_ | refine blk_alloc ?_ _)); refine blk_far ?_ NB548_564.out _; (with_reducible repeat (first | refine blk_drewN ?_ _ | refine blk_drew ?_ | refine blk_alloc ?_ _)); refine blk_far ?_ NB548_564.out _; (with_reducible repeat (first | refine blk_drewN ?_ _ | refine blk_drew ?_ | refine blk_alloc ?_ _)); exact BK548.out⟩
                   have n7_ : Aside0 (((w53.setCell ⟨gb564, 0, none⟩ (.int .i64 t558)).setCell ⟨gb564, 1, none⟩ (.slice Ao57 t559.length co57)).heap[gb564]? = some (.cells #[.int .i64 t558, .slice Ao57 t559.length co57] 53 (0, 0))) := ⟨by (with_reducible repeat (first | refine blk_drewN ?_ _ | refine blk_drew ?_ | refine blk_alloc ?_ _)); refine blk_put (cs := #[.int .i64 t558, .slice none 0 0]) ?_ 1 _ rfl; (with_reducible repeat (first | refine blk_drewN ?_ _ | refine blk_drew ?_ | refine blk_alloc ?_ _)); refine blk_put (cs := #[.int .i64 0, .slice none 0 0]) ?_ 0 _ rfl; (with_reducible repeat (first | refine blk_drewN ?_ _ | refine blk_drew ?_ | refine blk_alloc ?_ _)); exact BK564.out⟩
                   have n8_ : Aside0 (Below w.heap.size w ((w53.setCell ⟨gb564, 0, none⟩ (.int .i64 t558)).setCell ⟨gb564, 1, none⟩ (.slice Ao57 t559.length co57))) := ⟨(kl HB)⟩
                   (try clear HO_6)
                   (try clear HO541)
                   (try clear HO545)
                   (try clear HO557)
                   (try clear HO561)
                   (try clear BK525)
                   (try clear BK548)
                   (try clear BK564)
                   (try clear HB)
                   generalize ((w53.setCell ⟨gb564, 0, none⟩ (.int .i64 t558)).setCell ⟨gb564, 1, none⟩ (.slice Ao57 t559.length co57)) = w79 at n0_ n1_ n2_ n3_ n4_ n5_ n6_ n7_ n8_ ⊢
                   have HO_6 := n0_
                   have HO541 := n1_
                   have HO545 := n2_
                   have HO557 := n3_
                   have HO561 := n4_
                   have BK525 := n5_
                   have BK548 := n6_
                   have BK564 := n7_
                   have HB := n8_
                   clear n0_ n1_ n2_ n3_ n4_ n5_ n6_ n7_ n8_
                   replace HO_6 := Aside0.mk (Kd.R_drew HO_6.out)
                   replace HO541 := Aside0.mk (Kd.R_drew HO541.out)
                   replace HO545 := Aside0.mk (Kd.R_drew HO545.out)
                   replace HO557 := Aside0.mk (Kd.R_drew HO557.out)
                   replace HO561 := Aside0.mk (Kd.R_drew HO561.out)
                   replace BK525 := Aside0.mk (blk_drew BK525.out)
                   replace BK548 := Aside0.mk (blk_drew BK548.out)
                   replace BK564 := Aside0.mk (blk_drew BK564.out)
                   replace HB := Aside0.mk (below_drew1 HB.out)
                   refine start_ (n := 30) (S := fun w' => True) (ds := []) (bl 30 0) (by kernel_rfl) rfl rfl trivial (fun hHeld => ?_); refine with_tabW gaiterlaw14_IndexBack.tab13 gaiterlaw14_IndexBack.bits13 (fun HT_ HW_ => ?_)
                   generalize w79.drew = w80 at HO_6 HO541 HO545 HO557 HO561 BK525 BK548 BK564 HB hHeld ⊢
                   refine pu 0 (some 88) (bl 30 1) (h := ?_)
                   refine pu 1 (some 89) (bl 30 3) (h := ?_)
                   refine pu 2 (some 90) (bl 30 7) (h := ?_)
                   refine pu 3 (some 91) (bl 30 15) (h := ?_)
                   refine pu 4 (some 92) (bl 30 31) (h := ?_)
                   refine pu 5 (some 93) (bl 30 63) (h := ?_)
                   refine pu 6 (some 94) (bl 30 127) (h := ?_)
                   refine pu 7 (some 95) (bl 30 255) (h := ?_)
                   refine pu 8 (some 96) (bl 30 511) (h := ?_)
                   refine pure_ (i := 9) (N := some 97) (v := undef) (a' := ?_) #[true, true, true, true, true, true, true, true, true, true, false, false, false, false, false, false, false, false, false, false, false, false, false, false, false, false, false, false, false, false] rfl rfl (any_of HT_.out (by kernel_rfl)) (fun _ _ _ h => h) (Or.inr ⟨by rfl, rfl⟩) ?_ ?_
                   rotate_left
                   ·simp only [Act.put, List.setIfInBounds_toArray, List.set_cons_zero, List.set_cons_succ, i64_w, i32_w]
                    rfl
                   refine pure_ (i := 10) (N := some 98) (v := undef) (a' := ?_) #[true, true, true, true, true, true, true, true, true, true, true, false, false, false, false, false, false, false, false, false, false, false, false, false, false, false, false, false, false, false] rfl rfl (any_of HT_.out (by kernel_rfl)) (fun _ _ _ h => h) (Or.inr ⟨by rfl, rfl⟩) ?_ ?_
                   rotate_left
                   ·simp only [Act.put, List.setIfInBounds_toArray, List.set_cons_zero, List.set_cons_succ, i64_w, i32_w]
                    rfl
                   refine pure_ (i := 11) (N := some 99) (v := undef) (a' := ?_) #[true, true, true, true, true, true, true, true, true, true, true, true, false, false, false, false, false, false, false, false, false, false, false, false, false, false, false, false, false, false] rfl rfl (any_of HT_.out (by kernel_rfl)) (fun _ _ _ h => h) (Or.inr ⟨by rfl, rfl⟩) ?_ ?_
                   rotate_left
                   ·simp only [Act.put, List.setIfInBounds_toArray, List.set_cons_zero, List.set_cons_succ, i64_w, i32_w]
                    rfl
                   refine pure_ (i := 12) (N := some 100) (v := undef) (a' := ?_) #[true, true, true, true, true, true, true, true, true, true, true, true, true, false, false, false, false, false, false, false, false, false, false, false, false, false, false, false, false, false] rfl rfl (any_of HT_.out (by kernel_rfl)) (fun _ _ _ h => h) (Or.inr ⟨by rfl, rfl⟩) ?_ ?_
                   rotate_left
                   ·simp only [Act.put, List.setIfInBounds_toArray, List.set_cons_zero, List.set_cons_succ, i64_w, i32_w]
                    rfl
                   refine pure_ (i := 13) (N := some 101) (v := undef) (a' := ?_) #[true, true, true, true, true, true, true, true, true, true, true, true, true, true, false, false, false, false, false, false, false, false, false, false, false, false, false, false, false, false] rfl rfl (any_of HT_.out (by kernel_rfl)) (fun _ _ _ h => h) (Or.inr ⟨by rfl, rfl⟩) ?_ ?_
                   rotate_left
                   ·simp only [Act.put, List.setIfInBounds_toArray, List.set_cons_zero, List.set_cons_succ, i64_w, i32_w]
                    rfl
                   refine pu 14 (some 102) (bl 30 32767) (h := ?_)
                   refine pu 15 (some 103) (bl 30 65535) (h := ?_)
                   refine pure_ (i := 16) (N := some 104) (v := undef) (a' := ?_) #[true, true, true, true, true, true, true, true, true, true, true, true, true, true, true, true, true, false, false, false, false, false, false, false, false, false, false, false, false, false] rfl rfl (any_of HT_.out (by kernel_rfl)) (fun _ _ _ h => h) (Or.inr ⟨by rfl, rfl⟩) ?_ ?_
                   rotate_left
                   ·simp only [Act.put, List.setIfInBounds_toArray, List.set_cons_zero, List.set_cons_succ, i64_w, i32_w]
                    rfl
                   refine pure_ (i := 17) (N := some 105) (v := undef) (a' := ?_) #[true, true, true, true, true, true, true, true, true, true, true, true, true, true, true, true, true, true, false, false, false, false, false, false, false, false, false, false, false, false] rfl rfl (any_of HT_.out (by kernel_rfl)) (fun _ _ _ h => h) (Or.inr ⟨by rfl, rfl⟩) ?_ ?_
                   rotate_left
                   ·simp only [Act.put, List.setIfInBounds_toArray, List.set_cons_zero, List.set_cons_succ, i64_w, i32_w]
                    rfl
                   refine pure_ (i := 18) (N := some 106) (v := undef) (a' := ?_) #[true, true, true, true, true, true, true, true, true, true, true, true, true, true, true, true, true, true, true, false, false, false, false, false, false, false, false, false, false, false] rfl rfl (any_of HT_.out (by kernel_rfl)) (fun _ _ _ h => h) (Or.inr ⟨by rfl, rfl⟩) ?_ ?_
                   rotate_left
                   ·simp only [Act.put, List.setIfInBounds_toArray, List.set_cons_zero, List.set_cons_succ, i64_w, i32_w]
                    rfl
                   refine pure_ (i := 19) (N := some 107) (v := undef) (a' := ?_) #[true, true, true, true, true, true, true, true, true, true, true, true, true, true, true, true, true, true, true, true, false, false, false, false, false, false, false, false, false, false] rfl rfl (any_of HT_.out (by kernel_rfl)) (fun _ _ _ h => h) (Or.inr ⟨by rfl, rfl⟩) ?_ ?_
                   rotate_left
                   ·simp only [Act.put, List.setIfInBounds_toArray, List.set_cons_zero, List.set_cons_succ, i64_w, i32_w]
                    rfl
                   refine pure_ (i := 20) (N := some 108) (v := undef) (a' := ?_) #[true, true, true, true, true, true, true, true, true, true, true, true, true, true, true, true, true, true, true, true, true, false, false, false, false, false, false, false, false, false] rfl rfl (any_of HT_.out (by kernel_rfl)) (fun _ _ _ h => h) (Or.inr ⟨by rfl, rfl⟩) ?_ ?_
                   rotate_left
                   ·simp only [Act.put, List.setIfInBounds_toArray, List.set_cons_zero, List.set_cons_succ, i64_w, i32_w]
                    rfl
                   refine pure_ (i := 21) (N := some 109) (v := undef) (a' := ?_) #[true, true, true, true, true, true, true, true, true, true, true, true, true, true, true, true, true, true, true, true, true, true, false, false, false, false, false, false, false, false] rfl rfl (any_of HT_.out (by kernel_rfl)) (fun _ _ _ h => h) (Or.inr ⟨by rfl, rfl⟩) ?_ ?_
                   rotate_left
                   ·simp only [Act.put, List.setIfInBounds_toArray, List.set_cons_zero, List.set_cons_succ, i64_w, i32_w]
                    rfl
                   refine pure_ (i := 22) (N := some 110) (v := undef) (a' := ?_) #[true, true, true, true, true, true, true, true, true, true, true, true, true, true, true, true, true, true, true, true, true, true, true, false, false, false, false, false, false, false] rfl rfl (any_of HT_.out (by kernel_rfl)) (fun _ _ _ h => h) (Or.inr ⟨by rfl, rfl⟩) ?_ ?_
                   rotate_left
                   ·simp only [Act.put, List.setIfInBounds_toArray, List.set_cons_zero, List.set_cons_succ, i64_w, i32_w]
                    rfl
                   refine pure_ (i := 23) (N := some 111) (v := undef) (a' := ?_) #[true, true, true, true, true, true, true, true, true, true, true, true, true, true, true, true, true, true, true, true, true, true, true, true, false, false, false, false, false, false] rfl rfl (any_of HT_.out (by kernel_rfl)) (fun _ _ _ h => h) (Or.inr ⟨by rfl, rfl⟩) ?_ ?_
                   rotate_left
                   ·simp only [Act.put, List.setIfInBounds_toArray, List.set_cons_zero, List.set_cons_succ, i64_w, i32_w]
                    rfl
                   refine pu 24 (some 112) (bl 30 33554431) (h := ?_)
                   refine pu 25 (some 113) (bl 30 67108863) (h := ?_)
                   refine pure_ (i := 26) (N := some 114) (v := undef) (a' := ?_) #[true, true, true, true, true, true, true, true, true, true, true, true, true, true, true, true, true, true, true, true, true, true, true, true, true, true, true, false, false, false] rfl rfl (any_of HT_.out (by kernel_rfl)) (fun _ _ _ h => h) (Or.inr ⟨by rfl, rfl⟩) ?_ ?_
                   rotate_left
                   ·simp only [Act.put, List.setIfInBounds_toArray, List.set_cons_zero, List.set_cons_succ, i64_w, i32_w]
                    rfl
                   refine pure_ (i := 27) (N := some 115) (v := undef) (a' := ?_) #[true, true, true, true, true, true, true, true, true, true, true, true, true, true, true, true, true, true, true, true, true, true, true, true, true, true, true, true, false, false] rfl rfl (any_of HT_.out (by kernel_rfl)) (fun _ _ _ h => h) (Or.inr ⟨by rfl, rfl⟩) ?_ ?_
                   rotate_left
                   ·simp only [Act.put, List.setIfInBounds_toArray, List.set_cons_zero, List.set_cons_succ, i64_w, i32_w]
                    rfl
                   refine pure_ (i := 28) (N := some 116) (v := undef) (a' := ?_) #[true, true, true, true, true, true, true, true, true, true, true, true, true, true, true, true, true, true, true, true, true, true, true, true, true, true, true, true, true, false] rfl rfl (any_of HT_.out (by kernel_rfl)) (fun _ _ _ h => h) (Or.inr ⟨by rfl, rfl⟩) ?_ ?_
                   rotate_left
                   ·simp only [Act.put, List.setIfInBounds_toArray, List.set_cons_zero, List.set_cons_succ, i64_w, i32_w]
                    rfl
                   refine pu 29 (some 117) (bl 30 1073741823) (h := ?_)
                   refine done_ (done_of HT_.out (by kernel_rfl)) ?_
                   try go_wp2
                   go_meet
                   case rel => exact ⟨_, (true), (by first | rfl | (simp; done) | (simp [*]; done)), H', ⟨by have := HJ3.out; have := HJ11.out; have := HJ22.out; first | omega | exact Nat.le_refl _⟩, ⟨by (with_reducible repeat (first | apply Kd.R_alloc | apply Kd.R_drewN | apply Kd.R_drew)); exact Kd.R_mono HO_6.out (fun _ hk => trivial)⟩, ⟨kr HO545⟩, ⟨kr HO561⟩, ⟨kb BK525⟩, ⟨kb BK548⟩, ⟨kb BK564⟩, ⟨(kl HB)⟩⟩
                 ·as_aux_lemma =>
                  have H1 : (gaiterlaw14_IndexBack.j4 kj22 l1 t526 t527 x8_11 true) = some r := by rw [if_neg (show ¬ (some q565).isNone = true by simp)] at H; exact H
                  clear H
                  have H := H1
                  clear H1
                  try simp only [errW_none, errW_some]
                  have H' := Aside0.mk H
                  clear H
                  try go_wp2
                  have n0_ : Aside0 (Kd.R (Kd.int .u8) 5 ((w53.setCell ⟨gb564, 0, none⟩ (.int .i64 t558)).setCell ⟨gb564, 1, none⟩ (.slice Ao57 t559.length co57)) w.heap.size (fun k_ => some k_ ≠ (.slice Ao41 y539.length co41 : Value).ownBlock ∧ some k_ ≠ (.slice Ao51 y555.length co51 : Value).ownBlock) (.slice Ao39 t527.length co39) t527) := ⟨by (with_reducible repeat (first | apply Kd.R_alloc | apply Kd.R_drewN | apply Kd.R_drew)); exact Kd.R_mono (Kd.R_far (p := ⟨gb564, 1, none⟩) (Kd.R_far (p := ⟨gb564, 0, none⟩) (Kd.R_types HO_6.out BK564.out (by decide)) (fun _ hk => hk.2) (.int .i64 t558)) (fun _ hk => hk.2) (.slice Ao57 t559.length co57)) (fun _ hk => ⟨hk.1.1, hk.1.2⟩)⟩
                  have n1_ : Aside0 (Kd.R (Kd.int .u8) 5 ((w53.setCell ⟨gb564, 0, none⟩ (.int .i64 t558)).setCell ⟨gb564, 1, none⟩ (.slice Ao57 t559.length co57)) w.heap.size (fun k_ => some k_ ≠ (.slice Ao39 t527.length co39 : Value).ownBlock ∧ some k_ ≠ (.slice Ao51 y555.length co51 : Value).ownBlock) (.slice Ao41 y539.length co41) y539) := ⟨by (with_reducible repeat (first | apply Kd.R_alloc | apply Kd.R_drewN | apply Kd.R_drew)); exact Kd.R_mono (Kd.R_far (p := ⟨gb564, 1, none⟩) (Kd.R_far (p := ⟨gb564, 0, none⟩) (Kd.R_types HO541.out BK564.out (by decide)) (fun _ hk => hk.2) (.int .i64 t558)) (fun _ hk => hk.2) (.slice Ao57 t559.length co57)) (fun _ hk => ⟨hk.1.1, hk.1.2⟩)⟩
                  have n2_ : Aside0 (Kd.R k72 72 ((w53.setCell ⟨gb564, 0, none⟩ (.int .i64 t558)).setCell ⟨gb564, 1, none⟩ (.slice Ao57 t559.length co57)) w.heap.size (fun k_ => some k_ ≠ (.slice Ao57 t559.length co57 : Value).ownBlock) (.slice Ao46 t543.length co46) t543) := ⟨by (with_reducible repeat (first | apply Kd.R_alloc | apply Kd.R_drewN | apply Kd.R_drew)); exact Kd.R_mono (Kd.R_far (p := ⟨gb564, 1, none⟩) (Kd.R_far (p := ⟨gb564, 0, none⟩) (Kd.R_types HO545.out BK564.out (by decide)) (fun _ hk => hk.2) (.int .i64 t558)) (fun _ hk => hk.2) (.slice Ao57 t559.length co57)) (fun _ hk => hk.1.2)⟩
                  have n3_ : Aside0 (Kd.R (Kd.int .u8) 5 ((w53.setCell ⟨gb564, 0, none⟩ (.int .i64 t558)).setCell ⟨gb564, 1, none⟩ (.slice Ao57 t559.length co57)) w.heap.size (fun k_ => some k_ ≠ (.slice Ao39 t527.length co39 : Value).ownBlock ∧ some k_ ≠ (.slice Ao41 y539.length co41 : Value).ownBlock) (.slice Ao51 y555.length co51) y555) := ⟨by (with_reducible repeat (first | apply Kd.R_alloc | apply Kd.R_drewN | apply Kd.R_drew)); exact Kd.R_mono (Kd.R_far (p := ⟨gb564, 1, none⟩) (Kd.R_far (p := ⟨gb564, 0, none⟩) (Kd.R_types HO557.out BK564.out (by decide)) (fun _ hk => hk.2) (.int .i64 t558)) (fun _ hk => hk.2) (.slice Ao57 t559.length co57)) (fun _ hk => ⟨hk.1.1, hk.1.2⟩)⟩
                  have n4_ : Aside0 (Kd.R k72 72 ((w53.setCell ⟨gb564, 0, none⟩ (.int .i64 t558)).setCell ⟨gb564, 1, none⟩ (.slice Ao57 t559.length co57)) w.heap.size (fun k_ => some k_ ≠ (.slice Ao46 t543.length co46 : Value).ownBlock) (.slice Ao57 t559.length co57) t559) := ⟨by (with_reducible repeat (first | apply Kd.R_alloc | apply Kd.R_drewN | apply Kd.R_drew)); exact Kd.R_mono (Kd.R_far (p := ⟨gb564, 1, none⟩) (Kd.R_far (p := ⟨gb564, 0, none⟩) (Kd.R_types HO561.out BK564.out (by decide)) (fun _ hk => hk.2) (.int .i64 t558)) (fun _ hk => hk.2) (.slice Ao57 t559.length co57)) (fun _ hk => hk.1.2)⟩
                  have n5_ : Aside0 (((w53.setCell ⟨gb564, 0, none⟩ (.int .i64 t558)).setCell ⟨gb564, 1, none⟩ (.slice Ao57 t559.length co57)).heap[gb525]? = some (.cells #[.int .i64 a0_0, .slice A0_1 l0_1.length c0_1] 53 (0, 0))) := ⟨by (with_reducible repeat (first | refine blk_drewN ?_ _ | refine blk_drew ?_ | refine blk_alloc ?_ _)); refine blk_far ?_ NB525_564.out _; (with_reducible repeat (first | refine blk_drewN ?_ _ | refine blk_drew ?_ | refine blk_alloc ?_ _)); refine blk_far ?_ NB525_564.out _; (with_reducible repeat (first | refine blk_drewN ?_ _ | refine blk_drew ?_ | refine blk_alloc ?_ _)); exact BK525.out⟩
                  have n6_ : Aside0 (((w53.setCell ⟨gb564, 0, none⟩ (.int .i64 t558)).setCell ⟨gb564, 1, none⟩ (.slice Ao57 t559.length co57)).heap[gb548]? = some (.cells #[.int .i64 t542, .slice Ao46 t543.length co46] 53 (0, 0))) := ⟨by (with_reducible repeat (first | refine blk_drewN ?_ _ | refine blk_drew ?_ | refine blk_alloc ?_ _)); refine blk_far ?_ NB548_564.out _; (with_reducible repeat (first | refine blk_drewN ?_ _ | refine blk_drew ?_ | refine blk_alloc ?_ _)); refine blk_far ?_ NB548_564.out _; (with_reducible repeat (first | refine blk_drewN ?_ _ | refine blk_drew ?_ | refine blk_alloc ?_ _)); exact BK548.out⟩
                  have n7_ : Aside0 (((w53.setCell ⟨gb564, 0, none⟩ (.int .i64 t558)).setCell ⟨gb564, 1, none⟩ (.slice Ao57 t559.length co57)).heap[gb564]? = some (.cells #[.int .i64 t558, .slice Ao57 t559.length co57] 53 (0, 0))) := ⟨by (with_reducible repeat (first | refine blk_drewN ?_ _ | refine blk_drew ?_ | refine blk_alloc ?_ _)); refine blk_put (cs := #[.int .i64 t558, .slice none 0 0]) ?_ 1 _ rfl; (with_reducible repeat (first | refine blk_drewN ?_ _ | refine blk_drew ?_ | refine blk_alloc ?_ _)); refine blk_put (cs := #[.int .i64 0, .slice none 0 0]) ?_ 0 _ rfl; (with_reducible repeat (first | refine blk_drewN ?_ _ | refine blk_drew ?_ | refine blk_alloc ?_ _)); exact BK564.out⟩
                  have n8_ : Aside0 (Below w.heap.size w ((w53.setCell ⟨gb564, 0, none⟩ (.int .i64 t558)).setCell ⟨gb564, 1, none⟩ (.slice Ao57 t559.length co57))) := ⟨(kl HB)⟩
                  (try clear HO_6)
                  (try clear HO541)
                  (try clear HO545)
                  (try clear HO557)
                  (try clear HO561)
                  (try clear BK525)
                  (try clear BK548)
                  (try clear BK564)
                  (try clear HB)
                  generalize ((w53.setCell ⟨gb564, 0, none⟩ (.int .i64 t558)).setCell ⟨gb564, 1, none⟩ (.slice Ao57 t559.length co57)) = w81 at n0_ n1_ n2_ n3_ n4_ n5_ n6_ n7_ n8_ ⊢
                  have HO_6 := n0_
                  have HO541 := n1_
                  have HO545 := n2_
                  have HO557 := n3_
                  have HO561 := n4_
                  have BK525 := n5_
                  have BK548 := n6_
                  have BK564 := n7_
                  have HB := n8_
                  clear n0_ n1_ n2_ n3_ n4_ n5_ n6_ n7_ n8_
                  replace HO_6 := Aside0.mk (Kd.R_drew HO_6.out)
                  replace HO541 := Aside0.mk (Kd.R_drew HO541.out)
                  replace HO545 := Aside0.mk (Kd.R_drew HO545.out)
                  replace HO557 := Aside0.mk (Kd.R_drew HO557.out)
                  replace HO561 := Aside0.mk (Kd.R_drew HO561.out)
                  replace BK525 := Aside0.mk (blk_drew BK525.out)
                  replace BK548 := Aside0.mk (blk_drew BK548.out)
                  replace BK564 := Aside0.mk (blk_drew BK564.out)
                  replace HB := Aside0.mk (below_drew1 HB.out)
                  refine start_ (n := 30) (S := fun w' => True) (ds := []) (bl 30 0) (by kernel_rfl) rfl rfl trivial (fun hHeld => ?_); refine with_tabW gaiterlaw14_IndexBack.tab13 gaiterlaw14_IndexBack.bits13 (fun HT_ HW_ => ?_)
                  generalize w81.drew = w82 at HO_6 HO541 HO545 HO557 HO561 BK525 BK548 BK564 HB hHeld ⊢
                  refine pu 0 (some 88) (bl 30 1) (h := ?_)
                  refine pu 1 (some 89) (bl 30 3) (h := ?_)
                  refine pu 2 (some 90) (bl 30 7) (h := ?_)
                  refine pure_ (i := 3) (N := some 91) (v := undef) (a' := ?_) #[true, true, true, true, false, false, false, false, false, false, false, false, false, false, false, false, false, false, false, false, false, false, false, false, false, false, false, false, false, false] rfl rfl (any_of HT_.out (by kernel_rfl)) (fun _ _ _ h => h) (Or.inr ⟨by rfl, rfl⟩) ?_ ?_
                  rotate_left
                  ·simp only [Act.put, List.setIfInBounds_toArray, List.set_cons_zero, List.set_cons_succ, i64_w, i32_w]
                   rfl
                  refine pure_ (i := 4) (N := some 92) (v := undef) (a' := ?_) #[true, true, true, true, true, false, false, false, false, false, false, false, false, false, false, false, false, false, false, false, false, false, false, false, false, false, false, false, false, false] rfl rfl (any_of HT_.out (by kernel_rfl)) (fun _ _ _ h => h) (Or.inr ⟨by rfl, rfl⟩) ?_ ?_
                  rotate_left
                  ·simp only [Act.put, List.setIfInBounds_toArray, List.set_cons_zero, List.set_cons_succ, i64_w, i32_w]
                   rfl
                  refine pure_ (i := 5) (N := some 93) (v := undef) (a' := ?_) #[true, true, true, true, true, true, false, false, false, false, false, false, false, false, false, false, false, false, false, false, false, false, false, false, false, false, false, false, false, false] rfl rfl (any_of HT_.out (by kernel_rfl)) (fun _ _ _ h => h) (Or.inr ⟨by rfl, rfl⟩) ?_ ?_
                  rotate_left
                  ·simp only [Act.put, List.setIfInBounds_toArray, List.set_cons_zero, List.set_cons_succ, i64_w, i32_w]
                   rfl
                  refine pure_ (i := 6) (N := some 94) (v := undef) (a' := ?_) #[true, true, true, true, true, true, true, false, false, false, false, false, false, false, false, false, false, false, false, false, false, false, false, false, false, false, false, false, false, false] rfl rfl (any_of HT_.out (by kernel_rfl)) (fun _ _ _ h => h) (Or.inr ⟨by rfl, rfl⟩) ?_ ?_
                  rotate_left
                  ·simp only [Act.put, List.setIfInBounds_toArray, List.set_cons_zero, List.set_cons_succ, i64_w, i32_w]
                   rfl
                  refine pu 7 (some 95) (bl 30 255) (h := ?_)
                  refine pu 8 (some 96) (bl 30 511) (h := ?_)
                  refine pure_ (i := 9) (N := some 97) (v := undef) (a' := ?_) #[true, true, true, true, true, true, true, true, true, true, false, false, false, false, false, false, false, false, false, false, false, false, false, false, false, false, false, false, false, false] rfl rfl (any_of HT_.out (by kernel_rfl)) (fun _ _ _ h => h) (Or.inr ⟨by rfl, rfl⟩) ?_ ?_
                  rotate_left
                  ·simp only [Act.put, List.setIfInBounds_toArray, List.set_cons_zero, List.set_cons_succ, i64_w, i32_w]
                   rfl
                  refine pure_ (i := 10) (N := some 98) (v := undef) (a' := ?_) #[true, true, true, true, true, true, true, true, true, true, true, false, false, false, false, false, false, false, false, false, false, false, false, false, false, false, false, false, false, false] rfl rfl (any_of HT_.out (by kernel_rfl)) (fun _ _ _ h => h) (Or.inr ⟨by rfl, rfl⟩) ?_ ?_
                  rotate_left
                  ·simp only [Act.put, List.setIfInBounds_toArray, List.set_cons_zero, List.set_cons_succ, i64_w, i32_w]
                   rfl
                  refine pure_ (i := 11) (N := some 99) (v := undef) (a' := ?_) #[true, true, true, true, true, true, true, true, true, true, true, true, false, false, false, false, false, false, false, false, false, false, false, false, false, false, false, false, false, false] rfl rfl (any_of HT_.out (by kernel_rfl)) (fun _ _ _ h => h) (Or.inr ⟨by rfl, rfl⟩) ?_ ?_
                  rotate_left
                  ·simp only [Act.put, List.setIfInBounds_toArray, List.set_cons_zero, List.set_cons_succ, i64_w, i32_w]
                   rfl
                  refine pure_ (i := 12) (N := some 100) (v := undef) (a' := ?_) #[true, true, true, true, true, true, true, true, true, true, true, true, true, false, false, false, false, false, false, false, false, false, false, false, false, false, false, false, false, false] rfl rfl (any_of HT_.out (by kernel_rfl)) (fun _ _ _ h => h) (Or.inr ⟨by rfl, rfl⟩) ?_ ?_
                  rotate_left
                  ·simp only [Act.put, List.setIfInBounds_toArray, List.set_cons_zero, List.set_cons_succ, i64_w, i32_w]
                   rfl
                  refine pure_ (i := 13) (N := some 101) (v := undef) (a' := ?_) #[true, true, true, true, true, true, true, true, true, true, true, true, true, true, false, false, false, false, false, false, false, false, false, false, false, false, false, false, false, false] rfl rfl (any_of HT_.out (by kernel_rfl)) (fun _ _ _ h => h) (Or.inr ⟨by rfl, rfl⟩) ?_ ?_
                  rotate_left
                  ·simp only [Act.put, List.setIfInBounds_toArray, List.set_cons_zero, List.set_cons_succ, i64_w, i32_w]
                   rfl
                  refine pu 14 (some 102) (bl 30 32767) (h := ?_)
                  refine pu 15 (some 103) (bl 30 65535) (h := ?_)
                  refine pure_ (i := 16) (N := some 104) (v := undef) (a' := ?_) #[true, true, true, true, true, true, true, true, true, true, true, true, true, true, true, true, true, false, false, false, false, false, false, false, false, false, false, false, false, false] rfl rfl (any_of HT_.out (by kernel_rfl)) (fun _ _ _ h => h) (Or.inr ⟨by rfl, rfl⟩) ?_ ?_
                  rotate_left
                  ·simp only [Act.put, List.setIfInBounds_toArray, List.set_cons_zero, List.set_cons_succ, i64_w, i32_w]
                   rfl
                  refine pure_ (i := 17) (N := some 105) (v := undef) (a' := ?_) #[true, true, true, true, true, true, true, true, true, true, true, true, true, true, true, true, true, true, false, false, false, false, false, false, false, false, false, false, false, false] rfl rfl (any_of HT_.out (by kernel_rfl)) (fun _ _ _ h => h) (Or.inr ⟨by rfl, rfl⟩) ?_ ?_
                  rotate_left
                  ·simp only [Act.put, List.setIfInBounds_toArray, List.set_cons_zero, List.set_cons_succ, i64_w, i32_w]
                   rfl
                  refine pure_ (i := 18) (N := some 106) (v := undef) (a' := ?_) #[true, true, true, true, true, true, true, true, true, true, true, true, true, true, true, true, true, true, true, false, false, false, false, false, false, false, false, false, false, false] rfl rfl (any_of HT_.out (by kernel_rfl)) (fun _ _ _ h => h) (Or.inr ⟨by rfl, rfl⟩) ?_ ?_
                  rotate_left
                  ·simp only [Act.put, List.setIfInBounds_toArray, List.set_cons_zero, List.set_cons_succ, i64_w, i32_w]
                   rfl
                  refine pure_ (i := 19) (N := some 107) (v := undef) (a' := ?_) #[true, true, true, true, true, true, true, true, true, true, true, true, true, true, true, true, true, true, true, true, false, false, false, false, false, false, false, false, false, false] rfl rfl (any_of HT_.out (by kernel_rfl)) (fun _ _ _ h => h) (Or.inr ⟨by rfl, rfl⟩) ?_ ?_
                  rotate_left
                  ·simp only [Act.put, List.setIfInBounds_toArray, List.set_cons_zero, List.set_cons_succ, i64_w, i32_w]
                   rfl
                  refine pure_ (i := 20) (N := some 108) (v := undef) (a' := ?_) #[true, true, true, true, true, true, true, true, true, true, true, true, true, true, true, true, true, true, true, true, true, false, false, false, false, false, false, false, false, false] rfl rfl (any_of HT_.out (by kernel_rfl)) (fun _ _ _ h => h) (Or.inr ⟨by rfl, rfl⟩) ?_ ?_
                  rotate_left
                  ·simp only [Act.put, List.setIfInBounds_toArray, List.set_cons_zero, List.set_cons_succ, i64_w, i32_w]
                   rfl
                  refine pure_ (i := 21) (N := some 109) (v := undef) (a' := ?_) #[true, true, true, true, true, true, true, true, true, true, true, true, true, true, true, true, true, true, true, true, true, true, false, false, false, false, false, false, false, false] rfl rfl (any_of HT_.out (by kernel_rfl)) (fun _ _ _ h => h) (Or.inr ⟨by rfl, rfl⟩) ?_ ?_
                  rotate_left
                  ·simp only [Act.put, List.setIfInBounds_toArray, List.set_cons_zero, List.set_cons_succ, i64_w, i32_w]
                   rfl
                  refine pure_ (i := 22) (N := some 110) (v := undef) (a' := ?_) #[true, true, true, true, true, true, true, true, true, true, true, true, true, true, true, true, true, true, true, true, true, true, true, false, false, false, false, false, false, false] rfl rfl (any_of HT_.out (by kernel_rfl)) (fun _ _ _ h => h) (Or.inr ⟨by rfl, rfl⟩) ?_ ?_
                  rotate_left
                  ·simp only [Act.put, List.setIfInBounds_toArray, List.set_cons_zero, List.set_cons_succ, i64_w, i32_w]
                   rfl
                  refine pure_ (i := 23) (N := some 111) (v := undef) (a' := ?_) #[true, true, true, true, true, true, true, true, true, true, true, true, true, true, true, true, true, true, true, true, true, true, true, true, false, false, false, false, false, false] rfl rfl (any_of HT_.out (by kernel_rfl)) (fun _ _ _ h => h) (Or.inr ⟨by rfl, rfl⟩) ?_ ?_
                  rotate_left
                  ·simp only [Act.put, List.setIfInBounds_toArray, List.set_cons_zero, List.set_cons_succ, i64_w, i32_w]
                   rfl
                  refine pu 24 (some 112) (bl 30 33554431) (h := ?_)
                  refine pu 25 (some 113) (bl 30 67108863) (h := ?_)
                  refine pure_ (i := 26) (N := some 114) (v := undef) (a' := ?_) #[true, true, true, true, true, true, true, true, true, true, true, true, true, true, true, true, true, true, true, true, true, true, true, true, true, true, true, false, false, false] rfl rfl (any_of HT_.out (by kernel_rfl)) (fun _ _ _ h => h) (Or.inr ⟨by rfl, rfl⟩) ?_ ?_
                  rotate_left
                  ·simp only [Act.put, List.setIfInBounds_toArray, List.set_cons_zero, List.set_cons_succ, i64_w, i32_w]
                   rfl
                  refine pure_ (i := 27) (N := some 115) (v := undef) (a' := ?_) #[true, true, true, true, true, true, true, true, true, true, true, true, true, true, true, true, true, true, true, true, true, true, true, true, true, true, true, true, false, false] rfl rfl (any_of HT_.out (by kernel_rfl)) (fun _ _ _ h => h) (Or.inr ⟨by rfl, rfl⟩) ?_ ?_
                  rotate_left
                  ·simp only [Act.put, List.setIfInBounds_toArray, List.set_cons_zero, List.set_cons_succ, i64_w, i32_w]
                   rfl
                  refine pure_ (i := 28) (N := some 116) (v := undef) (a' := ?_) #[true, true, true, true, true, true, true, true, true, true, true, true, true, true, true, true, true, true, true, true, true, true, true, true, true, true, true, true, true, false] rfl rfl (any_of HT_.out (by kernel_rfl)) (fun _ _ _ h => h) (Or.inr ⟨by rfl, rfl⟩) ?_ ?_
                  rotate_left
                  ·simp only [Act.put, List.setIfInBounds_toArray, List.set_cons_zero, List.set_cons_succ, i64_w, i32_w]
                   rfl
                  refine pu 29 (some 117) (bl 30 1073741823) (h := ?_)
                  refine done_ (done_of HT_.out (by kernel_rfl)) ?_
                  try go_wp2
                  go_meet
                  case rel => exact ⟨_, (true), (by first | rfl | (simp; done) | (simp [*]; done)), H', ⟨by have := HJ3.out; have := HJ11.out; have := HJ22.out; first | omega | exact Nat.le_refl _⟩, ⟨by (with_reducible repeat (first | apply Kd.R_alloc | apply Kd.R_drewN | apply Kd.R_drew)); exact Kd.R_mono HO_6.out (fun _ hk => trivial)⟩, ⟨kr HO545⟩, ⟨kr HO561⟩, ⟨kb BK525⟩, ⟨kb BK548⟩, ⟨kb BK564⟩, ⟨(kl HB)⟩⟩
                case rest =>
                 as_aux_lemma =>
                 clear HC35
                 try clear p2
                 try clear c5
                 try clear q5
                 try clear q56
                 try clear c58
                 try clear c58b0
                 try clear c58b1
                 try clear q565
                 obtain ⟨kq, x117_34, rfl, HA, HJ34, HO_6, HO_549001, HO_565001, BK525, BK548, BK564, HB⟩ := hcut
                 cases kq with
                 | zero => exact absurd HA.out (by simp [gaiterlaw14_IndexBack.j4])
                 | succ kj34 =>
                  have H := HA.out
                  clear HA
                  simp only [gaiterlaw14_IndexBack.j4] at H
                  by_cases c83 : x117_34 = true
                  ·subst c83
                   have H1 : (none) = some r := by rw [if_pos rfl] at H; exact H
                   clear H
                   have H := H1
                   clear H1
                   exact absurd H (by simp)
                  ·replace c83 := Bool.eq_false_iff.mpr c83
                   subst c83
                   have H1 : (if x8_11 > 0 then ((some (([] : List Int) : List Int)).bind fun y574 => (if y574.length + t527.length < 140737488355328 then ((some (y574 ++ t527 : List Int)).bind fun y577 => (if 0 ≤ (wrap64 (x8_11 - 1)) then (if y577.length + (wrap64 (x8_11 - 1) : Int).toNat < 140737488355328 then ((index_Get.f kj34 (y577 ++ List.replicate (wrap64 (x8_11 - 1) : Int).toNat 0)).bind fun bt583 => ((gaiterlaw00_Code.f bt583.2.2.2).bind fun t590 => (if t590 = 8 then (gaiterlaw14_IndexBack.j5 kj34 l1 t526) else (none)))) else (none)) else (none))) else (none))) else (gaiterlaw14_IndexBack.j5 kj34 l1 t526)) = some r := by rw [if_neg (show ¬ (false = true) by decide)] at H; exact H
                   clear H
                   have H := H1
                   clear H1
                   by_cases c84 : x8_11 > 0
                   ·rw [if_pos c84] at H
                    have c84b0 : decide (0 < x8_11) = true := decide_eq_true c84
                    clear c84
                    obtain ⟨y574, hy574⟩ : ∃ y_ : List Int, y_ = (([] : List Int)) := ⟨_, rfl⟩
                    replace H : (if y574.length + t527.length < 140737488355328 then ((some (y574 ++ t527 : List Int)).bind fun y577 => (if 0 ≤ (wrap64 (x8_11 - 1)) then (if y577.length + (wrap64 (x8_11 - 1) : Int).toNat < 140737488355328 then ((index_Get.f kj34 (y577 ++ List.replicate (wrap64 (x8_11 - 1) : Int).toNat 0)).bind fun bt583 => ((gaiterlaw00_Code.f bt583.2.2.2).bind fun t590 => (if t590 = 8 then (gaiterlaw14_IndexBack.j5 kj34 l1 t526) else (none)))) else (none)) else (none))) else (none)) = some r := by first | (rw [hy574]; with_reducible exact H) | (have H2_ := (Option.bind_some _ _).symm.trans H; rw [hy574]; with_reducible exact H2_) | (have H2_ := (Option.bind_some _ _).symm.trans H; with_reducible exact H2_) | with_reducible exact H | (rw [hy574]; exact H) | exact H
                    have Ny574 := Aside0.mk hy574
                    clear hy574
                    by_cases c85 : y574.length + t527.length < 140737488355328
                    ·rw [if_pos c85] at H
                     have LMc85 := Aside0.mk c85
                     clear c85
                     obtain ⟨y577, hy577⟩ : ∃ y_ : List Int, y_ = (y574 ++ t527) := ⟨_, rfl⟩
                     replace H : (if 0 ≤ (wrap64 (x8_11 - 1)) then (if y577.length + (wrap64 (x8_11 - 1) : Int).toNat < 140737488355328 then ((index_Get.f kj34 (y577 ++ List.replicate (wrap64 (x8_11 - 1) : Int).toNat 0)).bind fun bt583 => ((gaiterlaw00_Code.f bt583.2.2.2).bind fun t590 => (if t590 = 8 then (gaiterlaw14_IndexBack.j5 kj34 l1 t526) else (none)))) else (none)) else (none)) = some r := by first | (rw [hy577]; with_reducible exact H) | (have H2_ := (Option.bind_some _ _).symm.trans H; rw [hy577]; with_reducible exact H2_) | (have H2_ := (Option.bind_some _ _).symm.trans H; with_reducible exact H2_) | with_reducible exact H | (rw [hy577]; exact H) | exact H
                     have Ny577 := Aside0.mk hy577
                     clear hy577
                     obtain ⟨ji86, hji86⟩ : ∃ j_ : Int, (wrap64 (x8_11 - 1)) = j_ := ⟨_, rfl⟩
                     replace H : (if 0 ≤ (ji86) then (if y577.length + (ji86 : Int).toNat < 140737488355328 then ((index_Get.f kj34 (y577 ++ List.replicate (ji86 : Int).toNat 0)).bind fun bt583 => ((gaiterlaw00_Code.f bt583.2.2.2).bind fun t590 => (if t590 = 8 then (gaiterlaw14_IndexBack.j5 kj34 l1 t526) else (none)))) else (none)) else (none)) = some r := by first | (rw [hji86] at H; exact H) | (simp only [hji86] at H ⊢; exact H)
                     have hji86w : (IntKind.i64.wrap (x8_11 - 1)) = ji86 := (i64_w _).trans hji86
                     by_cases c87 : 0 ≤ (ji86)
                     ·rw [if_pos c87] at H
                      have c87b0 := eq_true c87
                      have c87b1 : decide (0 ≤ (ji86)) = true := decide_eq_true c87
                      clear c87
                      by_cases c88 : y577.length + (ji86 : Int).toNat < 140737488355328
                      ·rw [if_pos c88] at H
                       have LMc88 := Aside0.mk c88
                       clear c88
                       obtain ⟨y580, hy580⟩ : ∃ y_ : List Int, y_ = (y577 ++ List.replicate (ji86 : Int).toNat 0) := ⟨_, rfl⟩
                       replace H : ((index_Get.f kj34 y580).bind fun bt583 => ((gaiterlaw00_Code.f bt583.2.2.2).bind fun t590 => (if t590 = 8 then (gaiterlaw14_IndexBack.j5 kj34 l1 t526) else (none)))) = some r := by first | (rw [hy580]; with_reducible exact H) | (have H2_ := (Option.bind_some _ _).symm.trans H; rw [hy580]; with_reducible exact H2_) | (have H2_ := (Option.bind_some _ _).symm.trans H; with_reducible exact H2_) | with_reducible exact H | (rw [hy580]; exact H) | exact H
                       have Ny580 := Aside0.mk hy580
                       clear hy580
                       replace H := Option.bind_eq_some_iff.mp H
                       obtain ⟨⟨t583, t584, t587, t588⟩, A890, H⟩ := H
                       replace H : ((gaiterlaw00_Code.f t588).bind fun t590 => (if t590 = 8 then (gaiterlaw14_IndexBack.j5 kj34 l1 t526) else (none))) = some r := H
                       have A89 := Aside0.mk A890
                       clear A890
                       replace H := Option.bind_eq_some_iff.mp H
                       obtain ⟨t590, A900, H⟩ := H
                       replace H : (if t590 = 8 then (gaiterlaw14_IndexBack.j5 kj34 l1 t526) else (none)) = some r := H
                       have A90 := Aside0.mk A900
                       clear A900
                       by_cases c91 : t590 = 8
                       ·rw [if_pos c91] at H
                        have c91b0 : (t590 == 8) = true := beq_iff_eq.mpr c91
                        have c91b1 : (t590 != 8) = false := bne_eq_false_iff_eq.mpr c91
                        clear c91
                        have H' := Aside0.mk H
                        clear H
                        go_wp2_with (first | ((with_reducible refine gate_dst (N := 121) rfl ?_); (try (refine gate_guard (by rfl) ?_; dsimp only)); refine Kd.R_lit (Kd.int .u8) _ 5 ?hg (N := 121) ?hd (xs := ([] : List Int)) (inner := []) (ok := fun _ => True) (okp := fun _ => True) ?hr ?hp (fun _ hk => hk) trivial (Below.refl _ _) (Nat.le_refl _) (by simp) ?_; (case hd => rfl); (case hg => rfl); (case hr => first | (go_simp; done) | (go_simp; rfl)); (case hp => exact (Reps.none _ _)); intro v575 w92 ho93 hb hg_ hnew_; clear hg_ hnew_; (first | rw [← Ny574.out] at ho93 | (simp only [Int.reduceToNat] at ho93; rw [← Ny574.out] at ho93)); replace HO_549001 := Aside0.mk (Kd.R_below (kr HO_549001) hb); replace HO_565001 := Aside0.mk (Kd.R_below (kr HO_565001) hb); have HO576 := Aside0.mk (Kd.R_lower (Kd.R_new' ho93 (Kd.R_lt (kr HO_6))) (below_size (kl HB))); replace HO_6 := Aside0.mk (Kd.R_elder' (kr HO_6) (Kd.R_base ho93) hb); replace BK525 := kB BK525 hb; replace BK548 := kB BK548 hb; replace BK564 := kB BK564 hb; replace HB := kH HB hb; clear hb ho93) | ((with_reducible refine gate_builtin (b := .append) (xs := #[.tmp 121, .tmp 122]) rfl ?_); (try (refine gate_guard (by rfl) ?_; dsimp only)); at_builtin; refine Kd.R_append_rows (Kd.int .u8) (w0 := w) w.heap.size rfl (.tmp 121) (.tmp 122) 54 5 (.int .u8 0) 1 rfl Try.underlying54 info5 rfl (by decide) (by omega) v575 y574 t527 _ _ _ (fun k_ => some k_ ≠ (.slice Ao39 t527.length co39 : Value).ownBlock) (fun _ => False) rfl rfl ?aO ?aR (fun _ _ h => h) (fun _ h => h.elim) ?aF ?aB ?aS ?aL ?_; (case aR => repeat (first | exact (Kd.R_reads' HO_6.out).2.2 | (with_reducible refine Kd.C_alloc ?_ _) | (with_reducible refine Kd.C_drewN ?_ _) | (with_reducible refine Kd.C_drew ?_))); (case aB => exact (kl HB)); (case aF => exact (fun k_ hk => Kd.fresh' (Kd.R_lt (kr HO_6)) k_ hk)); (case aO => exact (by (with_reducible repeat (first | apply Kd.R_alloc | apply Kd.R_drewN | apply Kd.R_drew)); exact Kd.R_mono HO576.out (fun _ hk => hk.2))); (case aS => exact (below_size (kl HB))); (case aL => have := LMc85.out; omega); intro v578 w94 ho hb hg hat; rw [← Ny577.out] at ho; have n0_ := Aside0.mk (Kd.R_after (ok := (fun _ => True)) (kr HO_6) hg hat); have n1_ := Aside0.mk (Kd.R_over' (kr HO_549001) (Kd.R_typed (kr HO576)) (by decide) hg); have n2_ := Aside0.mk (Kd.R_over' (kr HO_565001) (Kd.R_typed (kr HO576)) (by decide) hg); have n3_ := Aside0.mk (blk_grown (g := gb525) (o := .cells #[.int .i64 a0_0, .slice A0_1 l0_1.length c0_1] 53 (0, 0)) (kb BK525) hg (Kd.R_ne HO576.out BK525.out (by decide))); have n4_ := Aside0.mk (blk_grown (g := gb548) (o := .cells #[.int .i64 t542, .slice Ao46 t543.length co46] 53 (0, 0)) (kb BK548) hg (Kd.R_ne HO576.out BK548.out (by decide))); have n5_ := Aside0.mk (blk_grown (g := gb564) (o := .cells #[.int .i64 t558, .slice Ao57 t559.length co57] 53 (0, 0)) (kb BK564) hg (Kd.R_ne HO576.out BK564.out (by decide))); have n6_ := Aside0.mk (hb); have n7_ := Aside0.mk (ho); clear HO_6; clear HO_549001; clear HO_565001; clear BK525; clear BK548; clear BK564; clear HB; clear HO576; have HO_6 := n0_; have HO_549001 := n1_; have HO_565001 := n2_; have BK525 := n3_; have BK548 := n4_; have BK564 := n5_; have HB := n6_; have HO579 := n7_; clear n0_ n1_ n2_ n3_ n4_ n5_ n6_ n7_; clear ho hb hg hat) | (at_builtin; refine Kd.R_append_zeros (Kd.int .u8) (w0 := w) w.heap.size rfl (.tmp 123) (.tmp 125) 54 3 5 (.int .u8 0) 1 rfl Try.underlying54 Try.underlying3 info5 rfl (by decide) (by omega) v578 y577 0 (ji86 : Int) (fun k_ => some k_ ≠ (.slice Ao39 t527.length co39 : Value).ownBlock) rfl rfl rfl ?aF ?aO (of_decide_eq_true (by first | (with_reducible assumption) | assumption)) ?aB ?aS ?aL ?_; (case aB => exact (kl HB)); (case aF => exact (fun k_ hk => Kd.fresh' (Kd.R_lt (kr HO_6)) k_ hk)); (case aO => exact (kr HO579)); (case aS => exact (below_size (kl HB))); (case aL => have := LMc88.out; omega); intro v581 w95 ho hb hg hat; (try simp only [Int.reduceToNat] at ho); rw [← Ny580.out] at ho; have n0_ := Aside0.mk (Kd.R_after (ok := (fun _ => True)) (kr HO_6) hg hat); have n1_ := Aside0.mk (Kd.R_over' (kr HO_549001) (Kd.R_typed (kr HO579)) (by decide) hg); have n2_ := Aside0.mk (Kd.R_over' (kr HO_565001) (Kd.R_typed (kr HO579)) (by decide) hg); have n3_ := Aside0.mk (blk_grown (g := gb525) (o := .cells #[.int .i64 a0_0, .slice A0_1 l0_1.length c0_1] 53 (0, 0)) (kb BK525) hg (Kd.R_ne HO579.out BK525.out (by decide))); have n4_ := Aside0.mk (blk_grown (g := gb548) (o := .cells #[.int .i64 t542, .slice Ao46 t543.length co46] 53 (0, 0)) (kb BK548) hg (Kd.R_ne HO579.out BK548.out (by decide))); have n5_ := Aside0.mk (blk_grown (g := gb564) (o := .cells #[.int .i64 t558, .slice Ao57 t559.length co57] 53 (0, 0)) (kb BK564) hg (Kd.R_ne HO579.out BK564.out (by decide))); have n6_ := Aside0.mk (hb); have n7_ := Aside0.mk (ho); clear HO_6; clear HO_549001; clear HO_565001; clear BK525; clear BK548; clear BK564; clear HB; clear HO579; have HO_6 := n0_; have HO_549001 := n1_; have HO_565001 := n2_; have BK525 := n3_; have BK548 := n4_; have BK564 := n5_; have HB := n6_; have HO582 := n7_; clear n0_ n1_ n2_ n3_ n4_ n5_ n6_ n7_; clear ho hb hg hat; obtain ⟨Ao96, co96, eo96⟩ := Kd.R_slice HO582.out; subst eo96) | ((with_reducible refine gate_callee (f := 27) rfl ?_); refine goesL_ (some 127) rfl rfl Try.func27 (by kernel_rfl) rfl #[.slice Ao96 y580.length co96] rfl km ?_; (with_reducible refine (index_Get.calls kj34 _ _ y580 t583 t584 t587 t588 _ ?side1 ?side2 A89.out).mono ?_); (case side1 => repeat (first | exact (Kd.R_reads' HO582.out).2.2 | (with_reducible refine Kd.C_alloc ?_ _) | (with_reducible refine Kd.C_drewN ?_ _) | (with_reducible refine Kd.C_drew ?_))); (case side2 => exact (Kd.R_reads' HO582.out).2.1); rintro e w97 ⟨v585, rfl, ho0, hb⟩; refine ⟨_, rfl, ?_⟩; replace HO_6 := Aside0.mk (Kd.R_below (kr HO_6) hb); replace HO582 := Aside0.mk (Kd.R_below (kr HO582) hb); have HO586 := Aside0.mk (Kd.R_lower (Kd.R_new' (Kd.R_new' ho0 (Kd.R_lt (kr HO_549001))) (Kd.R_lt (kr HO_565001))) (below_size (kl HB))); replace HO_549001 := Aside0.mk (Kd.R_elder' (kr HO_549001) (Kd.R_base ho0) hb); replace HO_565001 := Aside0.mk (Kd.R_elder' (kr HO_565001) (Kd.R_base ho0) hb); replace BK525 := kB BK525 hb; replace BK548 := kB BK548 hb; replace BK564 := kB BK564 hb; replace HB := kH HB hb; (try clear hb); (try clear hb2); (try clear hk); (try clear hi); (try clear ho0); (try simp only [errW_none, errW_some])) | ((with_reducible refine gate_dst (N := 16) rfl ?_); (try (refine gate_guard (by rfl) ?_; dsimp only)); refine box_event ?hg (N := 16) ?hd (cs := #[.int .i64 0, .slice none 0 0]) (t := 53) ?hr ?_; (case hd => rfl); (case hg => rfl); (case hr => first | (go_simp; done) | (go_simp; rfl)); intro gb589 hg w98 hbox hb; replace HO_6 := Aside0.mk (Kd.R_below (kr HO_6) hb); replace HO_549001 := Aside0.mk (Kd.R_below (kr HO_549001) hb); replace HO_565001 := Aside0.mk (Kd.R_below (kr HO_565001) hb); replace HO582 := Aside0.mk (Kd.R_below (kr HO582) hb); replace HO586 := Aside0.mk (Kd.R_below (kr HO586) hb); have BK589 := Aside0.mk (hbox); have GW589 := kG hg HB; have GE589 := kG hg HB; replace HB := kH HB hb; obtain ⟨NB525_589, NB589_525⟩ := kN hg BK525; replace BK525 := kB BK525 hb; obtain ⟨NB548_589, NB589_548⟩ := kN hg BK548; replace BK548 := kB BK548 hb; obtain ⟨NB564_589, NB589_564⟩ := kN hg BK564; replace BK564 := kB BK564 hb; clear hb hbox hg; have hnb99 := NB589_525.out; have hnc99 := NB525_589.out; have hnb100 := NB589_548.out; have hnc100 := NB548_589.out; have hnb101 := NB589_564.out; have hnc101 := NB564_589.out; have hcz102_0 : w98.cell? ⟨gb589, 0, none⟩ = some (.int .i64 0) := (blk_cell BK589.out 0).trans rfl; have hcz102_1 : w98.cell? ⟨gb589, 1, none⟩ = some (.slice none 0 0) := (blk_cell BK589.out 1).trans rfl; have hfz102_0 := blk_frozen BK589.out 0; have hfz102_1 := blk_frozen BK589.out 1; obtain ⟨Ao103, co103, eo103⟩ := Kd.R_slice HO586.out; subst eo103; have CA90 := fun W => gaiterlaw00_Code.calls t588 t590 W A90.out; try simp only [errW_none, errW_some] at CA90) | (go_at_call 18; (with_reducible refine (CA90 _).mono ?_); rintro e w' ⟨rfl, ⟨nd, rfl⟩⟩))
                        go_meet
                        case rel => exact ⟨_, H', ⟨by have := HJ3.out; have := HJ11.out; have := HJ22.out; have := HJ34.out; first | omega | exact Nat.le_refl _⟩, ⟨by (with_reducible repeat (first | refine blk_drewN ?_ _ | refine blk_drew ?_ | refine blk_alloc ?_ _)); refine blk_far ?_ NB525_589.out _; (with_reducible repeat (first | refine blk_drewN ?_ _ | refine blk_drew ?_ | refine blk_alloc ?_ _)); refine blk_far ?_ NB525_589.out _; (with_reducible repeat (first | refine blk_drewN ?_ _ | refine blk_drew ?_ | refine blk_alloc ?_ _)); exact BK525.out⟩, ⟨(kl HB)⟩⟩
                       ·rw [if_neg c91] at H
                        exact absurd H (by simp)
                      ·rw [if_neg c88] at H
                       exact absurd H (by simp)
                     ·rw [if_neg c87] at H
                      exact absurd H (by simp)
                    ·rw [if_neg c85] at H
                     exact absurd H (by simp)
                   ·rw [if_neg c84] at H
                    have c84b0 : decide (0 < x8_11) = false := decide_eq_false c84
                    clear c84
                    have H' := Aside0.mk H
                    clear H
                    go_wp2
                    go_meet
                    case rel => exact ⟨_, H', ⟨by have := HJ3.out; have := HJ11.out; have := HJ22.out; have := HJ34.out; first | omega | exact Nat.le_refl _⟩, ⟨kb BK525⟩, ⟨(kl HB)⟩⟩
               ·rw [if_neg c33] at H
                exact absurd H (by simp)
              ·rw [if_neg c32] at H
               exact absurd H (by simp)
             ·rw [if_neg c30] at H
              exact absurd H (by simp)
            ·rw [if_neg c28] at H
             exact absurd H (by simp)
           ·rw [if_neg c27] at H
            exact absurd H (by simp)
          ·rw [if_neg c26] at H
           exact absurd H (by simp)
         ·replace c25 := Bool.eq_false_iff.mpr c25
          subst c25
          have H1 : (gaiterlaw14_IndexBack.j5 kj22 l1 t526) = some r := by rw [if_neg (show ¬ (false = true) by decide)] at H; exact H
          clear H
          have H := H1
          clear H1
          have H' := Aside0.mk H
          clear H
          go_wp2
          go_meet
          case rel => exact ⟨_, H', ⟨by have := HJ3.out; have := HJ11.out; have := HJ22.out; first | omega | exact Nat.le_refl _⟩, ⟨kb BK525⟩, ⟨(kl HB)⟩⟩
        case rest =>
         as_aux_lemma =>
         clear HC24
         try clear c1
         try clear c2
         try clear p2
         try clear c3
         try clear c5
         try clear q5
         try clear p6
         try clear c8
         try clear c9
         try clear c10
         try clear c25
         try clear c26
         try clear c27
         try clear c28
         try clear c30
         try clear c32
         try clear c33
         try clear q56
         try clear c58
         try clear c58b0
         try clear c58b1
         try clear p64
         try clear c83
         try clear c84
         try clear c84b0
         try clear c85
         try clear c87
         try clear c87b0
         try clear c87b1
         try clear c88
         try clear c91
         try clear c91b0
         try clear c91b1
         try clear c99
         try clear c100
         try clear c101
         try clear hcz102_0
         try clear hcz102_1
         try clear hfz102_0
         try clear hfz102_1
         try clear p2
         try clear q5
         try clear q56
         try clear q565
         obtain ⟨kq, HA, HJ23, BK525, HB⟩ := hcut
         cases kq with
         | zero => exact absurd HA.out (by simp [gaiterlaw14_IndexBack.j5])
         | succ kj23 =>
          have H := HA.out
          clear HA
          simp only [gaiterlaw14_IndexBack.j5] at H
          replace H := Option.bind_eq_some_iff.mp H
          obtain ⟨⟨t591, t592, t595, t596⟩, A1040, H⟩ := H
          replace H : (if t596.isNone = true then ((index_Put.f kj23 t591 t592).bind fun bt599 => (if t526 = true then (if bt599.2.isNone = true then (if t595 ≥ 0 then (if t595 ≤ (l1.length : Int) then (if 0 ≤ (mx (mn t595 (l1.length : Int)) 0) then (if (mx (mn t595 (l1.length : Int)) 0) ≤ (l1.length : Int) then (some ((strOfNums bt599.1).toList == (strOfNums (l1.take ((mx (mn t595 (l1.length : Int)) 0) : Int).toNat)).toList)) else (none)) else (none)) else (none)) else (none)) else (none)) else (none))) else (some t526)) = some r := H
          have A104 := Aside0.mk A1040
          clear A1040
          rcases t596 with _ | q598
          ·as_aux_lemma =>
           have H1 : ((index_Put.f kj23 t591 t592).bind fun bt599 => (if t526 = true then (if bt599.2.isNone = true then (if t595 ≥ 0 then (if t595 ≤ (l1.length : Int) then (if 0 ≤ (mx (mn t595 (l1.length : Int)) 0) then (if (mx (mn t595 (l1.length : Int)) 0) ≤ (l1.length : Int) then (some ((strOfNums bt599.1).toList == (strOfNums (l1.take ((mx (mn t595 (l1.length : Int)) 0) : Int).toNat)).toList)) else (none)) else (none)) else (none)) else (none)) else (none)) else (none))) = some r := by rw [if_pos (show (none : Option Int).isNone = true by rfl)] at H; exact H
           clear H
           have H := H1
           clear H1
           try simp only [errW_none, errW_some]
           replace H := Option.bind_eq_some_iff.mp H
           obtain ⟨⟨t599, t602⟩, A1050, H⟩ := H
           replace H : (if t526 = true then (if t602.isNone = true then (if t595 ≥ 0 then (if t595 ≤ (l1.length : Int) then (if 0 ≤ (mx (mn t595 (l1.length : Int)) 0) then (if (mx (mn t595 (l1.length : Int)) 0) ≤ (l1.length : Int) then (some ((strOfNums t599).toList == (strOfNums (l1.take ((mx (mn t595 (l1.length : Int)) 0) : Int).toNat)).toList)) else (none)) else (none)) else (none)) else (none)) else (none)) else (none)) = some r := H
           have A105 := Aside0.mk A1050
           clear A1050
           by_cases c106 : t526 = true
           ·subst c106
            have H1 : (if t602.isNone = true then (if t595 ≥ 0 then (if t595 ≤ (l1.length : Int) then (if 0 ≤ (mx (mn t595 (l1.length : Int)) 0) then (if (mx (mn t595 (l1.length : Int)) 0) ≤ (l1.length : Int) then (some ((strOfNums t599).toList == (strOfNums (l1.take ((mx (mn t595 (l1.length : Int)) 0) : Int).toNat)).toList)) else (none)) else (none)) else (none)) else (none)) else (none)) = some r := by rw [if_pos rfl] at H; exact H
            clear H
            have H := H1
            clear H1
            rcases t602 with _ | q603
            ·as_aux_lemma =>
             have H1 : (if t595 ≥ 0 then (if t595 ≤ (l1.length : Int) then (if 0 ≤ (mx (mn t595 (l1.length : Int)) 0) then (if (mx (mn t595 (l1.length : Int)) 0) ≤ (l1.length : Int) then (some ((strOfNums t599).toList == (strOfNums (l1.take ((mx (mn t595 (l1.length : Int)) 0) : Int).toNat)).toList)) else (none)) else (none)) else (none)) else (none)) = some r := by rw [if_pos (show (none : Option Int).isNone = true by rfl)] at H; exact H
             clear H
             have H := H1
             clear H1
             try simp only [errW_none, errW_some]
             by_cases c107 : t595 ≥ 0
             ·as_aux_lemma =>
              rw [if_pos c107] at H
              have c107b0 : decide (0 ≤ t595) = true := decide_eq_true c107
              clear c107
              by_cases c108 : t595 ≤ (l1.length : Int)
              ·as_aux_lemma =>
               rw [if_pos c108] at H
               have c108b0 : decide (t595 ≤ (l1.length : Int)) = true := decide_eq_true c108
               clear c108
               obtain ⟨ji109, hji109⟩ : ∃ j_ : Int, (mn t595 (l1.length : Int)) = j_ := ⟨_, rfl⟩
               replace H : (if 0 ≤ (mx (ji109) 0) then (if (mx (ji109) 0) ≤ (l1.length : Int) then (some ((strOfNums t599).toList == (strOfNums (l1.take ((mx (ji109) 0) : Int).toNat)).toList)) else (none)) else (none)) = some r := by first | (rw [hji109] at H; exact H) | (simp only [hji109] at H ⊢; exact H)
               (try rw [hji109] at A104)
               (try rw [hji109] at A105)
               have hji109_ : (if (l1.length : Int) < t595 then (l1.length : Int) else t595) = ji109 := hji109
               (try (have hji109n := hji109_; simp only [Int.ofNat_lt] at hji109n))
               obtain ⟨ji110, hji110⟩ : ∃ j_ : Int, (mx (ji109) 0) = j_ := ⟨_, rfl⟩
               replace H : (if 0 ≤ (ji110) then (if (ji110) ≤ (l1.length : Int) then (some ((strOfNums t599).toList == (strOfNums (l1.take ((ji110) : Int).toNat)).toList)) else (none)) else (none)) = some r := by first | (rw [hji110] at H; exact H) | (simp only [hji110] at H ⊢; exact H)
               (try rw [hji110] at A104)
               (try rw [hji110] at A105)
               have hji110_ : (if (ji109) < 0 then 0 else (ji109)) = ji110 := hji110
               (try (have hji110n := hji110_; simp only [Int.ofNat_lt] at hji110n))
               by_cases c111 : 0 ≤ (ji110)
               ·as_aux_lemma =>
                rw [if_pos c111] at H
                have c111b0 := eq_true c111
                have c111b1 : decide (0 ≤ (ji110)) = true := decide_eq_true c111
                clear c111
                by_cases c112 : (ji110) ≤ (l1.length : Int)
                ·as_aux_lemma =>
                 rw [if_pos c112] at H
                 have c112b0 := eq_true c112
                 have c112b1 : decide ((ji110) ≤ (l1.length : Int)) = true := decide_eq_true c112
                 clear c112
                 obtain rfl := Option.some.inj H
                 try go_wp2_with (first | ((with_reducible refine gate_callee (f := 27) rfl ?_); refine goesL_ (some 136) rfl rfl Try.func27 (by kernel_rfl) rfl #[.slice A1 l1.length c1] rfl km ?_; (with_reducible refine (index_Get.calls kj23 _ _ l1 t591 t592 t595 none _ ?side1 ?side2 A104.out).mono ?_); (case side1 => repeat (first | exact (Kd.C_below HR1.out HB.out) | (with_reducible refine Kd.C_alloc ?_ _) | (with_reducible refine Kd.C_drewN ?_ _) | (with_reducible refine Kd.C_drew ?_))); (case side2 => exact HC1.out); rintro e w113 ⟨v593, rfl, ho0, hb⟩; refine ⟨_, rfl, ?_⟩; have HO594 := Aside0.mk (Kd.R_lower ho0 (below_size (kl HB))); replace BK525 := kB BK525 hb; replace HB := kH HB hb; (try clear hb); (try clear hb2); (try clear hk); (try clear hi); (try clear ho0); (try simp only [errW_none, errW_some])) | ((with_reducible refine gate_dst (N := 19) rfl ?_); (try (refine gate_guard (by rfl) ?_; dsimp only)); refine box_event ?hg (N := 19) ?hd (cs := #[.int .i64 0, .slice none 0 0]) (t := 53) ?hr ?_; (case hd => rfl); (case hg => rfl); (case hr => first | (go_simp; done) | (go_simp; rfl)); intro gb597 hg w114 hbox hb; replace HO594 := Aside0.mk (Kd.R_below (kr HO594) hb); have BK597 := Aside0.mk (hbox); have GW597 := kG hg HB; have GE597 := kG hg HB; replace HB := kH HB hb; obtain ⟨NB525_597, NB597_525⟩ := kN hg BK525; replace BK525 := kB BK525 hb; clear hb hbox hg; have hnb115 := NB597_525.out; have hnc115 := NB525_597.out; have hcz116_0 : w114.cell? ⟨gb597, 0, none⟩ = some (.int .i64 0) := (blk_cell BK597.out 0).trans rfl; have hcz116_1 : w114.cell? ⟨gb597, 1, none⟩ = some (.slice none 0 0) := (blk_cell BK597.out 1).trans rfl; have hfz116_0 := blk_frozen BK597.out 0; have hfz116_1 := blk_frozen BK597.out 1; obtain ⟨Ao117, co117, eo117⟩ := Kd.R_slice HO594.out; subst eo117) | ((with_reducible refine gate_callee (f := 22) rfl ?_); refine goesL_ (some 145) rfl rfl Try.func22 (by kernel_rfl) rfl #[.agg #[.int .i64 t591, .slice Ao117 t592.length co117]] rfl km ?_; (with_reducible refine (index_Put.calls kj23 t591 _ _ t592 t599 none _ ?side1 ?side2 A105.out).mono ?_); (case side1 => refine (Kd.R_reads' (e := 72) (base := w.heap.size) (ok := fun k_ => True) (n := t592.length) (c := co117) ?_).2.2; exact (by (with_reducible repeat (first | apply Kd.R_alloc | apply Kd.R_drewN | apply Kd.R_drew)); exact (Kd.R_mono (Kd.R_far (p := ⟨gb597, 1, none⟩) (Kd.R_far (p := ⟨gb597, 0, none⟩) (Kd.R_types HO594.out BK597.out (by decide)) (fun _ hk => hk.2) (.int .i64 t591)) (fun _ hk => hk.2) (.slice Ao117 t592.length co117)) (fun _ h_ => h_.1)))); (case side2 => exact (Kd.R_reads' HO594.out).2.1); rintro e w118 ⟨v600, rfl, ho0, hb⟩; refine ⟨_, rfl, ?_⟩; replace HO594 := Aside0.mk (Kd.R_below (by (with_reducible repeat (first | apply Kd.R_alloc | apply Kd.R_drewN | apply Kd.R_drew)); exact (Kd.R_mono (Kd.R_far (p := ⟨gb597, 1, none⟩) (Kd.R_far (p := ⟨gb597, 0, none⟩) (Kd.R_types HO594.out BK597.out (by decide)) (fun _ hk => hk.2) (.int .i64 t591)) (fun _ hk => hk.2) (.slice Ao117 t592.length co117)) (fun _ h_ => h_.1))) hb); have HO601 := Aside0.mk (Kd.R_lower ho0 (below_size (kl HB))); replace BK525 := Aside0.mk (blk_below (g := gb525) (o := .cells #[.int .i64 a0_0, .slice A0_1 l0_1.length c0_1] 53 (0, 0)) (kb BK525) hb); replace BK597 := Aside0.mk (blk_below (g := gb597) (o := .cells #[.int .i64 t591, .slice Ao117 t592.length co117] 53 (0, 0)) (kb BK597) hb); replace HB := kH HB hb; (try clear hb); (try clear hb2); (try clear hk); (try clear hi); (try clear ho0); (try simp only [errW_none, errW_some])))
                 replace HO594 := Aside0.mk (Kd.R_drew HO594.out)
                 replace HO601 := Aside0.mk (Kd.R_drew HO601.out)
                 replace BK525 := Aside0.mk (blk_drew BK525.out)
                 replace BK597 := Aside0.mk (blk_drew BK597.out)
                 replace HB := Aside0.mk (below_drew1 HB.out)
                 obtain ⟨i0120, hi0120, _, hsz120, _⟩ := info_parts info5
                 obtain ⟨hcut120, hA120, hC120⟩ := print_take_of (P := Try.prog) (Value.int .u8) 0 54 5 .i64 Try.underlying54 hi0120 hsz120 A1 c1 l1 (ji110) (of_decide_eq_true (by first | (with_reducible assumption) | assumption)) (of_decide_eq_true (by first | (with_reducible assumption) | assumption)) HC1.out
                 have HR604 := Aside0.mk (Kd.C_of_reads (h1 := fun _ => rfl) (hA120 _ (Kd.reads_of_C HR1.out)))
                 have HC604 := Aside0.mk hC120
                 clear hA120 hC120 hi0120 hsz120
                 refine start_ (n := 29) (S := fun w' => True) (ds := []) (bl 29 0) (by kernel_rfl) rfl rfl trivial (fun hHeld => ?_); refine with_tabW gaiterlaw14_IndexBack.tab23 gaiterlaw14_IndexBack.bits23 (fun HT_ HW_ => ?_)
                 generalize w118.drew = w119 at HO594 HO601 BK525 BK597 HB HR604 hHeld ⊢
                 refine pu 0 (some 148) (bl 29 1) (h := ?_)
                 refine pu 1 (some 149) (bl 29 3) (h := ?_)
                 refine pu 2 (some 150) (bl 29 7) (h := ?_)
                 refine pu 3 (some 151) (bl 29 15) (h := ?_)
                 refine pu 4 (some 152) (bl 29 31) (h := ?_)
                 refine pu 5 (some 153) (bl 29 63) (h := ?_)
                 refine pu 6 (some 154) (bl 29 127) (h := ?_)
                 refine pu 7 (some 155) (bl 29 255) (h := ?_)
                 refine pu 8 (some 156) (bl 29 511) (h := ?_)
                 refine pu 9 (some 157) (bl 29 1023) (h := ?_)
                 refine pu 10 (some 158) (bl 29 2047) (h := ?_)
                 refine pu 11 (some 159) (bl 29 4095) (h := ?_)
                 refine pu 12 (some 160) (bl 29 8191) (h := ?_)
                 refine pu 13 (some 161) (bl 29 16383) (h := ?_)
                 refine pu 14 (some 162) (bl 29 32767) (h := ?_)
                 refine pu 15 (some 163) (bl 29 65535) (h := ?_)
                 refine pu 16 (some 164) (bl 29 131071) (h := ?_)
                 refine pu 18 (some 166) (bl 29 393215) (h := ?_)
                 refine pu 19 (some 167) (bl 29 917503) (h := ?_)
                 refine pu 20 (some 168) (bl 29 1966079) (h := ?_)
                 refine pu 21 (some 169) (bl 29 4063231) (h := ?_)
                 refine pu 22 (some 170) (bl 29 8257535) (h := ?_)
                 refine pu 23 (some 171) (bl 29 16646143) (h := ?_)
                 refine pu 24 (some 172) (bl 29 33423359) (h := ?_)
                 refine join_ (σ := Unit) 3 #[true, true, true, true, true, true, true, true, true, true, true, true, true, true, true, true, true, true, true, true, true, true, true, true, true, true, false, false, false] (fun s_ => [(165, .string (strOfNums t599)), (173, .string (strOfNums (l1.take ((ji110) : Int).toNat)))]) (fun s_ w' => (Kd.R k72 72 w' w.heap.size (fun _ => True) (.slice Ao117 t592.length co117) t592) ∧ (Kd.R (Kd.int .u8) 5 w' w.heap.size (fun _ => True) v600 t599) ∧ (w'.heap[gb525]? = some (.cells #[.int .i64 a0_0, .slice A0_1 l0_1.length c0_1] 53 (0, 0))) ∧ (w'.heap[gb597]? = some (.cells #[.int .i64 t591, .slice Ao117 t592.length co117] 53 (0, 0))) ∧ (Below w.heap.size w w')) ?_ ?_
                 rotate_left
                 ·intro hCont
                  refine two_ (i := 17) (j := 25) (Ni := some 165) (Nj := some 173) #[true, true, true, true, true, true, true, true, true, true, true, true, true, true, true, true, true, true, true, true, true, true, true, true, true, false, false, false, false] #[true, true, true, true, true, true, true, true, true, true, true, true, true, true, true, true, true, false, true, true, true, true, true, true, true, true, false, false, false] rfl rfl rfl rfl (two_of HT_.out (by kernel_rfl)) (by decide) (by decide) (fun K hK => ?_) (fun K hK => ?_)
                  ·skip
                   have hcv121 := own_string (P := Try.prog) Try.underlying54 Try.underlying5 Try.underlying9 (Kd.own_of_R HO601.out)
                   refine value_ (w1 := ?_) (v := ?_) (by rfl) rfl ?_ ?_
                   rotate_left 2
                   ·go_simp
                    constructor
                    ·rfl
                    ·rfl
                   clear hcv121
                   refine hK.out _ _ trivial (fun hHeld => ?_)
                   clear hK K
                   refine norm_ (a' := ?_) ?_ ?_
                   rotate_left
                   ·show Act.put _ (some 165) _ = _
                    simp only [Act.put, List.setIfInBounds_toArray, List.set_cons_zero, List.set_cons_succ, i64_w, i32_w]
                    rfl
                   refine one_ (i := 25) (N := some 173) #[true, true, true, true, true, true, true, true, true, true, true, true, true, true, true, true, true, true, true, true, true, true, true, true, true, true, false, false, false] rfl rfl (one_of HT_.out (by kernel_rfl)) (by decide) (fun K hK => ?_)
                   have hcv122 := Kd.C_string (P := Try.prog) (A := A1) (c := c1) Try.underlying54 Try.underlying5 Try.underlying9 (by first | exact (Kd.C_below HR604.out HB.out) | exact Kd.C_below HR604.out HB.out | exact HR604.out); (try (have hle_ : ji110 ≤ (l1.length : Int) := of_decide_eq_true (by first | (with_reducible assumption) | assumption); have hln_ : (l1.take (ji110 : Int).toNat).length = (ji110 : Int).toNat := (by rw [List.length_take]; omega); rw [hln_] at hcv122; clear hle_ hln_))
                   refine value_ (w1 := ?_) (v := ?_) (by rfl) rfl ?_ ?_
                   rotate_left 2
                   ·go_simp
                    constructor
                    ·rfl
                    ·rfl
                   clear hcv122
                   refine hK.out _ _ trivial (fun hHeld => ?_)
                   clear hK K
                   refine norm_ (a' := ?_) ?_ ?_
                   rotate_left
                   ·show Act.put _ (some 173) _ = _
                    simp only [Act.put, List.setIfInBounds_toArray, List.set_cons_zero, List.set_cons_succ, i64_w, i32_w]
                    rfl
                   exact norm_ (by simp only [putAll, Act.put, List.setIfInBounds_toArray, List.set_cons_zero, List.set_cons_succ]) (hCont () _ ⟨(kr HO594), (kr HO601), (kb BK525), (kb BK597), (kl HB)⟩)
                  ·skip
                   have hcv121 := Kd.C_string (P := Try.prog) (A := A1) (c := c1) Try.underlying54 Try.underlying5 Try.underlying9 (by first | exact (Kd.C_below HR604.out HB.out) | exact Kd.C_below HR604.out HB.out | exact HR604.out); (try (have hle_ : ji110 ≤ (l1.length : Int) := of_decide_eq_true (by first | (with_reducible assumption) | assumption); have hln_ : (l1.take (ji110 : Int).toNat).length = (ji110 : Int).toNat := (by rw [List.length_take]; omega); rw [hln_] at hcv121; clear hle_ hln_))
                   refine value_ (w1 := ?_) (v := ?_) (by rfl) rfl ?_ ?_
                   rotate_left 2
                   ·go_simp
                    constructor
                    ·rfl
                    ·rfl
                   clear hcv121
                   refine hK.out _ _ trivial (fun hHeld => ?_)
                   clear hK K
                   refine norm_ (a' := ?_) ?_ ?_
                   rotate_left
                   ·show Act.put _ (some 173) _ = _
                    simp only [Act.put, List.setIfInBounds_toArray, List.set_cons_zero, List.set_cons_succ, i64_w, i32_w]
                    rfl
                   refine one_ (i := 17) (N := some 165) #[true, true, true, true, true, true, true, true, true, true, true, true, true, true, true, true, true, true, true, true, true, true, true, true, true, true, false, false, false] rfl rfl (one_of HT_.out (by kernel_rfl)) (by decide) (fun K hK => ?_)
                   have hcv122 := own_string (P := Try.prog) Try.underlying54 Try.underlying5 Try.underlying9 (Kd.own_of_R HO601.out)
                   refine value_ (w1 := ?_) (v := ?_) (by rfl) rfl ?_ ?_
                   rotate_left 2
                   ·go_simp
                    constructor
                    ·rfl
                    ·rfl
                   clear hcv122
                   refine hK.out _ _ trivial (fun hHeld => ?_)
                   clear hK K
                   refine norm_ (a' := ?_) ?_ ?_
                   rotate_left
                   ·show Act.put _ (some 165) _ = _
                    simp only [Act.put, List.setIfInBounds_toArray, List.set_cons_zero, List.set_cons_succ, i64_w, i32_w]
                    rfl
                   exact norm_ (by simp only [putAll, Act.put, List.setIfInBounds_toArray, List.set_cons_zero, List.set_cons_succ]) (hCont () _ ⟨(kr HO594), (kr HO601), (kb BK525), (kb BK597), (kl HB)⟩)
                 rintro _ w123 ⟨h0_, h1_, h2_, h3_, h4_⟩
                 have n0_ : Aside0 (Kd.R k72 72 w123 w.heap.size (fun _ => True) (.slice Ao117 t592.length co117) t592) := ⟨h0_⟩
                 have n1_ : Aside0 (Kd.R (Kd.int .u8) 5 w123 w.heap.size (fun _ => True) v600 t599) := ⟨h1_⟩
                 have n2_ : Aside0 (w123.heap[gb525]? = some (.cells #[.int .i64 a0_0, .slice A0_1 l0_1.length c0_1] 53 (0, 0))) := ⟨h2_⟩
                 have n3_ : Aside0 (w123.heap[gb597]? = some (.cells #[.int .i64 t591, .slice Ao117 t592.length co117] 53 (0, 0))) := ⟨h3_⟩
                 have n4_ : Aside0 (Below w.heap.size w w123) := ⟨h4_⟩
                 clear HO594
                 clear HO601
                 clear BK525
                 clear BK597
                 clear HB
                 clear h0_ h1_ h2_ h3_ h4_
                 have HO594 := n0_
                 have HO601 := n1_
                 have BK525 := n2_
                 have BK597 := n3_
                 have HB := n4_
                 clear n0_ n1_ n2_ n3_ n4_
                 have hHeld := trivial
                 refine norm_ (a' := ?_) ?_ ?_
                 rotate_left
                 ·simp only [putAll, Act.put, List.setIfInBounds_toArray, List.set_cons_zero, List.set_cons_succ]
                  rfl
                 refine pu 26 (some 174) (bl 29 134217727) (h := ?_)
                 refine pu 27 (some 175) (bl 29 268435455) (h := ?_)
                 refine pu 28 (some 4) (bl 29 536870911) (h := ?_)
                 refine done_ (done_of HT_.out (by kernel_rfl)) ?_
                 try go_wp2
                 go_ret
                 exact ⟨by first | rfl | (simp [errW_none, errW_some] <;> rfl) | (simp only [← hji109, ← hji110]; first | rfl | (simp [errW_none, errW_some] <;> rfl)) | (simp [*, errW_none, errW_some] <;> rfl), (kl HB)⟩
                ·rw [if_neg c112] at H
                 exact absurd H (by simp)
               ·rw [if_neg c111] at H
                exact absurd H (by simp)
              ·rw [if_neg c108] at H
               have c108b0 : decide (t595 ≤ (l1.length : Int)) = false := decide_eq_false c108
               clear c108
               exact absurd H (by simp)
             ·rw [if_neg c107] at H
              have c107b0 : decide (0 ≤ t595) = false := decide_eq_false c107
              clear c107
              exact absurd H (by simp)
            ·have H1 : (none) = some r := by rw [if_neg (show ¬ (some q603).isNone = true by simp)] at H; exact H
             clear H
             have H := H1
             clear H1
             try simp only [errW_none, errW_some]
             exact absurd H (by simp)
           ·replace c106 := Bool.eq_false_iff.mpr c106
            subst c106
            have H1 : (none) = some r := by rw [if_neg (show ¬ (false = true) by decide)] at H; exact H
            clear H
            have H := H1
            clear H1
            exact absurd H (by simp)
          ·have H1 : (some t526) = some r := by rw [if_neg (show ¬ (some q598).isNone = true by simp)] at H; exact H
           clear H
           have H := H1
           clear H1
           try simp only [errW_none, errW_some]
           obtain rfl := Option.some.inj H
           go_wp2_with (first | ((with_reducible refine gate_callee (f := 27) rfl ?_); refine goesL_ (some 136) rfl rfl Try.func27 (by kernel_rfl) rfl #[.slice A1 l1.length c1] rfl km ?_; (with_reducible refine (index_Get.calls kj23 _ _ l1 t591 t592 t595 (some q598) _ ?side1 ?side2 A104.out).mono ?_); (case side1 => repeat (first | exact (Kd.C_below HR1.out HB.out) | (with_reducible refine Kd.C_alloc ?_ _) | (with_reducible refine Kd.C_drewN ?_ _) | (with_reducible refine Kd.C_drew ?_))); (case side2 => exact HC1.out); rintro e w124 ⟨v593, rfl, ho0, hb⟩; refine ⟨_, rfl, ?_⟩; have HO594 := Aside0.mk (Kd.R_lower ho0 (below_size (kl HB))); replace BK525 := kB BK525 hb; replace HB := kH HB hb; (try clear hb); (try clear hb2); (try clear hk); (try clear hi); (try clear ho0); (try simp only [errW_none, errW_some])) | ((with_reducible refine gate_dst (N := 19) rfl ?_); (try (refine gate_guard (by rfl) ?_; dsimp only)); refine box_event ?hg (N := 19) ?hd (cs := #[.int .i64 0, .slice none 0 0]) (t := 53) ?hr ?_; (case hd => rfl); (case hg => rfl); (case hr => first | (go_simp; done) | (go_simp; rfl)); intro gb597 hg w125 hbox hb; replace HO594 := Aside0.mk (Kd.R_below (kr HO594) hb); have BK597 := Aside0.mk (hbox); have GW597 := kG hg HB; have GE597 := kG hg HB; replace HB := kH HB hb; obtain ⟨NB525_597, NB597_525⟩ := kN hg BK525; replace BK525 := kB BK525 hb; clear hb hbox hg; have hnb126 := NB597_525.out; have hnc126 := NB525_597.out; have hcz127_0 : w125.cell? ⟨gb597, 0, none⟩ = some (.int .i64 0) := (blk_cell BK597.out 0).trans rfl; have hcz127_1 : w125.cell? ⟨gb597, 1, none⟩ = some (.slice none 0 0) := (blk_cell BK597.out 1).trans rfl; have hfz127_0 := blk_frozen BK597.out 0; have hfz127_1 := blk_frozen BK597.out 1; obtain ⟨Ao128, co128, eo128⟩ := Kd.R_slice HO594.out; subst eo128))
           go_ret
           exact ⟨by first | rfl | (simp [errW_none, errW_some] <;> rfl) | (simp [*, errW_none, errW_some] <;> rfl), (kl HB)⟩

end Go.Proofs.Ytiahbcaoikoogaa.All
