-- written by a program of the session out of the translation; Lean checks it
import Derived.Test.YtiahbcaoikoogaaDoorAllx0
import Derived.Test.YtiahbcaoikoogaaDoorAllx2
import Derived.Test.YtiahbcaoikoogaaDoorAllx8
import Derived.Test.YtiahbcaoikoogaaDoorAllx11
import Derived.Test.YtiahbcaoikoogaaDoorAllx12
import Derived.Test.YtiahbcaoikoogaaDoorAllx13
import Derived.Test.YtiahbcaoikoogaaDoorAllx14
import Derived.Test.YtiahbcaoikoogaaDoorAllx15
import Derived.Test.YtiahbcaoikoogaaDoorAllx17
import Derived.Test.YtiahbcaoikoogaaDoorIs
namespace Go.Proofs.YtiahbcaoikoogaaDoor.All
open Go.RowKit Go.Proofs.YtiahbcaoikoogaaDoorW.PrintWords Go.Proofs.YtiahbcaoikoogaaDoorW.PrintLast Go.Proofs.YtiahbcaoikoogaaDoorW.PrintMore
attribute [local go_sem] max2_int min2_int max_two min_two max_three min_three max_four min_four   -- for this text's walks alone
set_option linter.unusedVariables false
set_option linter.unusedSimpArgs false

attribute [local go_sem high] eqA27
/-! ### gaiterlaw07_XorTells: function 3 -/
def gaiterlaw07_XorTells.j0 : Nat → Int → List Int → Int → Bool → Bool → Int → Int → Int → Int → Int → Int → Option (Bool)
 | 0, _, _, _, _, _, _, _, _, _, _, _ => none
 | k + 1, x1, x2, x3, x9, x35, x346000, x346001, x346002, x351000, x351001, x351002 => if x35 = true then (some x9) else ((xor_Code.f k x346000 x346001 x346002 x1).bind fun bt352 => ((gaiterref01_Code.f k x351000 x351001 x351002 x1).bind fun bt361 => ((xor_Get.f k x346000 x346001 x346002 x2 x3).bind fun bt368 => ((gaiterlaw00_Rest.f k x2 x3).bind fun t375 => ((gaiterref01_GetXor.f k x351000 x351001 x351002 t375).bind fun bt378 => (if x9 = true then ((gaiterlaw00_Is.f k bt352.1 bt352.2.1 bt361.1).bind fun t385 => (if t385 = 1 then ((gaiterlaw00_Xor.f bt352.2.2.1 bt352.2.2.2.1 bt352.2.2.2.2).bind fun bt386 => (if (bt386.1 == bt361.2.1 && (bt386.2.1 == bt361.2.2.1 && (bt386.2.2 == bt361.2.2.2))) = true then (if bt368.1 = bt378.1 then ((gaiterlaw00_Xor.f bt368.2.1 bt368.2.2.1 bt368.2.2.2.1).bind fun bt389 => (if (bt389.1 == bt378.2.1 && (bt389.2.1 == bt378.2.2.1 && (bt389.2.2 == bt378.2.2.2.1))) = true then (if bt368.2.2.2.2.1 = bt378.2.2.2.2.1 then ((gaiterlaw00_Code.f bt368.2.2.2.2.2).bind fun t392 => (some (t392 == bt378.2.2.2.2.2))) else (none)) else (none))) else (none)) else (none))) else (none))) else (none)))))))
def gaiterlaw07_XorTells.f (k : Nat) (a0_0 : Int) (a0_1 : Int) (a0_2 : Int) (a1 : Int) (l2 : List Int) (a3 : Int) : Option (Bool) := (gaiterlaw07_up.f k).bind fun t346 => ((gaiterlaw00_Xor.f a0_0 a0_1 a0_2).bind fun bt347 => ((gaiterref01_MayXor.f bt347.1 bt347.2.1 bt347.2.2).bind fun t351 => (if t351 = true then (gaiterlaw07_XorTells.j0 k a1 l2 a3 t346 (decide ((l2.length : Int) > 500)) a0_0 a0_1 a0_2 bt347.1 bt347.2.1 bt347.2.2) else (gaiterlaw07_XorTells.j0 k a1 l2 a3 t346 true a0_0 a0_1 a0_2 bt347.1 bt347.2.1 bt347.2.2))))
theorem gaiterlaw07_XorTells.mono_l : ∀ k, (∀ y0 y1 y2 y3 y4 y5 y6 y7 y8 y9 y10, LeO (gaiterlaw07_XorTells.j0 k y0 y1 y2 y3 y4 y5 y6 y7 y8 y9 y10) (gaiterlaw07_XorTells.j0 (k + 1) y0 y1 y2 y3 y4 y5 y6 y7 y8 y9 y10))
 | 0 => fun _ _ _ _ _ _ _ _ _ _ _ r h => by simp [gaiterlaw07_XorTells.j0] at h
 | k + 1 => by
  have ih0 := gaiterlaw07_XorTells.mono_l k
  ·intro y0 y1 y2 y3 y4 y5 y6 y7 y8 y9 y10
   unfold gaiterlaw07_XorTells.j0
   repeat' first
   | (with_reducible exact ih0 _ _ _ _ _ _ _ _ _ _ _)
   | (with_reducible exact gaiterlaw00_Is.mono _ _ _ _)
   | (with_reducible exact gaiterlaw00_Rest.mono _ _ _)
   | (with_reducible exact gaiterlaw07_up.mono _)
   | (with_reducible exact gaiterref01_Code.mono _ _ _ _ _)
   | (with_reducible exact gaiterref01_GetXor.mono _ _ _ _ _)
   | (with_reducible exact xor_Code.mono _ _ _ _ _)
   | (with_reducible exact xor_Get.mono _ _ _ _ _ _)
   | (with_reducible exact LeO.refl _)
   | (with_reducible exact LeO.none _)
   | (with_reducible refine LeO.ite ?_ ?_)
   | (with_reducible refine LeO.bind ?_ (fun _ => ?_))
   | exact ih0 _ _ _ _ _ _ _ _ _ _ _
   | exact gaiterlaw00_Is.mono _ _ _ _
   | exact gaiterlaw00_Rest.mono _ _ _
   | exact gaiterlaw07_up.mono _
   | exact gaiterref01_Code.mono _ _ _ _ _
   | exact gaiterref01_GetXor.mono _ _ _ _ _
   | exact xor_Code.mono _ _ _ _ _
   | exact xor_Get.mono _ _ _ _ _ _
   | exact LeO.none _
   | refine LeO.ite ?_ ?_
   | refine LeO.bind ?_ (fun _ => ?_)
theorem gaiterlaw07_XorTells.mono : ∀ a0 a1 a2 a3 a4 a5 k, LeO (gaiterlaw07_XorTells.f k a0 a1 a2 a3 a4 a5) (gaiterlaw07_XorTells.f (k + 1) a0 a1 a2 a3 a4 a5) := by
 intro a0 a1 a2 a3 a4 a5 k
 have ih0 := gaiterlaw07_XorTells.mono_l k
 unfold gaiterlaw07_XorTells.f
 repeat' first
   | (with_reducible exact ih0 _ _ _ _ _ _ _ _ _ _ _)
   | (with_reducible exact gaiterlaw00_Is.mono _ _ _ _)
   | (with_reducible exact gaiterlaw00_Rest.mono _ _ _)
   | (with_reducible exact gaiterlaw07_up.mono _)
   | (with_reducible exact gaiterref01_Code.mono _ _ _ _ _)
   | (with_reducible exact gaiterref01_GetXor.mono _ _ _ _ _)
   | (with_reducible exact xor_Code.mono _ _ _ _ _)
   | (with_reducible exact xor_Get.mono _ _ _ _ _ _)
   | (with_reducible exact LeO.refl _)
   | (with_reducible exact LeO.none _)
   | (with_reducible refine LeO.ite ?_ ?_)
   | (with_reducible refine LeO.bind ?_ (fun _ => ?_))
   | exact ih0 _ _ _ _ _ _ _ _ _ _ _
   | exact gaiterlaw00_Is.mono _ _ _ _
   | exact gaiterlaw00_Rest.mono _ _ _
   | exact gaiterlaw07_up.mono _
   | exact gaiterref01_Code.mono _ _ _ _ _
   | exact gaiterref01_GetXor.mono _ _ _ _ _
   | exact xor_Code.mono _ _ _ _ _
   | exact xor_Get.mono _ _ _ _ _ _
   | exact LeO.none _
   | refine LeO.ite ?_ ?_
   | refine LeO.bind ?_ (fun _ => ?_)
def gaiterlaw07_XorTells.T9 : Bool × List (List Nat × List Nat) := (true, [([], []), ([], []), ([], []), ([1, 2], [1, 2]), ([0, 3, 3], [0, 3]), ([4], [4]), ([5], [5]), ([5], [5]), ([5], [5]), ([5], [5]), ([], []), ([6, 4, 0, 1, 2, 3, 4, 5, 6, 10], [6]), ([10, 7, 11, 0, 1, 2, 3, 4, 5, 6, 7, 10, 11], [7, 10]), ([8, 12, 0, 1, 2, 3, 4, 5, 6, 7, 8, 10, 11, 12], [8]), ([9, 13, 0, 1, 2, 3, 4, 5, 6, 7, 8, 9, 10, 11, 12, 13], [9])])
def gaiterlaw07_XorTells.B9 : List Nat := [0, 0, 0, 6, 15, 31, 63, 63, 63, 63, 0, 1151, 3327, 7679, 16383]
theorem gaiterlaw07_XorTells.tab9 : rtab .any (opsOf Tryd.f3 9) = gaiterlaw07_XorTells.T9 := by kernel_rfl
theorem gaiterlaw07_XorTells.bits9 : waitsOk gaiterlaw07_XorTells.T9.2 gaiterlaw07_XorTells.B9 = true := by kernel_rfl
def gaiterlaw07_XorTells.T10 : Bool × List (List Nat × List Nat) := (true, [([], []), ([0], [0]), ([1], [1]), ([1], [1]), ([2, 3, 1, 1], [1, 2, 3]), ([4, 1], [1, 4]), ([1, 5], [1, 5]), ([6, 4], [6]), ([7], [7]), ([8, 7, 7], [7, 8]), ([7], [7]), ([9, 10, 7], [7, 9, 10]), ([7, 11], [7, 11]), ([12, 9], [12]), ([13], [13]), ([13], [13]), ([14, 15, 13], [13, 14, 15]), ([13, 16], [13, 16]), ([17, 13], [17]), ([18], [18]), ([19, 18, 18], [18, 19]), ([18], [18]), ([20, 21, 18], [18, 20, 21]), ([18, 22], [18, 22]), ([23, 20], [23]), ([24], [24]), ([24], [24]), ([25, 26, 24], [24, 25, 26]), ([24, 27], [24, 27]), ([28, 24], [28]), ([29], [29]), ([30, 29, 29], [29, 30]), ([29], [29]), ([31, 32, 29], [29, 31, 32]), ([29, 33], [29, 33]), ([34, 31, 0, 1, 2, 3, 4, 5, 6, 7, 8, 9, 10, 11, 12, 13, 14, 15, 16, 17, 18, 19, 20, 21, 22, 23, 24, 25, 26, 27, 28, 29, 30, 31, 32, 33, 34], [34])])
def gaiterlaw07_XorTells.B10 : List Nat := [0, 1, 3, 3, 15, 31, 63, 127, 255, 511, 255, 2047, 4095, 8191, 16383, 16383, 65535, 131071, 262143, 524287, 1048575, 524287, 4194303, 8388607, 16777215, 33554431, 33554431, 134217727, 268435455, 536870911, 1073741823, 2147483647, 1073741823, 8589934591, 17179869183, 34359738367]
theorem gaiterlaw07_XorTells.tab10 : rtab .any (opsOf Tryd.f3 10) = gaiterlaw07_XorTells.T10 := by kernel_rfl
theorem gaiterlaw07_XorTells.bits10 : waitsOk gaiterlaw07_XorTells.T10.2 gaiterlaw07_XorTells.B10 = true := by kernel_rfl
set_option maxHeartbeats 8000000 in
set_option maxRecDepth 100000 in
theorem gaiterlaw07_XorTells.calls (k : Nat) (a0_0 : Int) (a0_1 : Int) (a0_2 : Int) (a1 : Int) (A2 : Option Addr) (c2 : Nat) (l2 : List Int) (a3 : Int) (r : Bool) (w : World) (hT : TabOk w) (hr2 : Kd.C (Kd.int .u8) w A2 l2.length l2) (hc2 : l2.length ≤ c2) (h : gaiterlaw07_XorTells.f k a0_0 a0_1 a0_2 a1 l2 a3 = some r) :
  Calls Tryd.prog 3 #[.agg #[.int .u64 a0_0, .int .i64 a0_1, .int .i64 a0_2], .int .u64 a1, .slice A2 l2.length c2, .int .i64 a3] w fun e w' => e = .returned (.bool r) ∧ Below w.heap.size w w' := by
 have hu24 := Tryd.underlying24
 have hu27 := Tryd.underlying27
 have hu31 := Tryd.underlying31
 have HT := Aside0.mk hT
 clear hT
 have HR2 := Aside0.mk hr2
 have HC2 := Aside0.mk hc2
 clear hr2 hc2
 have HB := Aside0.mk (Below.refl w.heap.size w)
 have H : ((gaiterlaw07_up.f k).bind fun t346 => ((gaiterlaw00_Xor.f a0_0 a0_1 a0_2).bind fun bt347 => ((gaiterref01_MayXor.f bt347.1 bt347.2.1 bt347.2.2).bind fun t351 => (if t351 = true then (gaiterlaw07_XorTells.j0 k a1 l2 a3 t346 (decide ((l2.length : Int) > 500)) a0_0 a0_1 a0_2 bt347.1 bt347.2.1 bt347.2.2) else (gaiterlaw07_XorTells.j0 k a1 l2 a3 t346 true a0_0 a0_1 a0_2 bt347.1 bt347.2.1 bt347.2.2))))) = some r := h
 clear h
 replace H := Option.bind_eq_some_iff.mp H
 obtain ⟨t346, A50, H⟩ := H
 replace H : ((gaiterlaw00_Xor.f a0_0 a0_1 a0_2).bind fun bt347 => ((gaiterref01_MayXor.f bt347.1 bt347.2.1 bt347.2.2).bind fun t351 => (if t351 = true then (gaiterlaw07_XorTells.j0 k a1 l2 a3 t346 (decide ((l2.length : Int) > 500)) a0_0 a0_1 a0_2 bt347.1 bt347.2.1 bt347.2.2) else (gaiterlaw07_XorTells.j0 k a1 l2 a3 t346 true a0_0 a0_1 a0_2 bt347.1 bt347.2.1 bt347.2.2)))) = some r := H
 have A5 := Aside0.mk A50
 clear A50
 replace H := Option.bind_eq_some_iff.mp H
 obtain ⟨⟨t347, t348, t349⟩, A60, H⟩ := H
 replace H : ((gaiterref01_MayXor.f t347 t348 t349).bind fun t351 => (if t351 = true then (gaiterlaw07_XorTells.j0 k a1 l2 a3 t346 (decide ((l2.length : Int) > 500)) a0_0 a0_1 a0_2 t347 t348 t349) else (gaiterlaw07_XorTells.j0 k a1 l2 a3 t346 true a0_0 a0_1 a0_2 t347 t348 t349))) = some r := H
 have A6 := Aside0.mk A60
 clear A60
 replace H := Option.bind_eq_some_iff.mp H
 obtain ⟨t351, A70, H⟩ := H
 replace H : (if t351 = true then (gaiterlaw07_XorTells.j0 k a1 l2 a3 t346 (decide ((l2.length : Int) > 500)) a0_0 a0_1 a0_2 t347 t348 t349) else (gaiterlaw07_XorTells.j0 k a1 l2 a3 t346 true a0_0 a0_1 a0_2 t347 t348 t349)) = some r := H
 have A7 := Aside0.mk A70
 clear A70
 have HC8 := Aside0.mk H
 clear H
 go_enter Tryd.func3, Tryd.ntmps3
 go_upto_region 4 with (first | ((with_reducible refine gate_dst (N := 4) rfl ?_); (try (refine gate_guard (by rfl) ?_; dsimp only)); refine box_event ?hg (N := 4) ?hd (cs := #[.int .u64 a0_0, .int .i64 a0_1, .int .i64 a0_2]) (t := 24) ?hr ?_; (case hd => rfl); (case hg => rfl); (case hr => first | (go_simp; done) | (go_simp; rfl)); intro gb345 hg w9 hbox hb; have BK345 := Aside0.mk (hbox); have GW345 := kG hg HB; have GE345 := kG hg HB; replace HB := kH HB hb; clear hb hbox hg) | ((with_reducible refine gate_callee (f := 11) rfl ?_); refine goesL_ (some 24) rfl rfl Tryd.func11 (by kernel_rfl) rfl #[] rfl km ?_; (with_reducible refine (gaiterlaw07_up.calls k  t346 _ ?side1 A5.out).mono ?_); (case side1 => exact TabOk.below HT.out (kl HB) (Nat.le_refl _)); rintro e w10 ⟨rfl, hb⟩; refine ⟨_, rfl, ?_⟩; replace BK345 := kB BK345 hb; replace HB := kH HB hb; (try clear hb); (try clear hb2); (try clear hk); (try clear hi); have hcz11_0 : w10.cell? ⟨gb345, 0, none⟩ = some (.int .u64 a0_0) := (blk_cell BK345.out 0).trans rfl; have hcz11_1 : w10.cell? ⟨gb345, 1, none⟩ = some (.int .i64 a0_1) := (blk_cell BK345.out 1).trans rfl; have hcz11_2 : w10.cell? ⟨gb345, 2, none⟩ = some (.int .i64 a0_2) := (blk_cell BK345.out 2).trans rfl; have hfz11_0 := blk_frozen BK345.out 0; have hfz11_1 := blk_frozen BK345.out 1; have hfz11_2 := blk_frozen BK345.out 2) | ((with_reducible refine gate_callee (f := 12) rfl ?_); refine goesL_ (some 26) rfl rfl Tryd.func12 (by kernel_rfl) rfl #[.agg #[.int .u64 a0_0, .int .i64 a0_1, .int .i64 a0_2]] rfl km ?_; (with_reducible refine (gaiterlaw00_Xor.calls a0_0 a0_1 a0_2 t347 t348 t349 _ A6.out).mono ?_); rintro e w12 ⟨rfl, hb⟩; refine ⟨_, rfl, ?_⟩; replace BK345 := kB BK345 hb; replace HB := kH HB hb; (try clear hb); (try clear hb2); (try clear hk); (try clear hi)) | ((with_reducible refine gate_dst (N := 10) rfl ?_); (try (refine gate_guard (by rfl) ?_; dsimp only)); refine box_event ?hg (N := 10) ?hd (cs := #[.int .u64 0, .int .i64 0, .int .i64 0]) (t := 27) ?hr ?_; (case hd => rfl); (case hg => rfl); (case hr => first | (go_simp; done) | (go_simp; rfl)); intro gb350 hg w13 hbox hb; have BK350 := Aside0.mk (hbox); have GW350 := kG hg HB; have GE350 := kG hg HB; replace HB := kH HB hb; obtain ⟨NB345_350, NB350_345⟩ := kN hg BK345; replace BK345 := kB BK345 hb; clear hb hbox hg; have hnb14 := NB350_345.out; have hnc14 := NB345_350.out; have hcz15_0 : w13.cell? ⟨gb350, 0, none⟩ = some (.int .u64 0) := (blk_cell BK350.out 0).trans rfl; have hcz15_1 : w13.cell? ⟨gb350, 1, none⟩ = some (.int .i64 0) := (blk_cell BK350.out 1).trans rfl; have hcz15_2 : w13.cell? ⟨gb350, 2, none⟩ = some (.int .i64 0) := (blk_cell BK350.out 2).trans rfl; have hfz15_0 := blk_frozen BK350.out 0; have hfz15_1 := blk_frozen BK350.out 1; have hfz15_2 := blk_frozen BK350.out 2) | ((with_reducible refine gate_callee (f := 13) rfl ?_); refine goesL_ (some 28) rfl rfl Tryd.func13 (by kernel_rfl) rfl #[.agg #[.int .u64 t347, .int .i64 t348, .int .i64 t349]] rfl km ?_; (with_reducible refine (gaiterref01_MayXor.calls t347 t348 t349 t351 _ A7.out).mono ?_); rintro e w16 ⟨rfl, hb⟩; refine ⟨_, rfl, ?_⟩; replace BK345 := Aside0.mk (blk_below (g := gb345) (o := .cells #[.int .u64 a0_0, .int .i64 a0_1, .int .i64 a0_2] 24 (0, 0)) (kb BK345) hb); replace BK350 := Aside0.mk (blk_below (g := gb350) (o := .cells #[.int .u64 t347, .int .i64 t348, .int .i64 t349] 27 (0, 0)) (kb BK350) hb); replace HB := kH HB hb; (try clear hb); (try clear hb2); (try clear hk); (try clear hi)))
 (try simp only [Act.put, List.setIfInBounds_toArray, List.set_cons_zero, List.set_cons_succ])
 go_cut [35] (fun v35 wc => ∃ (kq : Nat) (x35_7 : Bool), v35 = .bool x35_7 ∧ Aside0 (gaiterlaw07_XorTells.j0 kq a1 l2 a3 t346 x35_7 a0_0 a0_1 a0_2 t347 t348 t349 = some r) ∧ Aside0 (kq ≤ k) ∧ Aside0 (wc.heap[gb345]? = some (.cells #[.int .u64 a0_0, .int .i64 a0_1, .int .i64 a0_2] 24 (0, 0))) ∧ Aside0 (wc.heap[gb350]? = some (.cells #[.int .u64 t347, .int .i64 t348, .int .i64 t349] 27 (0, 0))) ∧ Aside0 (Below w.heap.size w wc))
 case first =>
  have H := HC8.out
  clear HC8
  by_cases c17 : t351 = true
  ·subst c17
   have H1 : (gaiterlaw07_XorTells.j0 k a1 l2 a3 t346 (decide ((l2.length : Int) > 500)) a0_0 a0_1 a0_2 t347 t348 t349) = some r := by rw [if_pos rfl] at H; exact H
   clear H
   have H := H1
   clear H1
   have H' := Aside0.mk H
   clear H
   go_wp2
   go_meet
   case rel => exact ⟨_, (decide ((l2.length : Int) > 500)), (by first | rfl | (simp; done) | (simp [*]; done)), H', ⟨by first | omega | exact Nat.le_refl _⟩, ⟨by (with_reducible repeat (first | refine blk_drewN ?_ _ | refine blk_drew ?_ | refine blk_alloc ?_ _)); exact BK345.out⟩, ⟨by (with_reducible repeat (first | refine blk_drewN ?_ _ | refine blk_drew ?_ | refine blk_alloc ?_ _)); exact BK350.out⟩, ⟨by repeat (first | (with_reducible first | exact HB.out | apply below_alloc | apply pw_below_drewN | apply below_drew1 | refine below_set ?_ GE345.out | refine below_set ?_ GE350.out) | exact HB.out)⟩⟩
  ·replace c17 := Bool.eq_false_iff.mpr c17
   subst c17
   have H1 : (gaiterlaw07_XorTells.j0 k a1 l2 a3 t346 true a0_0 a0_1 a0_2 t347 t348 t349) = some r := by rw [if_neg (show ¬ (false = true) by decide)] at H; exact H
   clear H
   have H := H1
   clear H1
   have H' := Aside0.mk H
   clear H
   go_wp2
   go_meet
   case rel => exact ⟨_, (true), (by first | rfl | (simp; done) | (simp [*]; done)), H', ⟨by first | omega | exact Nat.le_refl _⟩, ⟨by (with_reducible repeat (first | refine blk_drewN ?_ _ | refine blk_drew ?_ | refine blk_alloc ?_ _)); exact BK345.out⟩, ⟨by (with_reducible repeat (first | refine blk_drewN ?_ _ | refine blk_drew ?_ | refine blk_alloc ?_ _)); exact BK350.out⟩, ⟨by repeat (first | (with_reducible first | exact HB.out | apply below_alloc | apply pw_below_drewN | apply below_drew1 | refine below_set ?_ GE345.out | refine below_set ?_ GE350.out) | exact HB.out)⟩⟩
 case rest =>
  clear HC8
  try clear c1
  try clear c2
  try clear p2
  try clear c3
  try clear c11
  try clear c12
  try clear c13
  try clear c14
  try clear c17
  try clear hcz11_0
  try clear hcz11_1
  try clear hcz11_2
  try clear hcz15_0
  try clear hcz15_1
  try clear hcz15_2
  try clear hfz11_0
  try clear hfz11_1
  try clear hfz11_2
  try clear hfz15_0
  try clear hfz15_1
  try clear hfz15_2
  obtain ⟨kq, x35_7, rfl, HA, HJ7, BK345, BK350, HB⟩ := hcut
  cases kq with
  | zero => exact absurd HA.out (by simp [gaiterlaw07_XorTells.j0])
  | succ kj7 =>
   have H := HA.out
   clear HA
   simp only [gaiterlaw07_XorTells.j0] at H
   by_cases c18 : x35_7 = true
   ·subst c18
    have H1 : (some t346) = some r := by rw [if_pos rfl] at H; exact H
    clear H
    have H := H1
    clear H1
    obtain rfl := Option.some.inj H
    go_wp2
    go_ret
    exact ⟨by first | rfl | (simp [errW_none, errW_some] <;> rfl) | (simp [*, errW_none, errW_some] <;> rfl), by repeat (first | (with_reducible first | exact HB.out | apply below_alloc | apply pw_below_drewN | apply below_drew1 | refine below_set ?_ GE345.out | refine below_set ?_ GE350.out) | exact HB.out)⟩
   ·replace c18 := Bool.eq_false_iff.mpr c18
    subst c18
    have H1 : ((xor_Code.f kj7 a0_0 a0_1 a0_2 a1).bind fun bt352 => ((gaiterref01_Code.f kj7 t347 t348 t349 a1).bind fun bt361 => ((xor_Get.f kj7 a0_0 a0_1 a0_2 l2 a3).bind fun bt368 => ((gaiterlaw00_Rest.f kj7 l2 a3).bind fun t375 => ((gaiterref01_GetXor.f kj7 t347 t348 t349 t375).bind fun bt378 => (if t346 = true then ((gaiterlaw00_Is.f kj7 bt352.1 bt352.2.1 bt361.1).bind fun t385 => (if t385 = 1 then ((gaiterlaw00_Xor.f bt352.2.2.1 bt352.2.2.2.1 bt352.2.2.2.2).bind fun bt386 => (if (bt386.1 == bt361.2.1 && (bt386.2.1 == bt361.2.2.1 && (bt386.2.2 == bt361.2.2.2))) = true then (if bt368.1 = bt378.1 then ((gaiterlaw00_Xor.f bt368.2.1 bt368.2.2.1 bt368.2.2.2.1).bind fun bt389 => (if (bt389.1 == bt378.2.1 && (bt389.2.1 == bt378.2.2.1 && (bt389.2.2 == bt378.2.2.2.1))) = true then (if bt368.2.2.2.2.1 = bt378.2.2.2.2.1 then ((gaiterlaw00_Code.f bt368.2.2.2.2.2).bind fun t392 => (some (t392 == bt378.2.2.2.2.2))) else (none)) else (none))) else (none)) else (none))) else (none))) else (none))))))) = some r := by rw [if_neg (show ¬ (false = true) by decide)] at H; exact H
    clear H
    have H := H1
    clear H1
    replace H := Option.bind_eq_some_iff.mp H
    obtain ⟨⟨t352, t355, t356, t357, t358⟩, A190, H⟩ := H
    replace H : ((gaiterref01_Code.f kj7 t347 t348 t349 a1).bind fun bt361 => ((xor_Get.f kj7 a0_0 a0_1 a0_2 l2 a3).bind fun bt368 => ((gaiterlaw00_Rest.f kj7 l2 a3).bind fun t375 => ((gaiterref01_GetXor.f kj7 t347 t348 t349 t375).bind fun bt378 => (if t346 = true then ((gaiterlaw00_Is.f kj7 t352 t355 bt361.1).bind fun t385 => (if t385 = 1 then ((gaiterlaw00_Xor.f t356 t357 t358).bind fun bt386 => (if (bt386.1 == bt361.2.1 && (bt386.2.1 == bt361.2.2.1 && (bt386.2.2 == bt361.2.2.2))) = true then (if bt368.1 = bt378.1 then ((gaiterlaw00_Xor.f bt368.2.1 bt368.2.2.1 bt368.2.2.2.1).bind fun bt389 => (if (bt389.1 == bt378.2.1 && (bt389.2.1 == bt378.2.2.1 && (bt389.2.2 == bt378.2.2.2.1))) = true then (if bt368.2.2.2.2.1 = bt378.2.2.2.2.1 then ((gaiterlaw00_Code.f bt368.2.2.2.2.2).bind fun t392 => (some (t392 == bt378.2.2.2.2.2))) else (none)) else (none))) else (none)) else (none))) else (none))) else (none)))))) = some r := H
    have A19 := Aside0.mk A190
    clear A190
    replace H := Option.bind_eq_some_iff.mp H
    obtain ⟨⟨t361, t364, t365, t366⟩, A200, H⟩ := H
    replace H : ((xor_Get.f kj7 a0_0 a0_1 a0_2 l2 a3).bind fun bt368 => ((gaiterlaw00_Rest.f kj7 l2 a3).bind fun t375 => ((gaiterref01_GetXor.f kj7 t347 t348 t349 t375).bind fun bt378 => (if t346 = true then ((gaiterlaw00_Is.f kj7 t352 t355 t361).bind fun t385 => (if t385 = 1 then ((gaiterlaw00_Xor.f t356 t357 t358).bind fun bt386 => (if (bt386.1 == t364 && (bt386.2.1 == t365 && (bt386.2.2 == t366))) = true then (if bt368.1 = bt378.1 then ((gaiterlaw00_Xor.f bt368.2.1 bt368.2.2.1 bt368.2.2.2.1).bind fun bt389 => (if (bt389.1 == bt378.2.1 && (bt389.2.1 == bt378.2.2.1 && (bt389.2.2 == bt378.2.2.2.1))) = true then (if bt368.2.2.2.2.1 = bt378.2.2.2.2.1 then ((gaiterlaw00_Code.f bt368.2.2.2.2.2).bind fun t392 => (some (t392 == bt378.2.2.2.2.2))) else (none)) else (none))) else (none)) else (none))) else (none))) else (none))))) = some r := H
    have A20 := Aside0.mk A200
    clear A200
    replace H := Option.bind_eq_some_iff.mp H
    obtain ⟨⟨t368, t369, t370, t371, t372, t373⟩, A210, H⟩ := H
    replace H : ((gaiterlaw00_Rest.f kj7 l2 a3).bind fun t375 => ((gaiterref01_GetXor.f kj7 t347 t348 t349 t375).bind fun bt378 => (if t346 = true then ((gaiterlaw00_Is.f kj7 t352 t355 t361).bind fun t385 => (if t385 = 1 then ((gaiterlaw00_Xor.f t356 t357 t358).bind fun bt386 => (if (bt386.1 == t364 && (bt386.2.1 == t365 && (bt386.2.2 == t366))) = true then (if t368 = bt378.1 then ((gaiterlaw00_Xor.f t369 t370 t371).bind fun bt389 => (if (bt389.1 == bt378.2.1 && (bt389.2.1 == bt378.2.2.1 && (bt389.2.2 == bt378.2.2.2.1))) = true then (if t372 = bt378.2.2.2.2.1 then ((gaiterlaw00_Code.f t373).bind fun t392 => (some (t392 == bt378.2.2.2.2.2))) else (none)) else (none))) else (none)) else (none))) else (none))) else (none)))) = some r := H
    have A21 := Aside0.mk A210
    clear A210
    replace H := Option.bind_eq_some_iff.mp H
    obtain ⟨t375, A220, H⟩ := H
    replace H : ((gaiterref01_GetXor.f kj7 t347 t348 t349 t375).bind fun bt378 => (if t346 = true then ((gaiterlaw00_Is.f kj7 t352 t355 t361).bind fun t385 => (if t385 = 1 then ((gaiterlaw00_Xor.f t356 t357 t358).bind fun bt386 => (if (bt386.1 == t364 && (bt386.2.1 == t365 && (bt386.2.2 == t366))) = true then (if t368 = bt378.1 then ((gaiterlaw00_Xor.f t369 t370 t371).bind fun bt389 => (if (bt389.1 == bt378.2.1 && (bt389.2.1 == bt378.2.2.1 && (bt389.2.2 == bt378.2.2.2.1))) = true then (if t372 = bt378.2.2.2.2.1 then ((gaiterlaw00_Code.f t373).bind fun t392 => (some (t392 == bt378.2.2.2.2.2))) else (none)) else (none))) else (none)) else (none))) else (none))) else (none))) = some r := H
    have A22 := Aside0.mk A220
    clear A220
    replace H := Option.bind_eq_some_iff.mp H
    obtain ⟨⟨t378, t379, t380, t381, t382, t383⟩, A230, H⟩ := H
    replace H : (if t346 = true then ((gaiterlaw00_Is.f kj7 t352 t355 t361).bind fun t385 => (if t385 = 1 then ((gaiterlaw00_Xor.f t356 t357 t358).bind fun bt386 => (if (bt386.1 == t364 && (bt386.2.1 == t365 && (bt386.2.2 == t366))) = true then (if t368 = t378 then ((gaiterlaw00_Xor.f t369 t370 t371).bind fun bt389 => (if (bt389.1 == t379 && (bt389.2.1 == t380 && (bt389.2.2 == t381))) = true then (if t372 = t382 then ((gaiterlaw00_Code.f t373).bind fun t392 => (some (t392 == t383))) else (none)) else (none))) else (none)) else (none))) else (none))) else (none)) = some r := H
    have A23 := Aside0.mk A230
    clear A230
    by_cases c24 : t346 = true
    ·subst c24
     have H1 : ((gaiterlaw00_Is.f kj7 t352 t355 t361).bind fun t385 => (if t385 = 1 then ((gaiterlaw00_Xor.f t356 t357 t358).bind fun bt386 => (if (bt386.1 == t364 && (bt386.2.1 == t365 && (bt386.2.2 == t366))) = true then (if t368 = t378 then ((gaiterlaw00_Xor.f t369 t370 t371).bind fun bt389 => (if (bt389.1 == t379 && (bt389.2.1 == t380 && (bt389.2.2 == t381))) = true then (if t372 = t382 then ((gaiterlaw00_Code.f t373).bind fun t392 => (some (t392 == t383))) else (none)) else (none))) else (none)) else (none))) else (none))) = some r := by rw [if_pos rfl] at H; exact H
     clear H
     have H := H1
     clear H1
     replace H := Option.bind_eq_some_iff.mp H
     obtain ⟨t385, A250, H⟩ := H
     replace H : (if t385 = 1 then ((gaiterlaw00_Xor.f t356 t357 t358).bind fun bt386 => (if (bt386.1 == t364 && (bt386.2.1 == t365 && (bt386.2.2 == t366))) = true then (if t368 = t378 then ((gaiterlaw00_Xor.f t369 t370 t371).bind fun bt389 => (if (bt389.1 == t379 && (bt389.2.1 == t380 && (bt389.2.2 == t381))) = true then (if t372 = t382 then ((gaiterlaw00_Code.f t373).bind fun t392 => (some (t392 == t383))) else (none)) else (none))) else (none)) else (none))) else (none)) = some r := H
     have A25 := Aside0.mk A250
     clear A250
     by_cases c26 : t385 = 1
     ·rw [if_pos c26] at H
      have c26b0 : (t385 == 1) = true := beq_iff_eq.mpr c26
      have c26b1 : (t385 != 1) = false := bne_eq_false_iff_eq.mpr c26
      clear c26
      replace H := Option.bind_eq_some_iff.mp H
      obtain ⟨⟨t386, t387, t388⟩, A270, H⟩ := H
      replace H : (if (t386 == t364 && (t387 == t365 && (t388 == t366))) = true then (if t368 = t378 then ((gaiterlaw00_Xor.f t369 t370 t371).bind fun bt389 => (if (bt389.1 == t379 && (bt389.2.1 == t380 && (bt389.2.2 == t381))) = true then (if t372 = t382 then ((gaiterlaw00_Code.f t373).bind fun t392 => (some (t392 == t383))) else (none)) else (none))) else (none)) else (none)) = some r := H
      have A27 := Aside0.mk A270
      clear A270
      by_cases c28 : (t386 == t364 && (t387 == t365 && (t388 == t366))) = true
      ·rw [if_pos c28] at H
       have c28b0 : (t386 == t364 && (t387 == t365 && (t388 == t366))) = true := c28
       (try (have c28b1 : decide (t386 = t364 && (t387 == t365 && (t388 == t366))) = true := by simpa using c28))
       (try (have c28b2 : (t386 == t364 && (t387 == t365 && (t388 == t366))) = true := by simpa using c28))
       clear c28
       by_cases c29 : t368 = t378
       ·rw [if_pos c29] at H
        have c29b0 : (t368 == t378) = true := beq_iff_eq.mpr c29
        have c29b1 : (t368 != t378) = false := bne_eq_false_iff_eq.mpr c29
        clear c29
        replace H := Option.bind_eq_some_iff.mp H
        obtain ⟨⟨t389, t390, t391⟩, A300, H⟩ := H
        replace H : (if (t389 == t379 && (t390 == t380 && (t391 == t381))) = true then (if t372 = t382 then ((gaiterlaw00_Code.f t373).bind fun t392 => (some (t392 == t383))) else (none)) else (none)) = some r := H
        have A30 := Aside0.mk A300
        clear A300
        by_cases c31 : (t389 == t379 && (t390 == t380 && (t391 == t381))) = true
        ·rw [if_pos c31] at H
         have c31b0 : (t389 == t379 && (t390 == t380 && (t391 == t381))) = true := c31
         (try (have c31b1 : decide (t389 = t379 && (t390 == t380 && (t391 == t381))) = true := by simpa using c31))
         (try (have c31b2 : (t389 == t379 && (t390 == t380 && (t391 == t381))) = true := by simpa using c31))
         clear c31
         by_cases c32 : t372 = t382
         ·rw [if_pos c32] at H
          have c32b0 : (t372 == t382) = true := beq_iff_eq.mpr c32
          have c32b1 : (t372 != t382) = false := bne_eq_false_iff_eq.mpr c32
          clear c32
          replace H := Option.bind_eq_some_iff.mp H
          obtain ⟨t392, A330, H⟩ := H
          replace H : (some (t392 == t383)) = some r := H
          have A33 := Aside0.mk A330
          clear A330
          obtain rfl := Option.some.inj H
          have hnb34 := NB345_350.out
          have hnc34 := NB350_345.out
          obtain ⟨hcz35_0, hcz35_1, hcz35_2⟩ := kc3 BK345
          obtain ⟨hfz35_0, hfz35_1, hfz35_2⟩ := kf3 BK345
          try go_wp2_with (first | ((with_reducible refine gate_callee (f := 14) rfl ?_); refine goesL_ (some 40) rfl rfl Tryd.func14 (by kernel_rfl) rfl #[.agg #[.int .u64 a0_0, .int .i64 a0_1, .int .i64 a0_2], .int .u64 a1] rfl km ?_; (with_reducible refine (xor_Code.calls kj7 a0_0 a0_1 a0_2 a1 t352 t355 t356 t357 t358 _ ?side1 A19.out).mono ?_); (case side1 => exact TabOk.below HT.out (kl HB) (Nat.le_refl _)); rintro e w36 ⟨v353, rfl, ho0, hb⟩; refine ⟨_, rfl, ?_⟩; have HO354 := Aside0.mk (Kd.R_lower ho0 (below_size (kl HB))); replace BK345 := kB BK345 hb; replace BK350 := kB BK350 hb; replace HB := kH HB hb; (try clear hb); (try clear hb2); (try clear hk); (try clear hi); (try clear ho0)) | ((with_reducible refine gate_dst (N := 12) rfl ?_); (try (refine gate_guard (by rfl) ?_; dsimp only)); refine box_event ?hg (N := 12) ?hd (cs := #[.slice none 0 0, .int .i64 0]) (t := 31) ?hr ?_; (case hd => rfl); (case hg => rfl); (case hr => first | (go_simp; done) | (go_simp; rfl)); intro gb359 hg w37 hbox hb; replace HO354 := Aside0.mk (Kd.R_below (kr HO354) hb); have BK359 := Aside0.mk (hbox); have GW359 := kG hg HB; have GE359 := kG hg HB; replace HB := kH HB hb; obtain ⟨NB345_359, NB359_345⟩ := kN hg BK345; replace BK345 := kB BK345 hb; obtain ⟨NB350_359, NB359_350⟩ := kN hg BK350; replace BK350 := kB BK350 hb; clear hb hbox hg) | ((with_reducible refine gate_dst (N := 13) rfl ?_); (try (refine gate_guard (by rfl) ?_; dsimp only)); refine box_event ?hg (N := 13) ?hd (cs := #[.int .u64 0, .int .i64 0, .int .i64 0]) (t := 24) ?hr ?_; (case hd => rfl); (case hg => rfl); (case hr => first | (go_simp; done) | (go_simp; rfl)); intro gb360 hg w38 hbox hb; replace HO354 := Aside0.mk (Kd.R_below (kr HO354) hb); have BK360 := Aside0.mk (hbox); have GW360 := kG hg HB; have GE360 := kG hg HB; replace HB := kH HB hb; obtain ⟨NB345_360, NB360_345⟩ := kN hg BK345; replace BK345 := kB BK345 hb; obtain ⟨NB350_360, NB360_350⟩ := kN hg BK350; replace BK350 := kB BK350 hb; obtain ⟨NB359_360, NB360_359⟩ := kN hg BK359; replace BK359 := kB BK359 hb; clear hb hbox hg; obtain ⟨Ao39, co39, eo39⟩ := Kd.R_slice HO354.out; subst eo39; have hnb40 := NB359_345.out; have hnc40 := NB345_359.out; have hnb41 := NB359_350.out; have hnc41 := NB350_359.out; have hnb42 := NB359_360.out; have hnc42 := NB360_359.out; have hcz43_0 : w38.cell? ⟨gb359, 0, none⟩ = some (.slice none 0 0) := (blk_cell BK359.out 0).trans rfl; have hcz43_1 : w38.cell? ⟨gb359, 1, none⟩ = some (.int .i64 0) := (blk_cell BK359.out 1).trans rfl; have hfz43_0 := blk_frozen BK359.out 0; have hfz43_1 := blk_frozen BK359.out 1; have hnb44 := NB360_345.out; have hnc44 := NB345_360.out; have hnb45 := NB360_350.out; have hnc45 := NB350_360.out; have hcz46_0 : w38.cell? ⟨gb360, 0, none⟩ = some (.int .u64 0) := (blk_cell BK360.out 0).trans rfl; have hcz46_1 : w38.cell? ⟨gb360, 1, none⟩ = some (.int .i64 0) := (blk_cell BK360.out 1).trans rfl; have hcz46_2 : w38.cell? ⟨gb360, 2, none⟩ = some (.int .i64 0) := (blk_cell BK360.out 2).trans rfl; have hfz46_0 := blk_frozen BK360.out 0; have hfz46_1 := blk_frozen BK360.out 1; have hfz46_2 := blk_frozen BK360.out 2; have hcz47_0 : w38.cell? ⟨gb350, 0, none⟩ = some (.int .u64 t347) := (blk_cell BK350.out 0).trans rfl; have hcz47_1 : w38.cell? ⟨gb350, 1, none⟩ = some (.int .i64 t348) := (blk_cell BK350.out 1).trans rfl; have hcz47_2 : w38.cell? ⟨gb350, 2, none⟩ = some (.int .i64 t349) := (blk_cell BK350.out 2).trans rfl; have hfz47_0 := blk_frozen BK350.out 0; have hfz47_1 := blk_frozen BK350.out 1; have hfz47_2 := blk_frozen BK350.out 2) | ((with_reducible refine gate_callee (f := 15) rfl ?_); refine goesL_ (some 46) rfl rfl Tryd.func15 (by kernel_rfl) rfl #[.agg #[.int .u64 t347, .int .i64 t348, .int .i64 t349], .int .u64 a1] rfl km ?_; (with_reducible refine (gaiterref01_Code.calls kj7 t347 t348 t349 a1 t361 t364 t365 t366 _ A20.out).mono ?_); rintro e w48 ⟨v362, rfl, ho0, hb⟩; refine ⟨_, rfl, ?_⟩; have HO363 := Aside0.mk (Kd.R_lower (Kd.R_new' ho0 (Kd.R_lt (by (with_reducible repeat (first | apply Kd.R_alloc | apply Kd.R_drewN | apply Kd.R_drew)); exact (Kd.R_mono (Kd.R_mono (Kd.R_far (p := ⟨gb360, 2, none⟩) (Kd.R_far (p := ⟨gb360, 1, none⟩) (Kd.R_far (p := ⟨gb360, 0, none⟩) (Kd.R_far (p := ⟨gb359, 1, none⟩) (Kd.R_far (p := ⟨gb359, 0, none⟩) (Kd.R_types (Kd.R_types HO354.out BK359.out (by decide)) BK360.out (by decide)) (fun _ hk => hk.1.2) (.slice Ao39 t352.length co39)) (fun _ hk => hk.1.2) (.int .i64 t355)) (fun _ hk => hk.2) (.int .u64 t356)) (fun _ hk => hk.2) (.int .i64 t357)) (fun _ hk => hk.2) (.int .i64 t358)) (fun _ h_ => h_.1)) (fun _ h_ => h_.1))))) (below_size (kl HB))); replace HO354 := Aside0.mk (Kd.R_elder' (by (with_reducible repeat (first | apply Kd.R_alloc | apply Kd.R_drewN | apply Kd.R_drew)); exact (Kd.R_mono (Kd.R_mono (Kd.R_far (p := ⟨gb360, 2, none⟩) (Kd.R_far (p := ⟨gb360, 1, none⟩) (Kd.R_far (p := ⟨gb360, 0, none⟩) (Kd.R_far (p := ⟨gb359, 1, none⟩) (Kd.R_far (p := ⟨gb359, 0, none⟩) (Kd.R_types (Kd.R_types HO354.out BK359.out (by decide)) BK360.out (by decide)) (fun _ hk => hk.1.2) (.slice Ao39 t352.length co39)) (fun _ hk => hk.1.2) (.int .i64 t355)) (fun _ hk => hk.2) (.int .u64 t356)) (fun _ hk => hk.2) (.int .i64 t357)) (fun _ hk => hk.2) (.int .i64 t358)) (fun _ h_ => h_.1)) (fun _ h_ => h_.1))) (Kd.R_base ho0) hb); replace BK345 := Aside0.mk (blk_below (g := gb345) (o := .cells #[.int .u64 a0_0, .int .i64 a0_1, .int .i64 a0_2] 24 (0, 0)) (kb BK345) hb); replace BK350 := Aside0.mk (blk_below (g := gb350) (o := .cells #[.int .u64 t347, .int .i64 t348, .int .i64 t349] 27 (0, 0)) (kb BK350) hb); replace BK359 := Aside0.mk (blk_below (g := gb359) (o := .cells #[.slice Ao39 t352.length co39, .int .i64 t355] 31 (0, 0)) (kb BK359) hb); replace BK360 := Aside0.mk (blk_below (g := gb360) (o := .cells #[.int .u64 t356, .int .i64 t357, .int .i64 t358] 24 (0, 0)) (kb BK360) hb); replace HB := kH HB hb; (try clear hb); (try clear hb2); (try clear hk); (try clear hi); (try clear ho0)) | ((with_reducible refine gate_dst (N := 15) rfl ?_); (try (refine gate_guard (by rfl) ?_; dsimp only)); refine box_event ?hg (N := 15) ?hd (cs := #[.int .u64 0, .int .i64 0, .int .i64 0]) (t := 27) ?hr ?_; (case hd => rfl); (case hg => rfl); (case hr => first | (go_simp; done) | (go_simp; rfl)); intro gb367 hg w49 hbox hb; replace HO354 := Aside0.mk (Kd.R_below (kr HO354) hb); replace HO363 := Aside0.mk (Kd.R_below (kr HO363) hb); have BK367 := Aside0.mk (hbox); have GW367 := kG hg HB; have GE367 := kG hg HB; replace HB := kH HB hb; obtain ⟨NB345_367, NB367_345⟩ := kN hg BK345; replace BK345 := kB BK345 hb; obtain ⟨NB350_367, NB367_350⟩ := kN hg BK350; replace BK350 := kB BK350 hb; obtain ⟨NB359_367, NB367_359⟩ := kN hg BK359; replace BK359 := kB BK359 hb; obtain ⟨NB360_367, NB367_360⟩ := kN hg BK360; replace BK360 := kB BK360 hb; clear hb hbox hg; have hnb50 := NB367_345.out; have hnc50 := NB345_367.out; have hnb51 := NB367_350.out; have hnc51 := NB350_367.out; have hnb52 := NB367_359.out; have hnc52 := NB359_367.out; have hnb53 := NB367_360.out; have hnc53 := NB360_367.out; have hcz54_0 : w49.cell? ⟨gb367, 0, none⟩ = some (.int .u64 0) := (blk_cell BK367.out 0).trans rfl; have hcz54_1 : w49.cell? ⟨gb367, 1, none⟩ = some (.int .i64 0) := (blk_cell BK367.out 1).trans rfl; have hcz54_2 : w49.cell? ⟨gb367, 2, none⟩ = some (.int .i64 0) := (blk_cell BK367.out 2).trans rfl; have hfz54_0 := blk_frozen BK367.out 0; have hfz54_1 := blk_frozen BK367.out 1; have hfz54_2 := blk_frozen BK367.out 2; have hcz55_0 : w49.cell? ⟨gb345, 0, none⟩ = some (.int .u64 a0_0) := (blk_cell BK345.out 0).trans rfl; have hcz55_1 : w49.cell? ⟨gb345, 1, none⟩ = some (.int .i64 a0_1) := (blk_cell BK345.out 1).trans rfl; have hcz55_2 : w49.cell? ⟨gb345, 2, none⟩ = some (.int .i64 a0_2) := (blk_cell BK345.out 2).trans rfl; have hfz55_0 := blk_frozen BK345.out 0; have hfz55_1 := blk_frozen BK345.out 1; have hfz55_2 := blk_frozen BK345.out 2) | ((with_reducible refine gate_callee (f := 16) rfl ?_); refine goesL_ (some 53) rfl rfl Tryd.func16 (by kernel_rfl) rfl #[.agg #[.int .u64 a0_0, .int .i64 a0_1, .int .i64 a0_2], .slice A2 l2.length c2, .int .i64 a3] rfl km ?_; (with_reducible refine (xor_Get.calls kj7 a0_0 a0_1 a0_2 _ _ l2 a3 t368 t369 t370 t371 t372 t373 _ ?side1 ?side2 ?side3 A21.out).mono ?_); (case side1 => exact TabOk.below HT.out (kl HB) (Nat.le_refl _)); (case side2 => exact Kd.C_below HR2.out (kl HB)); (case side3 => exact HC2.out); rintro e w56 ⟨rfl, hb⟩; refine ⟨_, rfl, ?_⟩; replace HO354 := Aside0.mk (Kd.R_below (by (with_reducible repeat (first | apply Kd.R_alloc | apply Kd.R_drewN | apply Kd.R_drew)); exact (Kd.R_mono (Kd.R_far (p := ⟨gb367, 2, none⟩) (Kd.R_far (p := ⟨gb367, 1, none⟩) (Kd.R_far (p := ⟨gb367, 0, none⟩) (Kd.R_types HO354.out BK367.out (by decide)) (fun _ hk => hk.2) (.int .u64 t364)) (fun _ hk => hk.2) (.int .i64 t365)) (fun _ hk => hk.2) (.int .i64 t366)) (fun _ h_ => h_.1))) hb); replace HO363 := Aside0.mk (Kd.R_below (by (with_reducible repeat (first | apply Kd.R_alloc | apply Kd.R_drewN | apply Kd.R_drew)); exact (Kd.R_mono (Kd.R_far (p := ⟨gb367, 2, none⟩) (Kd.R_far (p := ⟨gb367, 1, none⟩) (Kd.R_far (p := ⟨gb367, 0, none⟩) (Kd.R_types HO363.out BK367.out (by decide)) (fun _ hk => hk.2) (.int .u64 t364)) (fun _ hk => hk.2) (.int .i64 t365)) (fun _ hk => hk.2) (.int .i64 t366)) (fun _ h_ => h_.1))) hb); replace BK345 := Aside0.mk (blk_below (g := gb345) (o := .cells #[.int .u64 a0_0, .int .i64 a0_1, .int .i64 a0_2] 24 (0, 0)) (kb BK345) hb); replace BK350 := Aside0.mk (blk_below (g := gb350) (o := .cells #[.int .u64 t347, .int .i64 t348, .int .i64 t349] 27 (0, 0)) (kb BK350) hb); replace BK359 := Aside0.mk (blk_below (g := gb359) (o := .cells #[.slice Ao39 t352.length co39, .int .i64 t355] 31 (0, 0)) (kb BK359) hb); replace BK360 := Aside0.mk (blk_below (g := gb360) (o := .cells #[.int .u64 t356, .int .i64 t357, .int .i64 t358] 24 (0, 0)) (kb BK360) hb); replace BK367 := Aside0.mk (blk_below (g := gb367) (o := .cells #[.int .u64 t364, .int .i64 t365, .int .i64 t366] 27 (0, 0)) (kb BK367) hb); replace HB := kH HB hb; (try clear hb); (try clear hb2); (try clear hk); (try clear hi); (try simp only [errW_none, errW_some])) | ((with_reducible refine gate_dst (N := 17) rfl ?_); (try (refine gate_guard (by rfl) ?_; dsimp only)); refine box_event ?hg (N := 17) ?hd (cs := #[.int .u64 0, .int .i64 0, .int .i64 0]) (t := 24) ?hr ?_; (case hd => rfl); (case hg => rfl); (case hr => first | (go_simp; done) | (go_simp; rfl)); intro gb374 hg w57 hbox hb; replace HO354 := Aside0.mk (Kd.R_below (kr HO354) hb); replace HO363 := Aside0.mk (Kd.R_below (kr HO363) hb); have BK374 := Aside0.mk (hbox); have GW374 := kG hg HB; have GE374 := kG hg HB; replace HB := kH HB hb; obtain ⟨NB345_374, NB374_345⟩ := kN hg BK345; replace BK345 := kB BK345 hb; obtain ⟨NB350_374, NB374_350⟩ := kN hg BK350; replace BK350 := kB BK350 hb; obtain ⟨NB359_374, NB374_359⟩ := kN hg BK359; replace BK359 := kB BK359 hb; obtain ⟨NB360_374, NB374_360⟩ := kN hg BK360; replace BK360 := kB BK360 hb; obtain ⟨NB367_374, NB374_367⟩ := kN hg BK367; replace BK367 := kB BK367 hb; clear hb hbox hg; have hnb58 := NB374_345.out; have hnc58 := NB345_374.out; have hnb59 := NB374_350.out; have hnc59 := NB350_374.out; have hnb60 := NB374_359.out; have hnc60 := NB359_374.out; have hnb61 := NB374_360.out; have hnc61 := NB360_374.out; have hnb62 := NB374_367.out; have hnc62 := NB367_374.out; have hcz63_0 : w57.cell? ⟨gb374, 0, none⟩ = some (.int .u64 0) := (blk_cell BK374.out 0).trans rfl; have hcz63_1 : w57.cell? ⟨gb374, 1, none⟩ = some (.int .i64 0) := (blk_cell BK374.out 1).trans rfl; have hcz63_2 : w57.cell? ⟨gb374, 2, none⟩ = some (.int .i64 0) := (blk_cell BK374.out 2).trans rfl; have hfz63_0 := blk_frozen BK374.out 0; have hfz63_1 := blk_frozen BK374.out 1; have hfz63_2 := blk_frozen BK374.out 2))
          have n0_ : Aside0 (Kd.R (Kd.int .u8) 5 (((w57.setCell ⟨gb374, 0, none⟩ (.int .u64 t369)).setCell ⟨gb374, 1, none⟩ (.int .i64 t370)).setCell ⟨gb374, 2, none⟩ (.int .i64 t371)) w.heap.size (fun k_ => some k_ ≠ (v362 : Value).ownBlock) (.slice Ao39 t352.length co39) t352) := ⟨by (with_reducible repeat (first | apply Kd.R_alloc | apply Kd.R_drewN | apply Kd.R_drew)); exact Kd.R_mono (Kd.R_far (p := ⟨gb374, 2, none⟩) (Kd.R_far (p := ⟨gb374, 1, none⟩) (Kd.R_far (p := ⟨gb374, 0, none⟩) (Kd.R_types HO354.out BK374.out (by decide)) (fun _ hk => hk.2) (.int .u64 t369)) (fun _ hk => hk.2) (.int .i64 t370)) (fun _ hk => hk.2) (.int .i64 t371)) (fun _ hk => hk.1.2)⟩
          have n1_ : Aside0 (Kd.R (Kd.int .u8) 5 (((w57.setCell ⟨gb374, 0, none⟩ (.int .u64 t369)).setCell ⟨gb374, 1, none⟩ (.int .i64 t370)).setCell ⟨gb374, 2, none⟩ (.int .i64 t371)) w.heap.size (fun k_ => some k_ ≠ (.slice Ao39 t352.length co39 : Value).ownBlock) v362 t361) := ⟨by (with_reducible repeat (first | apply Kd.R_alloc | apply Kd.R_drewN | apply Kd.R_drew)); exact Kd.R_mono (Kd.R_far (p := ⟨gb374, 2, none⟩) (Kd.R_far (p := ⟨gb374, 1, none⟩) (Kd.R_far (p := ⟨gb374, 0, none⟩) (Kd.R_types HO363.out BK374.out (by decide)) (fun _ hk => hk.2) (.int .u64 t369)) (fun _ hk => hk.2) (.int .i64 t370)) (fun _ hk => hk.2) (.int .i64 t371)) (fun _ hk => hk.1.2)⟩
          have n2_ : Aside0 ((((w57.setCell ⟨gb374, 0, none⟩ (.int .u64 t369)).setCell ⟨gb374, 1, none⟩ (.int .i64 t370)).setCell ⟨gb374, 2, none⟩ (.int .i64 t371)).heap[gb345]? = some (.cells #[.int .u64 a0_0, .int .i64 a0_1, .int .i64 a0_2] 24 (0, 0))) := ⟨by (with_reducible repeat (first | refine blk_drewN ?_ _ | refine blk_drew ?_ | refine blk_alloc ?_ _)); refine blk_far ?_ NB345_374.out _; (with_reducible repeat (first | refine blk_drewN ?_ _ | refine blk_drew ?_ | refine blk_alloc ?_ _)); refine blk_far ?_ NB345_374.out _; (with_reducible repeat (first | refine blk_drewN ?_ _ | refine blk_drew ?_ | refine blk_alloc ?_ _)); refine blk_far ?_ NB345_374.out _; (with_reducible repeat (first | refine blk_drewN ?_ _ | refine blk_drew ?_ | refine blk_alloc ?_ _)); exact BK345.out⟩
          have n3_ : Aside0 ((((w57.setCell ⟨gb374, 0, none⟩ (.int .u64 t369)).setCell ⟨gb374, 1, none⟩ (.int .i64 t370)).setCell ⟨gb374, 2, none⟩ (.int .i64 t371)).heap[gb350]? = some (.cells #[.int .u64 t347, .int .i64 t348, .int .i64 t349] 27 (0, 0))) := ⟨by (with_reducible repeat (first | refine blk_drewN ?_ _ | refine blk_drew ?_ | refine blk_alloc ?_ _)); refine blk_far ?_ NB350_374.out _; (with_reducible repeat (first | refine blk_drewN ?_ _ | refine blk_drew ?_ | refine blk_alloc ?_ _)); refine blk_far ?_ NB350_374.out _; (with_reducible repeat (first | refine blk_drewN ?_ _ | refine blk_drew ?_ | refine blk_alloc ?_ _)); refine blk_far ?_ NB350_374.out _; (with_reducible repeat (first | refine blk_drewN ?_ _ | refine blk_drew ?_ | refine blk_alloc ?_ _)); exact BK350.out⟩
          have n4_ : Aside0 ((((w57.setCell ⟨gb374, 0, none⟩ (.int .u64 t369)).setCell ⟨gb374, 1, none⟩ (.int .i64 t370)).setCell ⟨gb374, 2, none⟩ (.int .i64 t371)).heap[gb359]? = some (.cells #[.slice Ao39 t352.length co39, .int .i64 t355] 31 (0, 0))) := ⟨by (with_reducible repeat (first | refine blk_drewN ?_ _ | refine blk_drew ?_ | refine blk_alloc ?_ _)); refine blk_far ?_ NB359_374.out _; (with_reducible repeat (first | refine blk_drewN ?_ _ | refine blk_drew ?_ | refine blk_alloc ?_ _)); refine blk_far ?_ NB359_374.out _; (with_reducible repeat (first | refine blk_drewN ?_ _ | refine blk_drew ?_ | refine blk_alloc ?_ _)); refine blk_far ?_ NB359_374.out _; (with_reducible repeat (first | refine blk_drewN ?_ _ | refine blk_drew ?_ | refine blk_alloc ?_ _)); exact BK359.out⟩
          have n5_ : Aside0 ((((w57.setCell ⟨gb374, 0, none⟩ (.int .u64 t369)).setCell ⟨gb374, 1, none⟩ (.int .i64 t370)).setCell ⟨gb374, 2, none⟩ (.int .i64 t371)).heap[gb360]? = some (.cells #[.int .u64 t356, .int .i64 t357, .int .i64 t358] 24 (0, 0))) := ⟨by (with_reducible repeat (first | refine blk_drewN ?_ _ | refine blk_drew ?_ | refine blk_alloc ?_ _)); refine blk_far ?_ NB360_374.out _; (with_reducible repeat (first | refine blk_drewN ?_ _ | refine blk_drew ?_ | refine blk_alloc ?_ _)); refine blk_far ?_ NB360_374.out _; (with_reducible repeat (first | refine blk_drewN ?_ _ | refine blk_drew ?_ | refine blk_alloc ?_ _)); refine blk_far ?_ NB360_374.out _; (with_reducible repeat (first | refine blk_drewN ?_ _ | refine blk_drew ?_ | refine blk_alloc ?_ _)); exact BK360.out⟩
          have n6_ : Aside0 ((((w57.setCell ⟨gb374, 0, none⟩ (.int .u64 t369)).setCell ⟨gb374, 1, none⟩ (.int .i64 t370)).setCell ⟨gb374, 2, none⟩ (.int .i64 t371)).heap[gb367]? = some (.cells #[.int .u64 t364, .int .i64 t365, .int .i64 t366] 27 (0, 0))) := ⟨by (with_reducible repeat (first | refine blk_drewN ?_ _ | refine blk_drew ?_ | refine blk_alloc ?_ _)); refine blk_far ?_ NB367_374.out _; (with_reducible repeat (first | refine blk_drewN ?_ _ | refine blk_drew ?_ | refine blk_alloc ?_ _)); refine blk_far ?_ NB367_374.out _; (with_reducible repeat (first | refine blk_drewN ?_ _ | refine blk_drew ?_ | refine blk_alloc ?_ _)); refine blk_far ?_ NB367_374.out _; (with_reducible repeat (first | refine blk_drewN ?_ _ | refine blk_drew ?_ | refine blk_alloc ?_ _)); exact BK367.out⟩
          have n7_ : Aside0 ((((w57.setCell ⟨gb374, 0, none⟩ (.int .u64 t369)).setCell ⟨gb374, 1, none⟩ (.int .i64 t370)).setCell ⟨gb374, 2, none⟩ (.int .i64 t371)).heap[gb374]? = some (.cells #[.int .u64 t369, .int .i64 t370, .int .i64 t371] 24 (0, 0))) := ⟨by (with_reducible repeat (first | refine blk_drewN ?_ _ | refine blk_drew ?_ | refine blk_alloc ?_ _)); refine blk_put (cs := #[.int .u64 t369, .int .i64 t370, .int .i64 0]) ?_ 2 _ rfl; (with_reducible repeat (first | refine blk_drewN ?_ _ | refine blk_drew ?_ | refine blk_alloc ?_ _)); refine blk_put (cs := #[.int .u64 t369, .int .i64 0, .int .i64 0]) ?_ 1 _ rfl; (with_reducible repeat (first | refine blk_drewN ?_ _ | refine blk_drew ?_ | refine blk_alloc ?_ _)); refine blk_put (cs := #[.int .u64 0, .int .i64 0, .int .i64 0]) ?_ 0 _ rfl; (with_reducible repeat (first | refine blk_drewN ?_ _ | refine blk_drew ?_ | refine blk_alloc ?_ _)); exact BK374.out⟩
          have n8_ : Aside0 (Below w.heap.size w (((w57.setCell ⟨gb374, 0, none⟩ (.int .u64 t369)).setCell ⟨gb374, 1, none⟩ (.int .i64 t370)).setCell ⟨gb374, 2, none⟩ (.int .i64 t371))) := ⟨by repeat (first | (with_reducible first | exact HB.out | apply below_alloc | apply pw_below_drewN | apply below_drew1 | refine below_set ?_ GE345.out | refine below_set ?_ GE350.out | refine below_set ?_ GE359.out | refine below_set ?_ GE360.out | refine below_set ?_ GE367.out | refine below_set ?_ GE374.out) | exact HB.out)⟩
          (try clear HO354)
          (try clear HO363)
          (try clear BK345)
          (try clear BK350)
          (try clear BK359)
          (try clear BK360)
          (try clear BK367)
          (try clear BK374)
          (try clear HB)
          generalize (((w57.setCell ⟨gb374, 0, none⟩ (.int .u64 t369)).setCell ⟨gb374, 1, none⟩ (.int .i64 t370)).setCell ⟨gb374, 2, none⟩ (.int .i64 t371)) = w64 at n0_ n1_ n2_ n3_ n4_ n5_ n6_ n7_ n8_ ⊢
          have HO354 := n0_
          have HO363 := n1_
          have BK345 := n2_
          have BK350 := n3_
          have BK359 := n4_
          have BK360 := n5_
          have BK367 := n6_
          have BK374 := n7_
          have HB := n8_
          clear n0_ n1_ n2_ n3_ n4_ n5_ n6_ n7_ n8_
          replace HO354 := Aside0.mk (Kd.R_drew HO354.out)
          replace HO363 := Aside0.mk (Kd.R_drew HO363.out)
          replace BK345 := Aside0.mk (blk_drew BK345.out)
          replace BK350 := Aside0.mk (blk_drew BK350.out)
          replace BK359 := Aside0.mk (blk_drew BK359.out)
          replace BK360 := Aside0.mk (blk_drew BK360.out)
          replace BK367 := Aside0.mk (blk_drew BK367.out)
          replace BK374 := Aside0.mk (blk_drew BK374.out)
          replace HB := Aside0.mk (below_drew1 HB.out)
          refine start_ (n := 15) (S := fun w' => w'.cell? ⟨gb350, 0, none⟩ = some (.int .u64 t347) ∧ w'.cell? ⟨gb350, 1, none⟩ = some (.int .i64 t348) ∧ w'.cell? ⟨gb350, 2, none⟩ = some (.int .i64 t349)) (ds := []) (bl 15 0) (by kernel_rfl) rfl rfl kz (fun hHeld => ?_); refine with_tabW gaiterlaw07_XorTells.tab9 gaiterlaw07_XorTells.bits9 (fun HT_ HW_ => ?_)
          generalize w64.drew = w65 at HO354 HO363 BK345 BK350 BK359 BK360 BK367 BK374 HB hHeld ⊢
          refine pu 1 (some 60) (bl 15 2) (h := ?_)
          refine pu 2 (some 61) (bl 15 6) (h := ?_)
          refine ta 0 (some 59) (bl 15 7) (h := ?_)
          refine join_ (σ := Value × Nat) 4 #[true, true, true, true, true, true, true, true, true, true, true, false, false, false, false] (fun s_ => [(62, s_.1), (63, .tuple #[.int .u64 t378, .agg #[.int .u64 t379, .int .i64 t380, .int .i64 t381], .int .i64 t382, .int .i64 t383]), (21, .pointer (some ⟨s_.2, 0, none⟩)), (58, .tuple #[.int .u64 t378, .agg #[.int .u64 t379, .int .i64 t380, .int .i64 t381], .int .i64 t382, .int .i64 t383]), (64, .int .u64 t378), (65, .agg #[.int .u64 t379, .int .i64 t380, .int .i64 t381]), (66, .int .i64 t382), (67, .int .i64 t383)]) (fun s_ w' => (w'.cell? ⟨gb350, 0, none⟩ = some (.int .u64 t347) ∧ w'.cell? ⟨gb350, 1, none⟩ = some (.int .i64 t348) ∧ w'.cell? ⟨gb350, 2, none⟩ = some (.int .i64 t349)) ∧ (Kd.R (Kd.int .u8) 5 w' w.heap.size (fun k_ => some k_ ≠ (v362 : Value).ownBlock ∧ some k_ ≠ (s_.1 : Value).ownBlock) (.slice Ao39 t352.length co39) t352) ∧ (Kd.R (Kd.int .u8) 5 w' w.heap.size (fun k_ => some k_ ≠ (.slice Ao39 t352.length co39 : Value).ownBlock ∧ some k_ ≠ (s_.1 : Value).ownBlock) v362 t361) ∧ (Kd.Q (Kd.int .u8) 5 w' w.heap.size (fun k_ => some k_ ≠ (.slice Ao39 t352.length co39 : Value).ownBlock ∧ some k_ ≠ (v362 : Value).ownBlock) s_.1 t375) ∧ (w'.heap[gb345]? = some (.cells #[.int .u64 a0_0, .int .i64 a0_1, .int .i64 a0_2] 24 (0, 0))) ∧ (w'.heap[gb350]? = some (.cells #[.int .u64 t347, .int .i64 t348, .int .i64 t349] 27 (0, 0))) ∧ (w'.heap[gb359]? = some (.cells #[.slice Ao39 t352.length co39, .int .i64 t355] 31 (0, 0))) ∧ (w'.heap[gb360]? = some (.cells #[.int .u64 t356, .int .i64 t357, .int .i64 t358] 24 (0, 0))) ∧ (w'.heap[gb367]? = some (.cells #[.int .u64 t364, .int .i64 t365, .int .i64 t366] 27 (0, 0))) ∧ (w'.heap[gb374]? = some (.cells #[.int .u64 t369, .int .i64 t370, .int .i64 t371] 24 (0, 0))) ∧ (w'.heap[s_.2]? = some (.cells #[.int .u64 0, .int .i64 0, .int .i64 0] 27 (0, 0))) ∧ (w.heap.size ≤ s_.2) ∧ (w.heap.size ≤ s_.2) ∧ (gb345 ≠ s_.2) ∧ (s_.2 ≠ gb345) ∧ (gb350 ≠ s_.2) ∧ (s_.2 ≠ gb350) ∧ (gb359 ≠ s_.2) ∧ (s_.2 ≠ gb359) ∧ (gb360 ≠ s_.2) ∧ (s_.2 ≠ gb360) ∧ (gb367 ≠ s_.2) ∧ (s_.2 ≠ gb367) ∧ (gb374 ≠ s_.2) ∧ (s_.2 ≠ gb374) ∧ (Below w.heap.size w w')) ?_ ?_
          rotate_left
          ·intro hCont
           refine two_ (i := 3) (j := 10) (Ni := some 62) (Nj := some 21) #[true, true, true, true, false, false, false, false, false, false, false, false, false, false, false] #[true, true, true, false, false, false, false, false, false, false, true, false, false, false, false] rfl rfl rfl rfl (two_of HT_.out (by kernel_rfl)) (by decide) (by decide) (fun K hK => ?_) (fun K hK => ?_)
           ·skip
            refine goes_ Tryd.func18 (by kernel_rfl) rfl #[.slice A2 l2.length c2, .int .i64 a3] (by rfl) rfl rfl km ?_
            with_reducible refine (gaiterlaw00_Rest.calls kj7 _ _ l2 a3 t375 _ ?side1 ?side2 A22.out).mono ?_
            (case side1 => repeat (first | exact (Kd.C_below HR2.out HB.out) | (with_reducible refine Kd.C_alloc ?_ _) | (with_reducible refine Kd.C_drewN ?_ _) | (with_reducible refine Kd.C_drew ?_)))
            (case side2 => exact HC2.out)
            rintro e w66 ⟨v376, rfl, ho0, hb⟩
            refine ⟨_, rfl, ?_⟩
            have HO377 := Aside0.mk (Kd.Q_lower (Kd.Q_new' (Kd.Q_new' ho0 (Kd.R_lt (kr HO354))) (Kd.R_lt (kr HO363))) (below_size (kl HB)))
            replace HO354 := Aside0.mk (Kd.R_elder' (kr HO354) (Kd.Q_base ho0) hb)
            replace HO363 := Aside0.mk (Kd.R_elder' (kr HO363) (Kd.Q_base ho0) hb)
            replace BK345 := kB BK345 hb
            replace BK350 := kB BK350 hb
            replace BK359 := kB BK359 hb
            replace BK360 := kB BK360 hb
            replace BK367 := kB BK367 hb
            replace BK374 := kB BK374 hb
            replace HB := kH HB hb
            (try clear hb)
            (try clear hb2)
            (try clear hk)
            (try clear hi)
            (try clear ho0)
            obtain ⟨Ao67, co67, eo67, _⟩ := Kd.Q_slice HO377.out
            (first | subst eo67 | (injection eo67 with f1_ f2_ f3_; have f4_ := f1_.symm; have f5_ := f3_.symm; clear f1_ f2_ f3_; subst f4_; subst f5_))
            refine hK.out _ _ kz (fun hHeld => ?_)
            clear hK K
            refine norm_ (a' := ?_) ?_ ?_
            rotate_left
            ·show Act.put _ (some 62) _ = _
             simp only [Act.put, List.setIfInBounds_toArray, List.set_cons_zero, List.set_cons_succ, i64_w, i32_w]
             rfl
            refine two_ (i := 4) (j := 10) (Ni := some 63) (Nj := some 21) #[true, true, true, true, true, false, false, false, false, false, false, false, false, false, false] #[true, true, true, true, false, false, false, false, false, false, true, false, false, false, false] rfl rfl rfl rfl (two_of HT_.out (by kernel_rfl)) (by decide) (by decide) (fun K hK => ?_) (fun K hK => ?_)
            ·skip
             refine goes_ Tryd.func17 (by kernel_rfl) rfl #[.agg #[.int .u64 t347, .int .i64 t348, .int .i64 t349], .slice Ao67 t375.length co67] (by rfl) rfl rfl km ?_
             with_reducible refine (gaiterref01_GetXor.calls kj7 t347 t348 t349 _ _ t375 t378 t379 t380 t381 t382 t383 _ ?side1 ?side2 A23.out).mono ?_
             (case side1 => repeat (first | exact (Kd.Q_reads' HO377.out).2.2 | (with_reducible refine Kd.C_alloc ?_ _) | (with_reducible refine Kd.C_drewN ?_ _) | (with_reducible refine Kd.C_drew ?_)))
             (case side2 => exact (Kd.Q_reads' HO377.out).2.1)
             rintro e w68 ⟨rfl, hb⟩
             refine ⟨_, rfl, ?_⟩
             replace HO354 := Aside0.mk (Kd.R_below (kr HO354) hb)
             replace HO363 := Aside0.mk (Kd.R_below (kr HO363) hb)
             replace HO377 := Aside0.mk (Kd.Q_below (by (with_reducible repeat (first | apply Kd.Q_alloc | apply Kd.Q_drewN | apply Kd.Q_drew)); exact HO377.out) hb)
             replace BK345 := kB BK345 hb
             replace BK350 := kB BK350 hb
             replace BK359 := kB BK359 hb
             replace BK360 := kB BK360 hb
             replace BK367 := kB BK367 hb
             replace BK374 := kB BK374 hb
             replace HB := kH HB hb
             (try clear hb)
             (try clear hb2)
             (try clear hk)
             (try clear hi)
             refine hK.out _ _ kz (fun hHeld => ?_)
             clear hK K
             refine norm_ (a' := ?_) ?_ ?_
             rotate_left
             ·show Act.put _ (some 63) _ = _
              simp only [Act.put, List.setIfInBounds_toArray, List.set_cons_zero, List.set_cons_succ, i64_w, i32_w]
              rfl
             refine pu 5 (some 58) (bl 15 63) (h := ?_)
             refine pu 6 (some 64) (bl 15 127) (h := ?_)
             refine pu 7 (some 65) (bl 15 255) (h := ?_)
             refine pu 8 (some 66) (bl 15 511) (h := ?_)
             refine pu 9 (some 67) (bl 15 1023) (h := ?_)
             refine one_ (i := 10) (N := some 21) #[true, true, true, true, true, true, true, true, true, true, true, false, false, false, false] rfl rfl (one_of HT_.out (by kernel_rfl)) (by decide) (fun K hK => ?_)
             refine box_step ?hg (N := 21) ?hd (cs := #[.int .u64 0, .int .i64 0, .int .i64 0]) (t := 27) ?hr ?_; (case hd => rfl); (case hg => rfl); (case hr => first | (go_simp; done) | (go_simp; rfl))
             intro gb384 hg w69 hbox hb
             replace HO354 := Aside0.mk (Kd.R_below (kr HO354) hb)
             replace HO363 := Aside0.mk (Kd.R_below (kr HO363) hb)
             replace HO377 := Aside0.mk (Kd.Q_below (by (with_reducible repeat (first | apply Kd.Q_alloc | apply Kd.Q_drewN | apply Kd.Q_drew)); exact HO377.out) hb)
             have BK384 := Aside0.mk (hbox)
             have GW384 := kG hg HB
             have GE384 := kG hg HB
             replace HB := kH HB hb
             obtain ⟨NB345_384, NB384_345⟩ := kN hg BK345
             replace BK345 := kB BK345 hb
             obtain ⟨NB350_384, NB384_350⟩ := kN hg BK350
             replace BK350 := kB BK350 hb
             obtain ⟨NB359_384, NB384_359⟩ := kN hg BK359
             replace BK359 := kB BK359 hb
             obtain ⟨NB360_384, NB384_360⟩ := kN hg BK360
             replace BK360 := kB BK360 hb
             obtain ⟨NB367_384, NB384_367⟩ := kN hg BK367
             replace BK367 := kB BK367 hb
             obtain ⟨NB374_384, NB384_374⟩ := kN hg BK374
             replace BK374 := kB BK374 hb
             clear hb hbox hg
             refine hK.out _ _ kz (fun hHeld => ?_)
             clear hK K
             refine norm_ (a' := ?_) ?_ ?_
             rotate_left
             ·show Act.put _ (some 21) _ = _
              simp only [Act.put, List.setIfInBounds_toArray, List.set_cons_zero, List.set_cons_succ, i64_w, i32_w]
              rfl
             exact norm_ (by simp only [putAll, Act.put, List.setIfInBounds_toArray, List.set_cons_zero, List.set_cons_succ]) (hCont (.slice Ao67 t375.length co67, gb384) _ ⟨hHeld, (kr HO354), (kr HO363), (by (with_reducible repeat (first | apply Kd.Q_alloc | apply Kd.Q_drewN | apply Kd.Q_drew)); exact Kd.Q_mono HO377.out (fun _ hk => ⟨hk.1.2, hk.2⟩)), (kb BK345), (kb BK350), (kb BK359), (kb BK360), (kb BK367), (kb BK374), (kb BK384), GW384.out, GE384.out, NB345_384.out, NB384_345.out, NB350_384.out, NB384_350.out, NB359_384.out, NB384_359.out, NB360_384.out, NB384_360.out, NB367_384.out, NB384_367.out, NB374_384.out, NB384_374.out, (kl HB)⟩)
            ·skip
             refine box_step ?hg (N := 21) ?hd (cs := #[.int .u64 0, .int .i64 0, .int .i64 0]) (t := 27) ?hr ?_; (case hd => rfl); (case hg => rfl); (case hr => first | (go_simp; done) | (go_simp; rfl))
             intro gb384 hg w67 hbox hb
             replace HO354 := Aside0.mk (Kd.R_below (kr HO354) hb)
             replace HO363 := Aside0.mk (Kd.R_below (kr HO363) hb)
             replace HO377 := Aside0.mk (Kd.Q_below (by (with_reducible repeat (first | apply Kd.Q_alloc | apply Kd.Q_drewN | apply Kd.Q_drew)); exact HO377.out) hb)
             have BK384 := Aside0.mk (hbox)
             have GW384 := kG hg HB
             have GE384 := kG hg HB
             replace HB := kH HB hb
             obtain ⟨NB345_384, NB384_345⟩ := kN hg BK345
             replace BK345 := kB BK345 hb
             obtain ⟨NB350_384, NB384_350⟩ := kN hg BK350
             replace BK350 := kB BK350 hb
             obtain ⟨NB359_384, NB384_359⟩ := kN hg BK359
             replace BK359 := kB BK359 hb
             obtain ⟨NB360_384, NB384_360⟩ := kN hg BK360
             replace BK360 := kB BK360 hb
             obtain ⟨NB367_384, NB384_367⟩ := kN hg BK367
             replace BK367 := kB BK367 hb
             obtain ⟨NB374_384, NB384_374⟩ := kN hg BK374
             replace BK374 := kB BK374 hb
             clear hb hbox hg
             obtain ⟨Ao68, co68, eo68, _⟩ := Kd.Q_slice HO377.out
             (first | subst eo68 | (injection eo68 with f1_ f2_ f3_; have f4_ := f1_.symm; have f5_ := f3_.symm; clear f1_ f2_ f3_; subst f4_; subst f5_))
             refine hK.out _ _ kz (fun hHeld => ?_)
             clear hK K
             refine norm_ (a' := ?_) ?_ ?_
             rotate_left
             ·show Act.put _ (some 21) _ = _
              simp only [Act.put, List.setIfInBounds_toArray, List.set_cons_zero, List.set_cons_succ, i64_w, i32_w]
              rfl
             refine one_ (i := 4) (N := some 63) #[true, true, true, true, true, false, false, false, false, false, true, false, false, false, false] rfl rfl (one_of HT_.out (by kernel_rfl)) (by decide) (fun K hK => ?_)
             refine goes_ Tryd.func17 (by kernel_rfl) rfl #[.agg #[.int .u64 t347, .int .i64 t348, .int .i64 t349], .slice Ao68 t375.length co68] (by rfl) rfl rfl km ?_
             with_reducible refine (gaiterref01_GetXor.calls kj7 t347 t348 t349 _ _ t375 t378 t379 t380 t381 t382 t383 _ ?side1 ?side2 A23.out).mono ?_
             (case side1 => repeat (first | exact (Kd.Q_reads' HO377.out).2.2 | (with_reducible refine Kd.C_alloc ?_ _) | (with_reducible refine Kd.C_drewN ?_ _) | (with_reducible refine Kd.C_drew ?_)))
             (case side2 => exact (Kd.Q_reads' HO377.out).2.1)
             rintro e w69 ⟨rfl, hb⟩
             refine ⟨_, rfl, ?_⟩
             replace HO354 := Aside0.mk (Kd.R_below (kr HO354) hb)
             replace HO363 := Aside0.mk (Kd.R_below (kr HO363) hb)
             replace HO377 := Aside0.mk (Kd.Q_below (by (with_reducible repeat (first | apply Kd.Q_alloc | apply Kd.Q_drewN | apply Kd.Q_drew)); exact HO377.out) hb)
             replace BK345 := kB BK345 hb
             replace BK350 := kB BK350 hb
             replace BK359 := kB BK359 hb
             replace BK360 := kB BK360 hb
             replace BK367 := kB BK367 hb
             replace BK374 := kB BK374 hb
             replace BK384 := kB BK384 hb
             replace HB := kH HB hb
             (try clear hb)
             (try clear hb2)
             (try clear hk)
             (try clear hi)
             refine hK.out _ _ kz (fun hHeld => ?_)
             clear hK K
             refine norm_ (a' := ?_) ?_ ?_
             rotate_left
             ·show Act.put _ (some 63) _ = _
              simp only [Act.put, List.setIfInBounds_toArray, List.set_cons_zero, List.set_cons_succ, i64_w, i32_w]
              rfl
             refine pu 5 (some 58) (bl 15 1087) (h := ?_)
             refine pu 6 (some 64) (bl 15 1151) (h := ?_)
             refine pu 7 (some 65) (bl 15 1279) (h := ?_)
             refine pu 8 (some 66) (bl 15 1535) (h := ?_)
             refine pu 9 (some 67) (bl 15 2047) (h := ?_)
             exact norm_ (by simp only [putAll, Act.put, List.setIfInBounds_toArray, List.set_cons_zero, List.set_cons_succ]) (hCont (.slice Ao68 t375.length co68, gb384) _ ⟨hHeld, (kr HO354), (kr HO363), (by (with_reducible repeat (first | apply Kd.Q_alloc | apply Kd.Q_drewN | apply Kd.Q_drew)); exact Kd.Q_mono HO377.out (fun _ hk => ⟨hk.1.2, hk.2⟩)), (kb BK345), (kb BK350), (kb BK359), (kb BK360), (kb BK367), (kb BK374), (kb BK384), GW384.out, GE384.out, NB345_384.out, NB384_345.out, NB350_384.out, NB384_350.out, NB359_384.out, NB384_359.out, NB360_384.out, NB384_360.out, NB367_384.out, NB384_367.out, NB374_384.out, NB384_374.out, (kl HB)⟩)
           ·skip
            refine box_step ?hg (N := 21) ?hd (cs := #[.int .u64 0, .int .i64 0, .int .i64 0]) (t := 27) ?hr ?_; (case hd => rfl); (case hg => rfl); (case hr => first | (go_simp; done) | (go_simp; rfl))
            intro gb384 hg w66 hbox hb
            replace HO354 := Aside0.mk (Kd.R_below (kr HO354) hb)
            replace HO363 := Aside0.mk (Kd.R_below (kr HO363) hb)
            have BK384 := Aside0.mk (hbox)
            have GW384 := kG hg HB
            have GE384 := kG hg HB
            replace HB := kH HB hb
            obtain ⟨NB345_384, NB384_345⟩ := kN hg BK345
            replace BK345 := kB BK345 hb
            obtain ⟨NB350_384, NB384_350⟩ := kN hg BK350
            replace BK350 := kB BK350 hb
            obtain ⟨NB359_384, NB384_359⟩ := kN hg BK359
            replace BK359 := kB BK359 hb
            obtain ⟨NB360_384, NB384_360⟩ := kN hg BK360
            replace BK360 := kB BK360 hb
            obtain ⟨NB367_384, NB384_367⟩ := kN hg BK367
            replace BK367 := kB BK367 hb
            obtain ⟨NB374_384, NB384_374⟩ := kN hg BK374
            replace BK374 := kB BK374 hb
            clear hb hbox hg
            refine hK.out _ _ kz (fun hHeld => ?_)
            clear hK K
            refine norm_ (a' := ?_) ?_ ?_
            rotate_left
            ·show Act.put _ (some 21) _ = _
             simp only [Act.put, List.setIfInBounds_toArray, List.set_cons_zero, List.set_cons_succ, i64_w, i32_w]
             rfl
            refine one_ (i := 3) (N := some 62) #[true, true, true, true, false, false, false, false, false, false, true, false, false, false, false] rfl rfl (one_of HT_.out (by kernel_rfl)) (by decide) (fun K hK => ?_)
            refine goes_ Tryd.func18 (by kernel_rfl) rfl #[.slice A2 l2.length c2, .int .i64 a3] (by rfl) rfl rfl km ?_
            with_reducible refine (gaiterlaw00_Rest.calls kj7 _ _ l2 a3 t375 _ ?side1 ?side2 A22.out).mono ?_
            (case side1 => repeat (first | exact (Kd.C_below HR2.out HB.out) | (with_reducible refine Kd.C_alloc ?_ _) | (with_reducible refine Kd.C_drewN ?_ _) | (with_reducible refine Kd.C_drew ?_)))
            (case side2 => exact HC2.out)
            rintro e w67 ⟨v376, rfl, ho0, hb⟩
            refine ⟨_, rfl, ?_⟩
            have HO377 := Aside0.mk (Kd.Q_lower (Kd.Q_new' (Kd.Q_new' ho0 (Kd.R_lt (kr HO354))) (Kd.R_lt (kr HO363))) (below_size (kl HB)))
            replace HO354 := Aside0.mk (Kd.R_elder' (kr HO354) (Kd.Q_base ho0) hb)
            replace HO363 := Aside0.mk (Kd.R_elder' (kr HO363) (Kd.Q_base ho0) hb)
            replace BK345 := kB BK345 hb
            replace BK350 := kB BK350 hb
            replace BK359 := kB BK359 hb
            replace BK360 := kB BK360 hb
            replace BK367 := kB BK367 hb
            replace BK374 := kB BK374 hb
            replace BK384 := kB BK384 hb
            replace HB := kH HB hb
            (try clear hb)
            (try clear hb2)
            (try clear hk)
            (try clear hi)
            (try clear ho0)
            obtain ⟨Ao68, co68, eo68, _⟩ := Kd.Q_slice HO377.out
            (first | subst eo68 | (injection eo68 with f1_ f2_ f3_; have f4_ := f1_.symm; have f5_ := f3_.symm; clear f1_ f2_ f3_; subst f4_; subst f5_))
            refine hK.out _ _ kz (fun hHeld => ?_)
            clear hK K
            refine norm_ (a' := ?_) ?_ ?_
            rotate_left
            ·show Act.put _ (some 62) _ = _
             simp only [Act.put, List.setIfInBounds_toArray, List.set_cons_zero, List.set_cons_succ, i64_w, i32_w]
             rfl
            refine one_ (i := 4) (N := some 63) #[true, true, true, true, true, false, false, false, false, false, true, false, false, false, false] rfl rfl (one_of HT_.out (by kernel_rfl)) (by decide) (fun K hK => ?_)
            refine goes_ Tryd.func17 (by kernel_rfl) rfl #[.agg #[.int .u64 t347, .int .i64 t348, .int .i64 t349], .slice Ao68 t375.length co68] (by rfl) rfl rfl km ?_
            with_reducible refine (gaiterref01_GetXor.calls kj7 t347 t348 t349 _ _ t375 t378 t379 t380 t381 t382 t383 _ ?side1 ?side2 A23.out).mono ?_
            (case side1 => repeat (first | exact (Kd.Q_reads' HO377.out).2.2 | (with_reducible refine Kd.C_alloc ?_ _) | (with_reducible refine Kd.C_drewN ?_ _) | (with_reducible refine Kd.C_drew ?_)))
            (case side2 => exact (Kd.Q_reads' HO377.out).2.1)
            rintro e w69 ⟨rfl, hb⟩
            refine ⟨_, rfl, ?_⟩
            replace HO354 := Aside0.mk (Kd.R_below (kr HO354) hb)
            replace HO363 := Aside0.mk (Kd.R_below (kr HO363) hb)
            replace HO377 := Aside0.mk (Kd.Q_below (by (with_reducible repeat (first | apply Kd.Q_alloc | apply Kd.Q_drewN | apply Kd.Q_drew)); exact HO377.out) hb)
            replace BK345 := kB BK345 hb
            replace BK350 := kB BK350 hb
            replace BK359 := kB BK359 hb
            replace BK360 := kB BK360 hb
            replace BK367 := kB BK367 hb
            replace BK374 := kB BK374 hb
            replace BK384 := kB BK384 hb
            replace HB := kH HB hb
            (try clear hb)
            (try clear hb2)
            (try clear hk)
            (try clear hi)
            refine hK.out _ _ kz (fun hHeld => ?_)
            clear hK K
            refine norm_ (a' := ?_) ?_ ?_
            rotate_left
            ·show Act.put _ (some 63) _ = _
             simp only [Act.put, List.setIfInBounds_toArray, List.set_cons_zero, List.set_cons_succ, i64_w, i32_w]
             rfl
            refine pu 5 (some 58) (bl 15 1087) (h := ?_)
            refine pu 6 (some 64) (bl 15 1151) (h := ?_)
            refine pu 7 (some 65) (bl 15 1279) (h := ?_)
            refine pu 8 (some 66) (bl 15 1535) (h := ?_)
            refine pu 9 (some 67) (bl 15 2047) (h := ?_)
            exact norm_ (by simp only [putAll, Act.put, List.setIfInBounds_toArray, List.set_cons_zero, List.set_cons_succ]) (hCont (.slice Ao68 t375.length co68, gb384) _ ⟨hHeld, (kr HO354), (kr HO363), (by (with_reducible repeat (first | apply Kd.Q_alloc | apply Kd.Q_drewN | apply Kd.Q_drew)); exact Kd.Q_mono HO377.out (fun _ hk => ⟨hk.1.2, hk.2⟩)), (kb BK345), (kb BK350), (kb BK359), (kb BK360), (kb BK367), (kb BK374), (kb BK384), GW384.out, GE384.out, NB345_384.out, NB384_345.out, NB350_384.out, NB384_350.out, NB359_384.out, NB384_359.out, NB360_384.out, NB384_360.out, NB367_384.out, NB384_367.out, NB374_384.out, NB384_374.out, (kl HB)⟩)
          rintro ⟨v376, gb384⟩ w70 ⟨hS_, h0_, h1_, h2_, h3_, h4_, h5_, h6_, h7_, h8_, h9_, h10_, h11_, h12_, h13_, h14_, h15_, h16_, h17_, h18_, h19_, h20_, h21_, h22_, h23_, h24_⟩
          have n0_ : Aside0 (Kd.R (Kd.int .u8) 5 w70 w.heap.size (fun k_ => some k_ ≠ (v362 : Value).ownBlock ∧ some k_ ≠ (v376 : Value).ownBlock) (.slice Ao39 t352.length co39) t352) := ⟨h0_⟩
          have n1_ : Aside0 (Kd.R (Kd.int .u8) 5 w70 w.heap.size (fun k_ => some k_ ≠ (.slice Ao39 t352.length co39 : Value).ownBlock ∧ some k_ ≠ (v376 : Value).ownBlock) v362 t361) := ⟨h1_⟩
          have n2_ : Aside0 (Kd.Q (Kd.int .u8) 5 w70 w.heap.size (fun k_ => some k_ ≠ (.slice Ao39 t352.length co39 : Value).ownBlock ∧ some k_ ≠ (v362 : Value).ownBlock) v376 t375) := ⟨h2_⟩
          have n3_ : Aside0 (w70.heap[gb345]? = some (.cells #[.int .u64 a0_0, .int .i64 a0_1, .int .i64 a0_2] 24 (0, 0))) := ⟨h3_⟩
          have n4_ : Aside0 (w70.heap[gb350]? = some (.cells #[.int .u64 t347, .int .i64 t348, .int .i64 t349] 27 (0, 0))) := ⟨h4_⟩
          have n5_ : Aside0 (w70.heap[gb359]? = some (.cells #[.slice Ao39 t352.length co39, .int .i64 t355] 31 (0, 0))) := ⟨h5_⟩
          have n6_ : Aside0 (w70.heap[gb360]? = some (.cells #[.int .u64 t356, .int .i64 t357, .int .i64 t358] 24 (0, 0))) := ⟨h6_⟩
          have n7_ : Aside0 (w70.heap[gb367]? = some (.cells #[.int .u64 t364, .int .i64 t365, .int .i64 t366] 27 (0, 0))) := ⟨h7_⟩
          have n8_ : Aside0 (w70.heap[gb374]? = some (.cells #[.int .u64 t369, .int .i64 t370, .int .i64 t371] 24 (0, 0))) := ⟨h8_⟩
          have n9_ : Aside0 (w70.heap[gb384]? = some (.cells #[.int .u64 0, .int .i64 0, .int .i64 0] 27 (0, 0))) := ⟨h9_⟩
          have n10_ : Aside0 (w.heap.size ≤ gb384) := ⟨h10_⟩
          have n11_ : Aside0 (w.heap.size ≤ gb384) := ⟨h11_⟩
          have n12_ : Aside0 (gb345 ≠ gb384) := ⟨h12_⟩
          have n13_ : Aside0 (gb384 ≠ gb345) := ⟨h13_⟩
          have n14_ : Aside0 (gb350 ≠ gb384) := ⟨h14_⟩
          have n15_ : Aside0 (gb384 ≠ gb350) := ⟨h15_⟩
          have n16_ : Aside0 (gb359 ≠ gb384) := ⟨h16_⟩
          have n17_ : Aside0 (gb384 ≠ gb359) := ⟨h17_⟩
          have n18_ : Aside0 (gb360 ≠ gb384) := ⟨h18_⟩
          have n19_ : Aside0 (gb384 ≠ gb360) := ⟨h19_⟩
          have n20_ : Aside0 (gb367 ≠ gb384) := ⟨h20_⟩
          have n21_ : Aside0 (gb384 ≠ gb367) := ⟨h21_⟩
          have n22_ : Aside0 (gb374 ≠ gb384) := ⟨h22_⟩
          have n23_ : Aside0 (gb384 ≠ gb374) := ⟨h23_⟩
          have n24_ : Aside0 (Below w.heap.size w w70) := ⟨h24_⟩
          clear HO354
          clear HO363
          clear BK345
          clear BK350
          clear BK359
          clear BK360
          clear BK367
          clear BK374
          clear HB
          clear h0_ h1_ h2_ h3_ h4_ h5_ h6_ h7_ h8_ h9_ h10_ h11_ h12_ h13_ h14_ h15_ h16_ h17_ h18_ h19_ h20_ h21_ h22_ h23_ h24_
          have HO354 := n0_
          have HO363 := n1_
          have HO377 := n2_
          have BK345 := n3_
          have BK350 := n4_
          have BK359 := n5_
          have BK360 := n6_
          have BK367 := n7_
          have BK374 := n8_
          have BK384 := n9_
          have GW384 := n10_
          have GE384 := n11_
          have NB345_384 := n12_
          have NB384_345 := n13_
          have NB350_384 := n14_
          have NB384_350 := n15_
          have NB359_384 := n16_
          have NB384_359 := n17_
          have NB360_384 := n18_
          have NB384_360 := n19_
          have NB367_384 := n20_
          have NB384_367 := n21_
          have NB374_384 := n22_
          have NB384_374 := n23_
          have HB := n24_
          clear n0_ n1_ n2_ n3_ n4_ n5_ n6_ n7_ n8_ n9_ n10_ n11_ n12_ n13_ n14_ n15_ n16_ n17_ n18_ n19_ n20_ n21_ n22_ n23_ n24_
          have hHeld : w70.cell? ⟨gb350, 0, none⟩ = some (.int .u64 t347) ∧ w70.cell? ⟨gb350, 1, none⟩ = some (.int .i64 t348) ∧ w70.cell? ⟨gb350, 2, none⟩ = some (.int .i64 t349) := hS_
          refine norm_ (a' := ?_) ?_ ?_
          rotate_left
          ·simp only [putAll, Act.put, List.setIfInBounds_toArray, List.set_cons_zero, List.set_cons_succ]
           rfl
          refine pu 11 (some 20) (bl 15 4095) (h := ?_)
          refine one_ (i := 12) (N := none) #[true, true, true, true, true, true, true, true, true, true, true, true, true, false, false] rfl rfl (one_of HT_.out (by kernel_rfl)) (by decide) (fun K hK => ?_)
          have hs71 : w70.cell? ⟨gb384, 0, none⟩ = some (.int .u64 0) := (blk_cell BK384.out 0).trans rfl
          have hfs71 := blk_frozen BK384.out 0
          have hns71_0 := NB345_384.out
          have hns71_1 := NB350_384.out
          have hns71_2 := NB359_384.out
          have hns71_3 := NB360_384.out
          have hns71_4 := NB367_384.out
          have hns71_5 := NB374_384.out
          have hms71_0 := NB384_345.out
          have hms71_1 := NB384_350.out
          have hms71_2 := NB384_359.out
          have hms71_3 := NB384_360.out
          have hms71_4 := NB384_367.out
          have hms71_5 := NB384_374.out
          have hs72 : w70.cell? ⟨gb384, 1, none⟩ = some (.int .i64 0) := (blk_cell BK384.out 1).trans rfl
          have hfs72 := blk_frozen BK384.out 1
          have hs73 : w70.cell? ⟨gb384, 2, none⟩ = some (.int .i64 0) := (blk_cell BK384.out 2).trans rfl
          have hfs73 := blk_frozen BK384.out 2
          refine skip_ (w1 := ?_) (by rfl) rfl ?_ ?_
          rotate_left
          ·go_simp
           rfl
          refine hK.out _ _ (ks hHeld) (fun hHeld => ?_)
          clear hK K
          refine pu 13 (some 22) (bl 15 16383) (h := ?_)
          refine pu 14 (some 23) (bl 15 32767) (h := ?_)
          refine done_ (done_of HT_.out (by kernel_rfl)) ?_
          try go_wp2
          have n0_ : Aside0 (Kd.R (Kd.int .u8) 5 (((w70.setCell ⟨gb384, 0, none⟩ (.int .u64 t379)).setCell ⟨gb384, 1, none⟩ (.int .i64 t380)).setCell ⟨gb384, 2, none⟩ (.int .i64 t381)) w.heap.size (fun k_ => some k_ ≠ (v362 : Value).ownBlock ∧ some k_ ≠ (v376 : Value).ownBlock) (.slice Ao39 t352.length co39) t352) := ⟨by (with_reducible repeat (first | apply Kd.R_alloc | apply Kd.R_drewN | apply Kd.R_drew)); exact Kd.R_mono (Kd.R_far (p := ⟨gb384, 2, none⟩) (Kd.R_far (p := ⟨gb384, 1, none⟩) (Kd.R_far (p := ⟨gb384, 0, none⟩) (Kd.R_types HO354.out BK384.out (by decide)) (fun _ hk => hk.2) (.int .u64 t379)) (fun _ hk => hk.2) (.int .i64 t380)) (fun _ hk => hk.2) (.int .i64 t381)) (fun _ hk => ⟨hk.1.1, hk.1.2⟩)⟩
          have n1_ : Aside0 (Kd.R (Kd.int .u8) 5 (((w70.setCell ⟨gb384, 0, none⟩ (.int .u64 t379)).setCell ⟨gb384, 1, none⟩ (.int .i64 t380)).setCell ⟨gb384, 2, none⟩ (.int .i64 t381)) w.heap.size (fun k_ => some k_ ≠ (.slice Ao39 t352.length co39 : Value).ownBlock ∧ some k_ ≠ (v376 : Value).ownBlock) v362 t361) := ⟨by (with_reducible repeat (first | apply Kd.R_alloc | apply Kd.R_drewN | apply Kd.R_drew)); exact Kd.R_mono (Kd.R_far (p := ⟨gb384, 2, none⟩) (Kd.R_far (p := ⟨gb384, 1, none⟩) (Kd.R_far (p := ⟨gb384, 0, none⟩) (Kd.R_types HO363.out BK384.out (by decide)) (fun _ hk => hk.2) (.int .u64 t379)) (fun _ hk => hk.2) (.int .i64 t380)) (fun _ hk => hk.2) (.int .i64 t381)) (fun _ hk => ⟨hk.1.1, hk.1.2⟩)⟩
          have n2_ : Aside0 (Kd.Q (Kd.int .u8) 5 (((w70.setCell ⟨gb384, 0, none⟩ (.int .u64 t379)).setCell ⟨gb384, 1, none⟩ (.int .i64 t380)).setCell ⟨gb384, 2, none⟩ (.int .i64 t381)) w.heap.size (fun k_ => some k_ ≠ (.slice Ao39 t352.length co39 : Value).ownBlock ∧ some k_ ≠ (v362 : Value).ownBlock) v376 t375) := ⟨by (with_reducible repeat (first | apply Kd.Q_alloc | apply Kd.Q_drewN | apply Kd.Q_drew)); exact Kd.Q_mono (Kd.Q_far (p := ⟨gb384, 2, none⟩) (Kd.Q_far (p := ⟨gb384, 1, none⟩) (Kd.Q_far (p := ⟨gb384, 0, none⟩) (Kd.Q_types HO377.out BK384.out (by decide)) (fun _ hk => hk.2) (.int .u64 t379)) (fun _ hk => hk.2) (.int .i64 t380)) (fun _ hk => hk.2) (.int .i64 t381)) (fun _ hk => ⟨hk.1.1, hk.1.2⟩)⟩
          have n3_ : Aside0 ((((w70.setCell ⟨gb384, 0, none⟩ (.int .u64 t379)).setCell ⟨gb384, 1, none⟩ (.int .i64 t380)).setCell ⟨gb384, 2, none⟩ (.int .i64 t381)).heap[gb345]? = some (.cells #[.int .u64 a0_0, .int .i64 a0_1, .int .i64 a0_2] 24 (0, 0))) := ⟨by (with_reducible repeat (first | refine blk_drewN ?_ _ | refine blk_drew ?_ | refine blk_alloc ?_ _)); refine blk_far ?_ NB345_384.out _; (with_reducible repeat (first | refine blk_drewN ?_ _ | refine blk_drew ?_ | refine blk_alloc ?_ _)); refine blk_far ?_ NB345_384.out _; (with_reducible repeat (first | refine blk_drewN ?_ _ | refine blk_drew ?_ | refine blk_alloc ?_ _)); refine blk_far ?_ NB345_384.out _; (with_reducible repeat (first | refine blk_drewN ?_ _ | refine blk_drew ?_ | refine blk_alloc ?_ _)); exact BK345.out⟩
          have n4_ : Aside0 ((((w70.setCell ⟨gb384, 0, none⟩ (.int .u64 t379)).setCell ⟨gb384, 1, none⟩ (.int .i64 t380)).setCell ⟨gb384, 2, none⟩ (.int .i64 t381)).heap[gb350]? = some (.cells #[.int .u64 t347, .int .i64 t348, .int .i64 t349] 27 (0, 0))) := ⟨by (with_reducible repeat (first | refine blk_drewN ?_ _ | refine blk_drew ?_ | refine blk_alloc ?_ _)); refine blk_far ?_ NB350_384.out _; (with_reducible repeat (first | refine blk_drewN ?_ _ | refine blk_drew ?_ | refine blk_alloc ?_ _)); refine blk_far ?_ NB350_384.out _; (with_reducible repeat (first | refine blk_drewN ?_ _ | refine blk_drew ?_ | refine blk_alloc ?_ _)); refine blk_far ?_ NB350_384.out _; (with_reducible repeat (first | refine blk_drewN ?_ _ | refine blk_drew ?_ | refine blk_alloc ?_ _)); exact BK350.out⟩
          have n5_ : Aside0 ((((w70.setCell ⟨gb384, 0, none⟩ (.int .u64 t379)).setCell ⟨gb384, 1, none⟩ (.int .i64 t380)).setCell ⟨gb384, 2, none⟩ (.int .i64 t381)).heap[gb359]? = some (.cells #[.slice Ao39 t352.length co39, .int .i64 t355] 31 (0, 0))) := ⟨by (with_reducible repeat (first | refine blk_drewN ?_ _ | refine blk_drew ?_ | refine blk_alloc ?_ _)); refine blk_far ?_ NB359_384.out _; (with_reducible repeat (first | refine blk_drewN ?_ _ | refine blk_drew ?_ | refine blk_alloc ?_ _)); refine blk_far ?_ NB359_384.out _; (with_reducible repeat (first | refine blk_drewN ?_ _ | refine blk_drew ?_ | refine blk_alloc ?_ _)); refine blk_far ?_ NB359_384.out _; (with_reducible repeat (first | refine blk_drewN ?_ _ | refine blk_drew ?_ | refine blk_alloc ?_ _)); exact BK359.out⟩
          have n6_ : Aside0 ((((w70.setCell ⟨gb384, 0, none⟩ (.int .u64 t379)).setCell ⟨gb384, 1, none⟩ (.int .i64 t380)).setCell ⟨gb384, 2, none⟩ (.int .i64 t381)).heap[gb360]? = some (.cells #[.int .u64 t356, .int .i64 t357, .int .i64 t358] 24 (0, 0))) := ⟨by (with_reducible repeat (first | refine blk_drewN ?_ _ | refine blk_drew ?_ | refine blk_alloc ?_ _)); refine blk_far ?_ NB360_384.out _; (with_reducible repeat (first | refine blk_drewN ?_ _ | refine blk_drew ?_ | refine blk_alloc ?_ _)); refine blk_far ?_ NB360_384.out _; (with_reducible repeat (first | refine blk_drewN ?_ _ | refine blk_drew ?_ | refine blk_alloc ?_ _)); refine blk_far ?_ NB360_384.out _; (with_reducible repeat (first | refine blk_drewN ?_ _ | refine blk_drew ?_ | refine blk_alloc ?_ _)); exact BK360.out⟩
          have n7_ : Aside0 ((((w70.setCell ⟨gb384, 0, none⟩ (.int .u64 t379)).setCell ⟨gb384, 1, none⟩ (.int .i64 t380)).setCell ⟨gb384, 2, none⟩ (.int .i64 t381)).heap[gb367]? = some (.cells #[.int .u64 t364, .int .i64 t365, .int .i64 t366] 27 (0, 0))) := ⟨by (with_reducible repeat (first | refine blk_drewN ?_ _ | refine blk_drew ?_ | refine blk_alloc ?_ _)); refine blk_far ?_ NB367_384.out _; (with_reducible repeat (first | refine blk_drewN ?_ _ | refine blk_drew ?_ | refine blk_alloc ?_ _)); refine blk_far ?_ NB367_384.out _; (with_reducible repeat (first | refine blk_drewN ?_ _ | refine blk_drew ?_ | refine blk_alloc ?_ _)); refine blk_far ?_ NB367_384.out _; (with_reducible repeat (first | refine blk_drewN ?_ _ | refine blk_drew ?_ | refine blk_alloc ?_ _)); exact BK367.out⟩
          have n8_ : Aside0 ((((w70.setCell ⟨gb384, 0, none⟩ (.int .u64 t379)).setCell ⟨gb384, 1, none⟩ (.int .i64 t380)).setCell ⟨gb384, 2, none⟩ (.int .i64 t381)).heap[gb374]? = some (.cells #[.int .u64 t369, .int .i64 t370, .int .i64 t371] 24 (0, 0))) := ⟨by (with_reducible repeat (first | refine blk_drewN ?_ _ | refine blk_drew ?_ | refine blk_alloc ?_ _)); refine blk_far ?_ NB374_384.out _; (with_reducible repeat (first | refine blk_drewN ?_ _ | refine blk_drew ?_ | refine blk_alloc ?_ _)); refine blk_far ?_ NB374_384.out _; (with_reducible repeat (first | refine blk_drewN ?_ _ | refine blk_drew ?_ | refine blk_alloc ?_ _)); refine blk_far ?_ NB374_384.out _; (with_reducible repeat (first | refine blk_drewN ?_ _ | refine blk_drew ?_ | refine blk_alloc ?_ _)); exact BK374.out⟩
          have n9_ : Aside0 ((((w70.setCell ⟨gb384, 0, none⟩ (.int .u64 t379)).setCell ⟨gb384, 1, none⟩ (.int .i64 t380)).setCell ⟨gb384, 2, none⟩ (.int .i64 t381)).heap[gb384]? = some (.cells #[.int .u64 t379, .int .i64 t380, .int .i64 t381] 27 (0, 0))) := ⟨by (with_reducible repeat (first | refine blk_drewN ?_ _ | refine blk_drew ?_ | refine blk_alloc ?_ _)); refine blk_put (cs := #[.int .u64 t379, .int .i64 t380, .int .i64 0]) ?_ 2 _ rfl; (with_reducible repeat (first | refine blk_drewN ?_ _ | refine blk_drew ?_ | refine blk_alloc ?_ _)); refine blk_put (cs := #[.int .u64 t379, .int .i64 0, .int .i64 0]) ?_ 1 _ rfl; (with_reducible repeat (first | refine blk_drewN ?_ _ | refine blk_drew ?_ | refine blk_alloc ?_ _)); refine blk_put (cs := #[.int .u64 0, .int .i64 0, .int .i64 0]) ?_ 0 _ rfl; (with_reducible repeat (first | refine blk_drewN ?_ _ | refine blk_drew ?_ | refine blk_alloc ?_ _)); exact BK384.out⟩
          have n10_ : Aside0 (Below w.heap.size w (((w70.setCell ⟨gb384, 0, none⟩ (.int .u64 t379)).setCell ⟨gb384, 1, none⟩ (.int .i64 t380)).setCell ⟨gb384, 2, none⟩ (.int .i64 t381))) := ⟨by repeat (first | (with_reducible first | exact HB.out | apply below_alloc | apply pw_below_drewN | apply below_drew1 | refine below_set ?_ GE345.out | refine below_set ?_ GE350.out | refine below_set ?_ GE359.out | refine below_set ?_ GE360.out | refine below_set ?_ GE367.out | refine below_set ?_ GE374.out | refine below_set ?_ GE384.out) | exact HB.out)⟩
          (try clear HO354)
          (try clear HO363)
          (try clear HO377)
          (try clear BK345)
          (try clear BK350)
          (try clear BK359)
          (try clear BK360)
          (try clear BK367)
          (try clear BK374)
          (try clear BK384)
          (try clear HB)
          generalize (((w70.setCell ⟨gb384, 0, none⟩ (.int .u64 t379)).setCell ⟨gb384, 1, none⟩ (.int .i64 t380)).setCell ⟨gb384, 2, none⟩ (.int .i64 t381)) = w74 at n0_ n1_ n2_ n3_ n4_ n5_ n6_ n7_ n8_ n9_ n10_ ⊢
          have HO354 := n0_
          have HO363 := n1_
          have HO377 := n2_
          have BK345 := n3_
          have BK350 := n4_
          have BK359 := n5_
          have BK360 := n6_
          have BK367 := n7_
          have BK374 := n8_
          have BK384 := n9_
          have HB := n10_
          clear n0_ n1_ n2_ n3_ n4_ n5_ n6_ n7_ n8_ n9_ n10_
          replace HO354 := Aside0.mk (Kd.R_drew HO354.out)
          replace HO363 := Aside0.mk (Kd.R_drew HO363.out)
          replace HO377 := Aside0.mk (Kd.Q_drew HO377.out)
          replace BK345 := Aside0.mk (blk_drew BK345.out)
          replace BK350 := Aside0.mk (blk_drew BK350.out)
          replace BK359 := Aside0.mk (blk_drew BK359.out)
          replace BK360 := Aside0.mk (blk_drew BK360.out)
          replace BK367 := Aside0.mk (blk_drew BK367.out)
          replace BK374 := Aside0.mk (blk_drew BK374.out)
          replace BK384 := Aside0.mk (blk_drew BK384.out)
          replace HB := Aside0.mk (below_drew1 HB.out)
          obtain ⟨Ao76, co76, eo76⟩ := Kd.R_slice HO363.out
          (first | subst eo76 | (injection eo76 with f1_ f2_ f3_; have f4_ := f1_.symm; have f5_ := f3_.symm; clear f1_ f2_ f3_; subst f4_; subst f5_))
          refine start_ (n := 36) (S := fun w' => w'.cell? ⟨gb359, 0, none⟩ = some (.slice Ao39 t352.length co39) ∧ w'.cell? ⟨gb359, 1, none⟩ = some (.int .i64 t355) ∧ w'.cell? ⟨gb360, 0, none⟩ = some (.int .u64 t356) ∧ w'.cell? ⟨gb360, 1, none⟩ = some (.int .i64 t357) ∧ w'.cell? ⟨gb360, 2, none⟩ = some (.int .i64 t358) ∧ w'.cell? ⟨gb367, 0, none⟩ = some (.int .u64 t364) ∧ w'.cell? ⟨gb367, 1, none⟩ = some (.int .i64 t365) ∧ w'.cell? ⟨gb367, 2, none⟩ = some (.int .i64 t366) ∧ w'.cell? ⟨gb374, 0, none⟩ = some (.int .u64 t369) ∧ w'.cell? ⟨gb374, 1, none⟩ = some (.int .i64 t370) ∧ w'.cell? ⟨gb374, 2, none⟩ = some (.int .i64 t371) ∧ w'.cell? ⟨gb384, 0, none⟩ = some (.int .u64 t379) ∧ w'.cell? ⟨gb384, 1, none⟩ = some (.int .i64 t380) ∧ w'.cell? ⟨gb384, 2, none⟩ = some (.int .i64 t381)) (ds := []) (bl 36 0) (by kernel_rfl) rfl rfl kz (fun hHeld => ?_); refine with_tabW gaiterlaw07_XorTells.tab10 gaiterlaw07_XorTells.bits10 (fun HT_ HW_ => ?_)
          generalize w74.drew = w75 at HO354 HO363 HO377 BK345 BK350 BK359 BK360 BK367 BK374 BK384 HB hHeld ⊢
          refine pu 0 (some 68) (bl 36 1) (h := ?_)
          refine pu 1 (some 69) (bl 36 3) (h := ?_)
          refine pu 3 (some 71) (bl 36 11) (h := ?_)
          refine ta 2 (some 70) (bl 36 15) (h := ?_)
          refine one_ (i := 4) (N := some 72) #[true, true, true, true, true, false, false, false, false, false, false, false, false, false, false, false, false, false, false, false, false, false, false, false, false, false, false, false, false, false, false, false, false, false, false, false] rfl rfl (one_of HT_.out (by kernel_rfl)) (by decide) (fun K hK => ?_)
          refine goes_ Tryd.func19 (by kernel_rfl) rfl #[.agg #[.slice Ao39 t352.length co39, .int .i64 t355], .slice Ao76 t361.length co76] (by rfl) rfl rfl km ?_
          with_reducible refine (gaiterlaw00_Is.calls kj7 _ _ t352 t355 _ _ t361 t385 _ ?side1 ?side2 ?side3 ?side4 A25.out).mono ?_
          (case side1 => repeat (first | exact (Kd.R_reads' HO354.out).2.2 | (with_reducible refine Kd.C_alloc ?_ _) | (with_reducible refine Kd.C_drewN ?_ _) | (with_reducible refine Kd.C_drew ?_)))
          (case side2 => exact (Kd.R_reads' HO354.out).2.1)
          (case side3 => repeat (first | exact (Kd.R_reads' HO363.out).2.2 | (with_reducible refine Kd.C_alloc ?_ _) | (with_reducible refine Kd.C_drewN ?_ _) | (with_reducible refine Kd.C_drew ?_)))
          (case side4 => exact (Kd.R_reads' HO363.out).2.1)
          rintro e w77 ⟨rfl, hb⟩
          refine ⟨_, rfl, ?_⟩
          replace HO354 := Aside0.mk (Kd.R_below (kr HO354) hb)
          replace HO363 := Aside0.mk (Kd.R_below (kr HO363) hb)
          replace HO377 := Aside0.mk (Kd.Q_below (by (with_reducible repeat (first | apply Kd.Q_alloc | apply Kd.Q_drewN | apply Kd.Q_drew)); exact HO377.out) hb)
          replace BK345 := kB BK345 hb
          replace BK350 := kB BK350 hb
          replace BK359 := kB BK359 hb
          replace BK360 := kB BK360 hb
          replace BK367 := kB BK367 hb
          replace BK374 := kB BK374 hb
          replace BK384 := kB BK384 hb
          replace HB := kH HB hb
          (try clear hb)
          (try clear hb2)
          (try clear hk)
          (try clear hi)
          refine hK.out _ _ kz (fun hHeld => ?_)
          clear hK K
          refine norm_ (a' := ?_) ?_ ?_
          rotate_left
          ·show Act.put _ (some 72) _ = _
           simp only [Act.put, List.setIfInBounds_toArray, List.set_cons_zero, List.set_cons_succ, i64_w, i32_w]
           rfl
          refine pu 5 (some 73) (bl 36 63) (h := ?_)
          refine pu 6 (some 74) (bl 36 127) (h := ?_)
          refine pu 7 (some 75) (bl 36 255) (h := ?_)
          refine ta 8 (some 76) (bl 36 511) (h := ?_)
          refine ta 10 (some 78) (bl 36 1535) (h := ?_)
          refine one_ (i := 9) (N := some 77) #[true, true, true, true, true, true, true, true, true, true, true, false, false, false, false, false, false, false, false, false, false, false, false, false, false, false, false, false, false, false, false, false, false, false, false, false] rfl rfl (one_of HT_.out (by kernel_rfl)) (by decide) (fun K hK => ?_)
          refine goes_ Tryd.func12 (by kernel_rfl) rfl #[.agg #[.int .u64 t356, .int .i64 t357, .int .i64 t358]] (by rfl) rfl rfl km ?_
          with_reducible refine (gaiterlaw00_Xor.calls t356 t357 t358 t386 t387 t388 _ A27.out).mono ?_
          rintro e w78 ⟨rfl, hb⟩
          refine ⟨_, rfl, ?_⟩
          replace HO354 := Aside0.mk (Kd.R_below (kr HO354) hb)
          replace HO363 := Aside0.mk (Kd.R_below (kr HO363) hb)
          replace HO377 := Aside0.mk (Kd.Q_below (by (with_reducible repeat (first | apply Kd.Q_alloc | apply Kd.Q_drewN | apply Kd.Q_drew)); exact HO377.out) hb)
          replace BK345 := kB BK345 hb
          replace BK350 := kB BK350 hb
          replace BK359 := kB BK359 hb
          replace BK360 := kB BK360 hb
          replace BK367 := kB BK367 hb
          replace BK374 := kB BK374 hb
          replace BK384 := kB BK384 hb
          replace HB := kH HB hb
          (try clear hb)
          (try clear hb2)
          (try clear hk)
          (try clear hi)
          refine hK.out _ _ kz (fun hHeld => ?_)
          clear hK K
          refine norm_ (a' := ?_) ?_ ?_
          rotate_left
          ·show Act.put _ (some 77) _ = _
           simp only [Act.put, List.setIfInBounds_toArray, List.set_cons_zero, List.set_cons_succ, i64_w, i32_w]
           rfl
          refine pu 11 (some 79) (bl 36 4095) (h := ?_)
          refine pu 12 (some 80) (bl 36 8191) (h := ?_)
          refine pu 13 (some 81) (bl 36 16383) (h := ?_)
          refine pu 14 (some 82) (bl 36 32767) (h := ?_)
          refine pu 15 (some 83) (bl 36 65535) (h := ?_)
          refine pu 16 (some 84) (bl 36 131071) (h := ?_)
          refine pu 17 (some 85) (bl 36 262143) (h := ?_)
          refine pu 18 (some 86) (bl 36 524287) (h := ?_)
          refine ta 19 (some 87) (bl 36 1048575) (h := ?_)
          refine ta 21 (some 89) (bl 36 3145727) (h := ?_)
          refine one_ (i := 20) (N := some 88) #[true, true, true, true, true, true, true, true, true, true, true, true, true, true, true, true, true, true, true, true, true, true, false, false, false, false, false, false, false, false, false, false, false, false, false, false] rfl rfl (one_of HT_.out (by kernel_rfl)) (by decide) (fun K hK => ?_)
          refine goes_ Tryd.func12 (by kernel_rfl) rfl #[.agg #[.int .u64 t369, .int .i64 t370, .int .i64 t371]] (by rfl) rfl rfl km ?_
          with_reducible refine (gaiterlaw00_Xor.calls t369 t370 t371 t389 t390 t391 _ A30.out).mono ?_
          rintro e w79 ⟨rfl, hb⟩
          refine ⟨_, rfl, ?_⟩
          replace HO354 := Aside0.mk (Kd.R_below (kr HO354) hb)
          replace HO363 := Aside0.mk (Kd.R_below (kr HO363) hb)
          replace HO377 := Aside0.mk (Kd.Q_below (by (with_reducible repeat (first | apply Kd.Q_alloc | apply Kd.Q_drewN | apply Kd.Q_drew)); exact HO377.out) hb)
          replace BK345 := kB BK345 hb
          replace BK350 := kB BK350 hb
          replace BK359 := kB BK359 hb
          replace BK360 := kB BK360 hb
          replace BK367 := kB BK367 hb
          replace BK374 := kB BK374 hb
          replace BK384 := kB BK384 hb
          replace HB := kH HB hb
          (try clear hb)
          (try clear hb2)
          (try clear hk)
          (try clear hi)
          have CA33 := fun W => gaiterlaw00_Code.calls t373 t392 W A33.out
          try simp only [errW_none, errW_some] at CA33
          refine hK.out _ _ kz (fun hHeld => ?_)
          clear hK K
          refine norm_ (a' := ?_) ?_ ?_
          rotate_left
          ·show Act.put _ (some 88) _ = _
           simp only [Act.put, List.setIfInBounds_toArray, List.set_cons_zero, List.set_cons_succ, i64_w, i32_w]
           rfl
          refine pu 22 (some 90) (bl 36 8388607) (h := ?_)
          refine pu 23 (some 91) (bl 36 16777215) (h := ?_)
          refine pu 24 (some 92) (bl 36 33554431) (h := ?_)
          refine pu 25 (some 93) (bl 36 67108863) (h := ?_)
          refine pu 26 (some 94) (bl 36 134217727) (h := ?_)
          refine pu 27 (some 95) (bl 36 268435455) (h := ?_)
          refine pu 28 (some 96) (bl 36 536870911) (h := ?_)
          refine pu 29 (some 97) (bl 36 1073741823) (h := ?_)
          refine pu 30 (some 98) (bl 36 2147483647) (h := ?_)
          refine pu 32 (some 100) (bl 36 6442450943) (h := ?_)
          refine one_ (i := 31) (N := some 99) #[true, true, true, true, true, true, true, true, true, true, true, true, true, true, true, true, true, true, true, true, true, true, true, true, true, true, true, true, true, true, true, true, true, false, false, false] rfl rfl (one_of HT_.out (by kernel_rfl)) (by decide) (fun K hK => ?_)
          refine goes_ Tryd.func20 (by kernel_rfl) rfl #[errW t373] (by rfl) rfl rfl km ?_
          with_reducible refine (CA33 _).mono ?_
          rintro e w' ⟨rfl, ⟨nd, rfl⟩⟩
          refine ⟨_, rfl, ?_⟩
          refine hK.out _ _ kz (fun hHeld => ?_)
          clear hK K
          refine norm_ (a' := ?_) ?_ ?_
          rotate_left
          ·show Act.put _ (some 99) _ = _
           simp only [Act.put, List.setIfInBounds_toArray, List.set_cons_zero, List.set_cons_succ, i64_w, i32_w]
           rfl
          refine pu 33 (some 101) (bl 36 17179869183) (h := ?_)
          refine pu 34 (some 102) (bl 36 34359738367) (h := ?_)
          refine pu 35 (some 8) (bl 36 68719476735) (h := ?_)
          refine done_ (done_of HT_.out (by kernel_rfl)) ?_
          try go_wp2
          go_ret
          exact ⟨by first | rfl | (simp [errW_none, errW_some] <;> rfl) | (simp [*, errW_none, errW_some] <;> rfl), by repeat (first | (with_reducible first | exact HB.out | apply below_alloc | apply pw_below_drewN | apply below_drew1 | refine below_set ?_ GE345.out | refine below_set ?_ GE350.out | refine below_set ?_ GE359.out | refine below_set ?_ GE360.out | refine below_set ?_ GE367.out | refine below_set ?_ GE374.out | refine below_set ?_ GE384.out) | exact HB.out)⟩
         ·rw [if_neg c32] at H
          have c32b0 : (t372 == t382) = false := beq_eq_false_iff_ne.mpr c32
          have c32b1 : (t372 != t382) = true := bne_iff_ne.mpr c32
          exact absurd H (by simp)
        ·rw [if_neg c31] at H
         have c31b0 : (t389 == t379 && (t390 == t380 && (t391 == t381))) = false := by simpa using c31
         (try (have c31b1 : decide (t389 = t379 && (t390 == t380 && (t391 == t381))) = false := by simpa using c31))
         (try (have c31b2 : (t389 == t379 && (t390 == t380 && (t391 == t381))) = false := by simpa using c31))
         (try (have c31b3 : ¬ (t389 = t379 && (t390 == t380 && (t391 == t381))) := by simpa using c31))
         clear c31
         exact absurd H (by simp)
       ·rw [if_neg c29] at H
        have c29b0 : (t368 == t378) = false := beq_eq_false_iff_ne.mpr c29
        have c29b1 : (t368 != t378) = true := bne_iff_ne.mpr c29
        exact absurd H (by simp)
      ·rw [if_neg c28] at H
       have c28b0 : (t386 == t364 && (t387 == t365 && (t388 == t366))) = false := by simpa using c28
       (try (have c28b1 : decide (t386 = t364 && (t387 == t365 && (t388 == t366))) = false := by simpa using c28))
       (try (have c28b2 : (t386 == t364 && (t387 == t365 && (t388 == t366))) = false := by simpa using c28))
       (try (have c28b3 : ¬ (t386 = t364 && (t387 == t365 && (t388 == t366))) := by simpa using c28))
       clear c28
       exact absurd H (by simp)
     ·rw [if_neg c26] at H
      have c26b0 : (t385 == 1) = false := beq_eq_false_iff_ne.mpr c26
      have c26b1 : (t385 != 1) = true := bne_iff_ne.mpr c26
      exact absurd H (by simp)
    ·replace c24 := Bool.eq_false_iff.mpr c24
     subst c24
     have H1 : (none) = some r := by rw [if_neg (show ¬ (false = true) by decide)] at H; exact H
     clear H
     have H := H1
     clear H1
     exact absurd H (by simp)

end Go.Proofs.YtiahbcaoikoogaaDoor.All
