-- written by a program of the session out of the translation; Lean checks it
import Derived.Test.YtiahbcaoikoogaaDoorAllx0
import Derived.Test.YtiahbcaoikoogaaDoorAllx8
import Derived.Test.YtiahbcaoikoogaaDoorAllx9
import Derived.Test.YtiahbcaoikoogaaDoorAllx10
namespace Go.Proofs.YtiahbcaoikoogaaDoor.All
open Go.RowKit Go.Proofs.YtiahbcaoikoogaaDoorW.PrintWords Go.Proofs.YtiahbcaoikoogaaDoorW.PrintLast Go.Proofs.YtiahbcaoikoogaaDoorW.PrintMore
attribute [local go_sem] max2_int min2_int max_two min_two max_three min_three max_four min_four   -- for this text's walks alone
set_option linter.unusedVariables false
set_option linter.unusedSimpArgs false

/-! ### xor_Get: function 16 -/
mutual
def xor_Get.j0 : Nat → List Int → Int → Bool → Int → Int → Int → Option (Int × Int × Int × Int × Int × Option Int)
 | 0, _, _, _, _, _, _ => none
 | k + 1, x1, x2, x31, x155000, x155001, x155002 => if x31 = true then ((xor_Get_1.f 2).bind fun bt156 => (some (bt156.1, bt156.2.1, bt156.2.2.1, bt156.2.2.2.1, bt156.2.2.2.2.1, bt156.2.2.2.2.2))) else ((xor_reader_take.f k x1 x2 true 1).bind fun bt163 => (if bt163.1 = 1 then ((xor_reader_take.f k bt163.2.1 bt163.2.2.1 bt163.2.2.2 1).bind fun bt167 => (if bt167.2.2.2 = true then (if bt167.1 = 1 then ((xor_reader_take.f k bt167.2.1 bt167.2.2.1 bt167.2.2.2 6).bind fun bt171 => ((xor_reader_take.f k bt171.2.1 bt171.2.2.1 bt171.2.2.2 6).bind fun bt175 => (if bt175.2.2.2 = true then (xor_Get.j1 k x1 x2 (wrap64 (bt171.1)) (wrap64 ((wrap64 (bt175.1)) + 1)) (bt167.1 == 1) x155000 x155001 x155002 bt175.2.1 bt175.2.2.1 bt175.2.2.2) else ((xor_Get_1.f 2).bind fun bt179 => (some (bt179.1, bt179.2.1, bt179.2.2.1, bt179.2.2.2.1, bt179.2.2.2.2.1, bt179.2.2.2.2.2)))))) else (xor_Get.j1 k x1 x2 x155001 x155002 (bt167.1 == 1) x155000 x155001 x155002 bt167.2.1 bt167.2.2.1 bt167.2.2.2)) else ((xor_Get_1.f 2).bind fun bt185 => (some (bt185.1, bt185.2.1, bt185.2.2.1, bt185.2.2.2.1, bt185.2.2.2.2.1, bt185.2.2.2.2.2))))) else (xor_Get.j3 k x1 x2 0 x155000 x155001 x155002 bt163.2.1 bt163.2.2.1 bt163.2.2.2)))
def xor_Get.j3 : Nat → List Int → Int → Int → Int → Int → Int → List Int → Int → Bool → Option (Int × Int × Int × Int × Int × Option Int)
 | 0, _, _, _, _, _, _, _, _, _ => none
 | k + 1, x1, x2, x14, x155000, x155001, x155002, x163000, x163001, x163002 => if x163002 = true then ((xor_Code.f k x155000 x155001 x155002 (Go.bits .xor .u64 x155000 x14)).bind fun bt207 => ((bits_Take.f k x1 x2 (mn bt207.2.1 64)).bind fun bt216 => ((bits_Take.f k bt207.1 0 (mn bt207.2.1 64)).bind fun bt218 => (if bt207.2.1 = (wrap64 (x163001 - x2)) then (if bt216.1 = bt218.1 then (some (Go.bits .xor .u64 x155000 x14, bt207.2.2.1, bt207.2.2.2.1, bt207.2.2.2.2, bt207.2.1, none)) else ((xor_Get_1.f 3).bind fun bt220 => (some (bt220.1, bt220.2.1, bt220.2.2.1, bt220.2.2.2.1, bt220.2.2.2.2.1, bt220.2.2.2.2.2)))) else ((xor_Get_1.f 3).bind fun bt226 => (some (bt226.1, bt226.2.1, bt226.2.2.1, bt226.2.2.2.1, bt226.2.2.2.2.1, bt226.2.2.2.2.2))))))) else ((xor_Get_1.f 2).bind fun bt201 => (some (bt201.1, bt201.2.1, bt201.2.2.1, bt201.2.2.2.1, bt201.2.2.2.2.1, bt201.2.2.2.2.2)))
def xor_Get.j1 : Nat → List Int → Int → Int → Int → Bool → Int → Int → Int → List Int → Int → Bool → Option (Int × Int × Int × Int × Int × Option Int)
 | 0, _, _, _, _, _, _, _, _, _, _, _ => none
 | k + 1, x1, x2, x12, x13, x15, x155000, x155001, x155002, x163000, x163001, x163002 => if x13 = 0 then (xor_Get.j2 k x1 x2 x12 x13 true x155000 x155001 x155002 x163000 x163001 x163002) else (xor_Get.j2 k x1 x2 x12 x13 (decide ((wrap64 (x12 + x13)) > 64)) x155000 x155001 x155002 x163000 x163001 x163002)
def xor_Get.j2 : Nat → List Int → Int → Int → Int → Bool → Int → Int → Int → List Int → Int → Bool → Option (Int × Int × Int × Int × Int × Option Int)
 | 0, _, _, _, _, _, _, _, _, _, _, _ => none
 | k + 1, x1, x2, x12, x13, x91, x155000, x155001, x155002, x163000, x163001, x163002 => if x91 = true then ((xor_Get_1.f 3).bind fun bt191 => (some (bt191.1, bt191.2.1, bt191.2.2.1, bt191.2.2.2.1, bt191.2.2.2.2.1, bt191.2.2.2.2.2))) else ((xor_reader_take.f k x163000 x163001 x163002 x13).bind fun bt197 => (if 0 ≤ (wrap64 ((wrap64 (64 - x12)) - x13)) then (xor_Get.j3 k x1 x2 (shl .u64 bt197.1 (wrap64 ((wrap64 (64 - x12)) - x13))) x155000 x155001 x155002 bt197.2.1 bt197.2.2.1 bt197.2.2.2) else (none)))
end
def xor_Get.f (k : Nat) (a0_0 : Int) (a0_1 : Int) (a0_2 : Int) (l1 : List Int) (a2 : Int) : Option (Int × Int × Int × Int × Int × Option Int) := if a2 < 0 then (xor_Get.j0 k l1 a2 true a0_0 a0_1 a0_2) else (xor_Get.j0 k l1 a2 (decide (a2 > (wrap64 (8 * (l1.length : Int))))) a0_0 a0_1 a0_2)
theorem xor_Get.mono_l : ∀ k, (∀ y0 y1 y2 y3 y4 y5, LeO (xor_Get.j0 k y0 y1 y2 y3 y4 y5) (xor_Get.j0 (k + 1) y0 y1 y2 y3 y4 y5)) ∧ (∀ y0 y1 y2 y3 y4 y5 y6 y7 y8, LeO (xor_Get.j3 k y0 y1 y2 y3 y4 y5 y6 y7 y8) (xor_Get.j3 (k + 1) y0 y1 y2 y3 y4 y5 y6 y7 y8)) ∧ (∀ y0 y1 y2 y3 y4 y5 y6 y7 y8 y9 y10, LeO (xor_Get.j1 k y0 y1 y2 y3 y4 y5 y6 y7 y8 y9 y10) (xor_Get.j1 (k + 1) y0 y1 y2 y3 y4 y5 y6 y7 y8 y9 y10)) ∧ (∀ y0 y1 y2 y3 y4 y5 y6 y7 y8 y9 y10, LeO (xor_Get.j2 k y0 y1 y2 y3 y4 y5 y6 y7 y8 y9 y10) (xor_Get.j2 (k + 1) y0 y1 y2 y3 y4 y5 y6 y7 y8 y9 y10))
 | 0 => ⟨fun _ _ _ _ _ _ r h => by simp [xor_Get.j0] at h, fun _ _ _ _ _ _ _ _ _ r h => by simp [xor_Get.j3] at h, fun _ _ _ _ _ _ _ _ _ _ _ r h => by simp [xor_Get.j1] at h, fun _ _ _ _ _ _ _ _ _ _ _ r h => by simp [xor_Get.j2] at h⟩
 | k + 1 => by
  obtain ⟨ih0, ih1, ih2, ih3⟩ := xor_Get.mono_l k
  refine ⟨?_, ?_, ?_, ?_⟩
  ·intro y0 y1 y2 y3 y4 y5
   unfold xor_Get.j0
   repeat' first
   | (with_reducible exact ih0 _ _ _ _ _ _)
   | (with_reducible exact ih1 _ _ _ _ _ _ _ _ _)
   | (with_reducible exact ih2 _ _ _ _ _ _ _ _ _ _ _)
   | (with_reducible exact ih3 _ _ _ _ _ _ _ _ _ _ _)
   | (with_reducible exact bits_Take.mono _ _ _ _)
   | (with_reducible exact xor_Code.mono _ _ _ _ _)
   | (with_reducible exact xor_reader_take.mono _ _ _ _ _)
   | (with_reducible exact LeO.refl _)
   | (with_reducible exact LeO.none _)
   | (with_reducible refine LeO.ite ?_ ?_)
   | (with_reducible refine LeO.bind ?_ (fun _ => ?_))
   | exact ih0 _ _ _ _ _ _
   | exact ih1 _ _ _ _ _ _ _ _ _
   | exact ih2 _ _ _ _ _ _ _ _ _ _ _
   | exact ih3 _ _ _ _ _ _ _ _ _ _ _
   | exact bits_Take.mono _ _ _ _
   | exact xor_Code.mono _ _ _ _ _
   | exact xor_reader_take.mono _ _ _ _ _
   | exact LeO.none _
   | refine LeO.ite ?_ ?_
   | refine LeO.bind ?_ (fun _ => ?_)
  ·intro y0 y1 y2 y3 y4 y5 y6 y7 y8
   unfold xor_Get.j3
   repeat' first
   | (with_reducible exact ih0 _ _ _ _ _ _)
   | (with_reducible exact ih1 _ _ _ _ _ _ _ _ _)
   | (with_reducible exact ih2 _ _ _ _ _ _ _ _ _ _ _)
   | (with_reducible exact ih3 _ _ _ _ _ _ _ _ _ _ _)
   | (with_reducible exact bits_Take.mono _ _ _ _)
   | (with_reducible exact xor_Code.mono _ _ _ _ _)
   | (with_reducible exact xor_reader_take.mono _ _ _ _ _)
   | (with_reducible exact LeO.refl _)
   | (with_reducible exact LeO.none _)
   | (with_reducible refine LeO.ite ?_ ?_)
   | (with_reducible refine LeO.bind ?_ (fun _ => ?_))
   | exact ih0 _ _ _ _ _ _
   | exact ih1 _ _ _ _ _ _ _ _ _
   | exact ih2 _ _ _ _ _ _ _ _ _ _ _
   | exact ih3 _ _ _ _ _ _ _ _ _ _ _
   | exact bits_Take.mono _ _ _ _
   | exact xor_Code.mono _ _ _ _ _
   | exact xor_reader_take.mono _ _ _ _ _
   | exact LeO.none _
   | refine LeO.ite ?_ ?_
   | refine LeO.bind ?_ (fun _ => ?_)
  ·intro y0 y1 y2 y3 y4 y5 y6 y7 y8 y9 y10
   unfold xor_Get.j1
   repeat' first
   | (with_reducible exact ih0 _ _ _ _ _ _)
   | (with_reducible exact ih1 _ _ _ _ _ _ _ _ _)
   | (with_reducible exact ih2 _ _ _ _ _ _ _ _ _ _ _)
   | (with_reducible exact ih3 _ _ _ _ _ _ _ _ _ _ _)
   | (with_reducible exact bits_Take.mono _ _ _ _)
   | (with_reducible exact xor_Code.mono _ _ _ _ _)
   | (with_reducible exact xor_reader_take.mono _ _ _ _ _)
   | (with_reducible exact LeO.refl _)
   | (with_reducible exact LeO.none _)
   | (with_reducible refine LeO.ite ?_ ?_)
   | (with_reducible refine LeO.bind ?_ (fun _ => ?_))
   | exact ih0 _ _ _ _ _ _
   | exact ih1 _ _ _ _ _ _ _ _ _
   | exact ih2 _ _ _ _ _ _ _ _ _ _ _
   | exact ih3 _ _ _ _ _ _ _ _ _ _ _
   | exact bits_Take.mono _ _ _ _
   | exact xor_Code.mono _ _ _ _ _
   | exact xor_reader_take.mono _ _ _ _ _
   | exact LeO.none _
   | refine LeO.ite ?_ ?_
   | refine LeO.bind ?_ (fun _ => ?_)
  ·intro y0 y1 y2 y3 y4 y5 y6 y7 y8 y9 y10
   unfold xor_Get.j2
   repeat' first
   | (with_reducible exact ih0 _ _ _ _ _ _)
   | (with_reducible exact ih1 _ _ _ _ _ _ _ _ _)
   | (with_reducible exact ih2 _ _ _ _ _ _ _ _ _ _ _)
   | (with_reducible exact ih3 _ _ _ _ _ _ _ _ _ _ _)
   | (with_reducible exact bits_Take.mono _ _ _ _)
   | (with_reducible exact xor_Code.mono _ _ _ _ _)
   | (with_reducible exact xor_reader_take.mono _ _ _ _ _)
   | (with_reducible exact LeO.refl _)
   | (with_reducible exact LeO.none _)
   | (with_reducible refine LeO.ite ?_ ?_)
   | (with_reducible refine LeO.bind ?_ (fun _ => ?_))
   | exact ih0 _ _ _ _ _ _
   | exact ih1 _ _ _ _ _ _ _ _ _
   | exact ih2 _ _ _ _ _ _ _ _ _ _ _
   | exact ih3 _ _ _ _ _ _ _ _ _ _ _
   | exact bits_Take.mono _ _ _ _
   | exact xor_Code.mono _ _ _ _ _
   | exact xor_reader_take.mono _ _ _ _ _
   | exact LeO.none _
   | refine LeO.ite ?_ ?_
   | refine LeO.bind ?_ (fun _ => ?_)
theorem xor_Get.mono : ∀ a0 a1 a2 a3 a4 k, LeO (xor_Get.f k a0 a1 a2 a3 a4) (xor_Get.f (k + 1) a0 a1 a2 a3 a4) := by
 intro a0 a1 a2 a3 a4 k
 obtain ⟨ih0, ih1, ih2, ih3⟩ := xor_Get.mono_l k
 unfold xor_Get.f
 repeat' first
   | (with_reducible exact ih0 _ _ _ _ _ _)
   | (with_reducible exact ih1 _ _ _ _ _ _ _ _ _)
   | (with_reducible exact ih2 _ _ _ _ _ _ _ _ _ _ _)
   | (with_reducible exact ih3 _ _ _ _ _ _ _ _ _ _ _)
   | (with_reducible exact bits_Take.mono _ _ _ _)
   | (with_reducible exact xor_Code.mono _ _ _ _ _)
   | (with_reducible exact xor_reader_take.mono _ _ _ _ _)
   | (with_reducible exact LeO.refl _)
   | (with_reducible exact LeO.none _)
   | (with_reducible refine LeO.ite ?_ ?_)
   | (with_reducible refine LeO.bind ?_ (fun _ => ?_))
   | exact ih0 _ _ _ _ _ _
   | exact ih1 _ _ _ _ _ _ _ _ _
   | exact ih2 _ _ _ _ _ _ _ _ _ _ _
   | exact ih3 _ _ _ _ _ _ _ _ _ _ _
   | exact bits_Take.mono _ _ _ _
   | exact xor_Code.mono _ _ _ _ _
   | exact xor_reader_take.mono _ _ _ _ _
   | exact LeO.none _
   | refine LeO.ite ?_ ?_
   | refine LeO.bind ?_ (fun _ => ?_)
def xor_Get.T23 : Bool × List (List Nat × List Nat) := (true, [([], []), ([0], [0]), ([], []), ([2], [2]), ([3], [3]), ([4], [4]), ([], []), ([5, 6], [5, 6]), ([1, 7], [1, 7]), ([8], [8]), ([9], [9]), ([9], [9]), ([10, 11, 9], [9, 10, 11]), ([9, 12], [9, 12])])
def xor_Get.B23 : List Nat := [0, 1, 0, 4, 12, 28, 0, 124, 255, 511, 1023, 1023, 4095, 8191]
theorem xor_Get.tab23 : rtab .any (opsOf Tryd.f16 23) = xor_Get.T23 := by kernel_rfl
theorem xor_Get.bits23 : waitsOk xor_Get.T23.2 xor_Get.B23 = true := by kernel_rfl
def xor_Get.T25 : Bool × List (List Nat × List Nat) := (true, [([], []), ([], []), ([], []), ([2], [2]), ([0, 0], [0]), ([1, 4, 0, 1, 4], [1]), ([3, 5, 0, 1, 2, 3, 4, 5], [3]), ([6, 0, 1, 2, 3, 4, 5, 6], [])])
def xor_Get.B25 : List Nat := [0, 0, 0, 4, 1, 19, 63, 127]
theorem xor_Get.tab25 : rtab .any (opsOf Tryd.f16 25) = xor_Get.T25 := by kernel_rfl
theorem xor_Get.bits25 : waitsOk xor_Get.T25.2 xor_Get.B25 = true := by kernel_rfl
set_option maxHeartbeats 8000000 in
set_option maxRecDepth 100000 in
theorem xor_Get.calls (k : Nat) (a0_0 : Int) (a0_1 : Int) (a0_2 : Int) (A1 : Option Addr) (c1 : Nat) (l1 : List Int) (a2 : Int) (r1 : Int) (r2 : Int) (r3 : Int) (r4 : Int) (r5 : Int) (r6 : Option Int) (w : World) (hT : TabOk w) (hr1 : Kd.C (Kd.int .u8) w A1 l1.length l1) (hc1 : l1.length ≤ c1) (h : xor_Get.f k a0_0 a0_1 a0_2 l1 a2 = some (r1, r2, r3, r4, r5, r6)) :
  Calls Tryd.prog 16 #[.agg #[.int .u64 a0_0, .int .i64 a0_1, .int .i64 a0_2], .slice A1 l1.length c1, .int .i64 a2] w fun e w' => e = .returned (.tuple #[.int .u64 r1, .agg #[.int .u64 r2, .int .i64 r3, .int .i64 r4], .int .i64 r5, errW r6]) ∧ Below w.heap.size w w' := by
 have hu24 := Tryd.underlying24
 have hu99 := Tryd.underlying99
 have hu31 := Tryd.underlying31
 have HT := Aside0.mk hT
 clear hT
 have HR1 := Aside0.mk hr1
 have HC1 := Aside0.mk hc1
 clear hr1 hc1
 have HB := Aside0.mk (Below.refl w.heap.size w)
 have H : (if a2 < 0 then (xor_Get.j0 k l1 a2 true a0_0 a0_1 a0_2) else (xor_Get.j0 k l1 a2 (decide (a2 > (wrap64 (8 * (l1.length : Int))))) a0_0 a0_1 a0_2)) = some (r1, r2, r3, r4, r5, r6) := h
 clear h
 have HC4 := Aside0.mk H
 clear H
 go_enter Tryd.func16, Tryd.ntmps16
 go_upto_region 2 with (first | ((with_reducible refine gate_dst (N := 3) rfl ?_); (try (refine gate_guard (by rfl) ?_; dsimp only)); refine box_event ?hg (N := 3) ?hd (cs := #[.int .u64 a0_0, .int .i64 a0_1, .int .i64 a0_2]) (t := 24) ?hr ?_; (case hd => rfl); (case hg => rfl); (case hr => first | (go_simp; done) | (go_simp; rfl)); intro gb154 hg w5 hbox hb; have BK154 := Aside0.mk (hbox); have GW154 := kG hg HB; have GE154 := kG hg HB; replace HB := kH HB hb; clear hb hbox hg) | ((with_reducible refine gate_dst (N := 7) rfl ?_); (try (refine gate_guard (by rfl) ?_; dsimp only)); refine box_event ?hg (N := 7) ?hd (cs := #[.int .u64 0, .int .i64 0, .int .i64 0]) (t := 24) ?hr ?_; (case hd => rfl); (case hg => rfl); (case hr => first | (go_simp; done) | (go_simp; rfl)); intro gb155 hg w6 hbox hb; have BK155 := Aside0.mk (hbox); have GW155 := kG hg HB; have GE155 := kG hg HB; replace HB := kH HB hb; obtain ⟨NB154_155, NB155_154⟩ := kN hg BK154; replace BK154 := kB BK154 hb; clear hb hbox hg))
 (try simp only [Act.put, List.setIfInBounds_toArray, List.set_cons_zero, List.set_cons_succ])
 go_cut [31] (fun v31 wc => ∃ (kq : Nat) (x31_3 : Bool), v31 = .bool x31_3 ∧ Aside0 (xor_Get.j0 kq l1 a2 x31_3 a0_0 a0_1 a0_2 = some (r1, r2, r3, r4, r5, r6)) ∧ Aside0 (kq ≤ k) ∧ Aside0 (wc.heap[gb154]? = some (.cells #[.int .u64 a0_0, .int .i64 a0_1, .int .i64 a0_2] 24 (0, 0))) ∧ Aside0 (wc.heap[gb155]? = some (.cells #[.int .u64 0, .int .i64 0, .int .i64 0] 24 (0, 0))) ∧ Aside0 (Below w.heap.size w wc))
 case first =>
  have H := HC4.out
  clear HC4
  by_cases c7 : a2 < 0
  ·rw [if_pos c7] at H
   have c7b0 : decide (a2 < 0) = true := decide_eq_true c7
   clear c7
   (first | rw [c7b0] | (simp only [i64_w, i32_w]; rw [c7b0]) | skip)
   have H' := Aside0.mk H
   clear H
   go_wp2
   go_meet
   case rel => exact ⟨_, (true), (by first | rfl | (simp; done) | (simp [*]; done)), H', ⟨by first | omega | exact Nat.le_refl _⟩, ⟨by (with_reducible repeat (first | refine blk_drewN ?_ _ | refine blk_drew ?_ | refine blk_alloc ?_ _)); exact BK154.out⟩, ⟨by (with_reducible repeat (first | refine blk_drewN ?_ _ | refine blk_drew ?_ | refine blk_alloc ?_ _)); exact BK155.out⟩, ⟨by repeat (first | (with_reducible first | exact HB.out | apply below_alloc | apply pw_below_drewN | apply below_drew1 | refine below_set ?_ GE154.out | refine below_set ?_ GE155.out) | exact HB.out)⟩⟩
  ·rw [if_neg c7] at H
   have c7b0 : decide (a2 < 0) = false := decide_eq_false c7
   clear c7
   (first | rw [c7b0] | (simp only [i64_w, i32_w]; rw [c7b0]) | skip)
   have H' := Aside0.mk H
   clear H
   go_wp2
   go_meet
   case rel => exact ⟨_, (decide (a2 > (wrap64 (8 * (l1.length : Int))))), (by first | rfl | (simp; done) | (simp [*]; done)), H', ⟨by first | omega | exact Nat.le_refl _⟩, ⟨by (with_reducible repeat (first | refine blk_drewN ?_ _ | refine blk_drew ?_ | refine blk_alloc ?_ _)); exact BK154.out⟩, ⟨by (with_reducible repeat (first | refine blk_drewN ?_ _ | refine blk_drew ?_ | refine blk_alloc ?_ _)); exact BK155.out⟩, ⟨by repeat (first | (with_reducible first | exact HB.out | apply below_alloc | apply pw_below_drewN | apply below_drew1 | refine below_set ?_ GE154.out | refine below_set ?_ GE155.out) | exact HB.out)⟩⟩
 case rest =>
  clear HC4
  try clear c1
  try clear p2
  try clear p6
  try clear c7
  try clear c7b0
  obtain ⟨kq, x31_3, rfl, HA, HJ3, BK154, BK155, HB⟩ := hcut
  cases kq with
  | zero => exact absurd HA.out (by simp [xor_Get.j0])
  | succ kj3 =>
   have H := HA.out
   clear HA
   simp only [xor_Get.j0] at H
   by_cases c8 : x31_3 = true
   ·subst c8
    have H1 : ((xor_Get_1.f 2).bind fun bt156 => (some (bt156.1, bt156.2.1, bt156.2.2.1, bt156.2.2.2.1, bt156.2.2.2.2.1, bt156.2.2.2.2.2))) = some (r1, r2, r3, r4, r5, r6) := by rw [if_pos rfl] at H; exact H
    clear H
    have H := H1
    clear H1
    replace H := Option.bind_eq_some_iff.mp H
    obtain ⟨⟨t156, t157, t158, t159, t160, t161⟩, A90, H⟩ := H
    replace H : (some (t156, t157, t158, t159, t160, t161)) = some (r1, r2, r3, r4, r5, r6) := H
    have A9 := Aside0.mk A90
    clear A90
    simp only [Option.some.injEq, Prod.mk.injEq] at H
    obtain ⟨rfl, rfl, rfl, rfl, rfl, rfl⟩ := H
    go_wp2_with (first | (go_at_call 47; (with_reducible refine (xor_Get_1.calls 2 t156 t157 t158 t159 t160 t161 _ A9.out).mono ?_); rintro e w10 ⟨rfl, hb⟩; replace BK154 := kB BK154 hb; replace BK155 := kB BK155 hb; replace HB := kH HB hb; (try clear hb); (try clear hb2); (try clear hk); (try clear hi); (try simp only [errW_none, errW_some]); have hnb11 := NB155_154.out; have hnc11 := NB154_155.out; have hcz12_0 : w10.cell? ⟨gb155, 0, none⟩ = some (.int .u64 0) := (blk_cell BK155.out 0).trans rfl; have hcz12_1 : w10.cell? ⟨gb155, 1, none⟩ = some (.int .i64 0) := (blk_cell BK155.out 1).trans rfl; have hcz12_2 : w10.cell? ⟨gb155, 2, none⟩ = some (.int .i64 0) := (blk_cell BK155.out 2).trans rfl; have hfz12_0 := blk_frozen BK155.out 0; have hfz12_1 := blk_frozen BK155.out 1; have hfz12_2 := blk_frozen BK155.out 2))
    refine bodyPost_ret (results_list (rs := [.tmp 6, .cell 7 24, .tmp 8, .tmp 9]) rfl (by simp) (.tmp (.cell gb155 24 #[.int .u64 t157, .int .i64 t158, .int .i64 t159] (0, 0) _ rfl (kb BK155) Tryd.underlying24 rfl (by kernel_rfl) (.tmp (.tmp .nil))))) rfl ?_
    exact ⟨by first | rfl | (simp [errW_none, errW_some] <;> rfl) | (simp [*, errW_none, errW_some] <;> rfl), by repeat (first | (with_reducible first | exact HB.out | apply below_alloc | apply pw_below_drewN | apply below_drew1 | refine below_set ?_ GE154.out | refine below_set ?_ GE155.out) | exact HB.out)⟩
   ·replace c8 := Bool.eq_false_iff.mpr c8
    subst c8
    have H1 : ((xor_reader_take.f kj3 l1 a2 true 1).bind fun bt163 => (if bt163.1 = 1 then ((xor_reader_take.f kj3 bt163.2.1 bt163.2.2.1 bt163.2.2.2 1).bind fun bt167 => (if bt167.2.2.2 = true then (if bt167.1 = 1 then ((xor_reader_take.f kj3 bt167.2.1 bt167.2.2.1 bt167.2.2.2 6).bind fun bt171 => ((xor_reader_take.f kj3 bt171.2.1 bt171.2.2.1 bt171.2.2.2 6).bind fun bt175 => (if bt175.2.2.2 = true then (xor_Get.j1 kj3 l1 a2 (wrap64 (bt171.1)) (wrap64 ((wrap64 (bt175.1)) + 1)) (bt167.1 == 1) a0_0 a0_1 a0_2 bt175.2.1 bt175.2.2.1 bt175.2.2.2) else ((xor_Get_1.f 2).bind fun bt179 => (some (bt179.1, bt179.2.1, bt179.2.2.1, bt179.2.2.2.1, bt179.2.2.2.2.1, bt179.2.2.2.2.2)))))) else (xor_Get.j1 kj3 l1 a2 a0_1 a0_2 (bt167.1 == 1) a0_0 a0_1 a0_2 bt167.2.1 bt167.2.2.1 bt167.2.2.2)) else ((xor_Get_1.f 2).bind fun bt185 => (some (bt185.1, bt185.2.1, bt185.2.2.1, bt185.2.2.2.1, bt185.2.2.2.2.1, bt185.2.2.2.2.2))))) else (xor_Get.j3 kj3 l1 a2 0 a0_0 a0_1 a0_2 bt163.2.1 bt163.2.2.1 bt163.2.2.2))) = some (r1, r2, r3, r4, r5, r6) := by rw [if_neg (show ¬ (false = true) by decide)] at H; exact H
    clear H
    have H := H1
    clear H1
    replace H := Option.bind_eq_some_iff.mp H
    obtain ⟨⟨t163, t164, t165, t166⟩, A130, H⟩ := H
    replace H : (if t163 = 1 then ((xor_reader_take.f kj3 t164 t165 t166 1).bind fun bt167 => (if bt167.2.2.2 = true then (if bt167.1 = 1 then ((xor_reader_take.f kj3 bt167.2.1 bt167.2.2.1 bt167.2.2.2 6).bind fun bt171 => ((xor_reader_take.f kj3 bt171.2.1 bt171.2.2.1 bt171.2.2.2 6).bind fun bt175 => (if bt175.2.2.2 = true then (xor_Get.j1 kj3 l1 a2 (wrap64 (bt171.1)) (wrap64 ((wrap64 (bt175.1)) + 1)) (bt167.1 == 1) a0_0 a0_1 a0_2 bt175.2.1 bt175.2.2.1 bt175.2.2.2) else ((xor_Get_1.f 2).bind fun bt179 => (some (bt179.1, bt179.2.1, bt179.2.2.1, bt179.2.2.2.1, bt179.2.2.2.2.1, bt179.2.2.2.2.2)))))) else (xor_Get.j1 kj3 l1 a2 a0_1 a0_2 (bt167.1 == 1) a0_0 a0_1 a0_2 bt167.2.1 bt167.2.2.1 bt167.2.2.2)) else ((xor_Get_1.f 2).bind fun bt185 => (some (bt185.1, bt185.2.1, bt185.2.2.1, bt185.2.2.2.1, bt185.2.2.2.2.1, bt185.2.2.2.2.2))))) else (xor_Get.j3 kj3 l1 a2 0 a0_0 a0_1 a0_2 t164 t165 t166)) = some (r1, r2, r3, r4, r5, r6) := H
    have A13 := Aside0.mk A130
    clear A130
    have HC14 := Aside0.mk H
    clear H
    try go_wp2_with (first | ((with_reducible refine gate_dst (N := 41) rfl ?_); (try (refine gate_guard (by rfl) ?_; dsimp only)); refine box_event ?hg (N := 41) ?hd (cs := #[.slice A1 l1.length c1, .int .i64 a2, .bool true]) (t := 99) ?hr ?_; (case hd => rfl); (case hg => rfl); (case hr => first | (go_simp; done) | (go_simp; rfl)); intro gb162 hg w15 hbox hb; have GW162 := kG hg HB; have GE162 := kG hg HB; obtain ⟨NB154_162, NB162_154⟩ := kN hg BK154; replace BK154 := kB BK154 hb; obtain ⟨NB155_162, NB162_155⟩ := kN hg BK155; replace BK155 := kB BK155 hb; have HI162 := Aside0.mk ((show IsS99 w w15 gb162 l1 a2 true from ⟨_, _, hbox, (by rw [hg]; exact (below_size (kl HB))), HR1.out, HC1.out⟩)); replace HB := kH HB hb; clear hb hbox hg))
    replace BK154 := Aside0.mk (blk_drew BK154.out)
    replace BK155 := Aside0.mk (blk_drew BK155.out)
    replace HI162 := Aside0.mk (IsS99.drew HI162.out)
    replace HB := Aside0.mk (below_drew1 HB.out)
    refine start_ (n := 7) (S := fun w' => w'.cell? ⟨gb154, 0, none⟩ = some (.int .u64 a0_0) ∧ w'.cell? ⟨gb154, 1, none⟩ = some (.int .i64 a0_1) ∧ w'.cell? ⟨gb154, 2, none⟩ = some (.int .i64 a0_2)) (ds := []) (bl 7 0) (by kernel_rfl) rfl rfl kz (fun hHeld => ?_)
    generalize w15.drew = w16 at BK154 BK155 HI162 HB hHeld ⊢
    refine pu 0 (some 42) (bl 7 1) (h := ?_)
    refine pu 2 (some 44) (bl 7 5) (h := ?_)
    refine ta 1 (some 43) (bl 7 7) (h := ?_)
    refine pu 4 (some 12) (bl 7 23) (h := ?_)
    refine ta 3 (some 45) (bl 7 31) (h := ?_)
    refine pu 5 (some 13) (bl 7 63) (h := ?_)
    refine pu 6 (some 14) (bl 7 127) (h := ?_)
    refine done_ (by kernel_rfl) ?_
    go_upto_if 48 with (first | ((with_reducible refine gate_callee (f := 48) rfl ?_); refine goesL_ (some 47) rfl rfl Tryd.func48 (by kernel_rfl) rfl #[.pointer (some ⟨gb162, 0, none⟩), .int .i64 1] rfl km ?_; (with_reducible refine (xor_reader_take.calls kj3 gb162 l1 a2 true 1 t163 t164 t165 t166 w _ ?side1 ?side2 A13.out).mono ?_); (case side1 => repeat (first | (with_reducible first | exact HI162.out | apply IsS99.alloc | apply IsS99.drewN | apply IsS99.drew | apply IsS99.set_1 | apply IsS99.set_2 | refine IsS99.far ?_ NB162_154.out _ | refine IsS99.far ?_ NB162_155.out _) | exact HI162.out)); (case side2 => repeat (first | (with_reducible first | exact HB.out | apply below_alloc | apply pw_below_drewN | apply below_drew1 | refine below_set ?_ (IsS99.ge HI162.out) | refine below_set ?_ GE154.out | refine below_set ?_ GE155.out) | exact HB.out)); rintro e w17 ⟨rfl, hi, hb, hk⟩; refine ⟨_, rfl, ?_⟩; have n0_ := Aside0.mk (KeepBut.blk hk (g' := gb154) (o := .cells #[.int .u64 a0_0, .int .i64 a0_1, .int .i64 a0_2] 24 (0, 0)) (kb BK154) NB154_162.out (by simp)); have n1_ := Aside0.mk (KeepBut.blk hk (g' := gb155) (o := .cells #[.int .u64 0, .int .i64 0, .int .i64 0] 24 (0, 0)) (kb BK155) NB155_162.out (by simp)); have n2_ := Aside0.mk (hb); have n3_ := Aside0.mk (hi); clear BK154; clear BK155; clear HB; clear HI162; have BK154 := n0_; have BK155 := n1_; have HB := n2_; have HI162 := n3_; clear n0_ n1_ n2_ n3_; (try clear hb); (try clear hb2); (try clear hk); (try clear hi)))
    (try simp only [Act.put, List.setIfInBounds_toArray, List.set_cons_zero, List.set_cons_succ])
    go_cut [14] (fun v14 wc => ∃ (kq : Nat) (x14_13 : Int) (x156000_13 : Int) (x156001_13 : Int) (x156002_13 : Int) (x163000_13 : List Int) (x163001_13 : Int) (x163002_13 : Bool), v14 = .int .u64 x14_13 ∧ Aside0 (xor_Get.j3 kq l1 a2 x14_13 a0_0 a0_1 a0_2 x163000_13 x163001_13 x163002_13 = some (r1, r2, r3, r4, r5, r6)) ∧ Aside0 (kq ≤ kj3) ∧ Aside0 (wc.heap[gb154]? = some (.cells #[.int .u64 a0_0, .int .i64 a0_1, .int .i64 a0_2] 24 (0, 0))) ∧ Aside0 (wc.heap[gb155]? = some (.cells #[.int .u64 x156000_13, .int .i64 x156001_13, .int .i64 x156002_13] 24 (0, 0))) ∧ Aside0 (IsS99 w wc gb162 x163000_13 x163001_13 x163002_13) ∧ Aside0 (Below w.heap.size w wc))
    case first =>
     have H := HC14.out
     clear HC14
     by_cases c18 : t163 = 1
     ·rw [if_pos c18] at H
      have c18b0 : (t163 == 1) = true := beq_iff_eq.mpr c18
      have c18b1 : (t163 != 1) = false := bne_eq_false_iff_eq.mpr c18
      clear c18
      (first | rw [c18b0] | (simp only [i64_w, i32_w]; rw [c18b0]) | skip)
      replace H := Option.bind_eq_some_iff.mp H
      obtain ⟨⟨t167, t168, t169, t170⟩, A190, H⟩ := H
      replace H : (if t170 = true then (if t167 = 1 then ((xor_reader_take.f kj3 t168 t169 t170 6).bind fun bt171 => ((xor_reader_take.f kj3 bt171.2.1 bt171.2.2.1 bt171.2.2.2 6).bind fun bt175 => (if bt175.2.2.2 = true then (xor_Get.j1 kj3 l1 a2 (wrap64 (bt171.1)) (wrap64 ((wrap64 (bt175.1)) + 1)) (t167 == 1) a0_0 a0_1 a0_2 bt175.2.1 bt175.2.2.1 bt175.2.2.2) else ((xor_Get_1.f 2).bind fun bt179 => (some (bt179.1, bt179.2.1, bt179.2.2.1, bt179.2.2.2.1, bt179.2.2.2.2.1, bt179.2.2.2.2.2)))))) else (xor_Get.j1 kj3 l1 a2 a0_1 a0_2 (t167 == 1) a0_0 a0_1 a0_2 t168 t169 t170)) else ((xor_Get_1.f 2).bind fun bt185 => (some (bt185.1, bt185.2.1, bt185.2.2.1, bt185.2.2.2.1, bt185.2.2.2.2.1, bt185.2.2.2.2.2)))) = some (r1, r2, r3, r4, r5, r6) := H
      have A19 := Aside0.mk A190
      clear A190
      have HC20 := Aside0.mk H
      clear H
      go_upto_block 0 with (first | ((with_reducible refine gate_callee (f := 48) rfl ?_); refine goesL_ (some 50) rfl rfl Tryd.func48 (by kernel_rfl) rfl #[.pointer (some ⟨gb162, 0, none⟩), .int .i64 1] rfl km ?_; (with_reducible refine (xor_reader_take.calls kj3 gb162 t164 t165 t166 1 t167 t168 t169 t170 w _ ?side1 ?side2 A19.out).mono ?_); (case side1 => repeat (first | (with_reducible first | exact HI162.out | apply IsS99.alloc | apply IsS99.drewN | apply IsS99.drew | apply IsS99.set_1 | apply IsS99.set_2 | refine IsS99.far ?_ NB162_154.out _ | refine IsS99.far ?_ NB162_155.out _) | exact HI162.out)); (case side2 => repeat (first | (with_reducible first | exact HB.out | apply below_alloc | apply pw_below_drewN | apply below_drew1 | refine below_set ?_ (IsS99.ge HI162.out) | refine below_set ?_ GE154.out | refine below_set ?_ GE155.out) | exact HB.out)); rintro e w21 ⟨rfl, hi, hb, hk⟩; refine ⟨_, rfl, ?_⟩; replace BK154 := Aside0.mk (KeepBut.blk hk (g' := gb154) (o := .cells #[.int .u64 a0_0, .int .i64 a0_1, .int .i64 a0_2] 24 (0, 0)) (kb BK154) NB154_162.out (by simp)); replace BK155 := Aside0.mk (KeepBut.blk hk (g' := gb155) (o := .cells #[.int .u64 0, .int .i64 0, .int .i64 0] 24 (0, 0)) (kb BK155) NB155_162.out (by simp)); replace HB := Aside0.mk (hb); replace HI162 := Aside0.mk (hi); (try clear hb); (try clear hb2); (try clear hk); (try clear hi)))
      (try simp only [Act.put, List.setIfInBounds_toArray, List.set_cons_zero, List.set_cons_succ])
      go_cut [12, 13, 15] (fun v12 v13 v15 wc => ∃ (kq : Nat) (x12_19 : Int) (x13_19 : Int) (x15_19 : Bool) (x156000_19 : Int) (x156001_19 : Int) (x156002_19 : Int) (x163000_19 : List Int) (x163001_19 : Int) (x163002_19 : Bool), v12 = .int .i64 x12_19 ∧ v13 = .int .i64 x13_19 ∧ v15 = .bool x15_19 ∧ Aside0 (xor_Get.j1 kq l1 a2 x12_19 x13_19 x15_19 a0_0 a0_1 a0_2 x163000_19 x163001_19 x163002_19 = some (r1, r2, r3, r4, r5, r6)) ∧ Aside0 (kq ≤ kj3) ∧ Aside0 (wc.heap[gb154]? = some (.cells #[.int .u64 a0_0, .int .i64 a0_1, .int .i64 a0_2] 24 (0, 0))) ∧ Aside0 (wc.heap[gb155]? = some (.cells #[.int .u64 x156000_19, .int .i64 x156001_19, .int .i64 x156002_19] 24 (0, 0))) ∧ Aside0 (IsS99 w wc gb162 x163000_19 x163001_19 x163002_19) ∧ Aside0 (Below w.heap.size w wc))
      case first =>
       have H := HC20.out
       clear HC20
       by_cases c22 : t170 = true
       ·subst c22
        have H1 : (if t167 = 1 then ((xor_reader_take.f kj3 t168 t169 true 6).bind fun bt171 => ((xor_reader_take.f kj3 bt171.2.1 bt171.2.2.1 bt171.2.2.2 6).bind fun bt175 => (if bt175.2.2.2 = true then (xor_Get.j1 kj3 l1 a2 (wrap64 (bt171.1)) (wrap64 ((wrap64 (bt175.1)) + 1)) (t167 == 1) a0_0 a0_1 a0_2 bt175.2.1 bt175.2.2.1 bt175.2.2.2) else ((xor_Get_1.f 2).bind fun bt179 => (some (bt179.1, bt179.2.1, bt179.2.2.1, bt179.2.2.2.1, bt179.2.2.2.2.1, bt179.2.2.2.2.2)))))) else (xor_Get.j1 kj3 l1 a2 a0_1 a0_2 (t167 == 1) a0_0 a0_1 a0_2 t168 t169 true)) = some (r1, r2, r3, r4, r5, r6) := by rw [if_pos rfl] at H; exact H
        clear H
        have H := H1
        clear H1
        by_cases c23 : t167 = 1
        ·rw [if_pos c23] at H
         have c23b0 : (t167 == 1) = true := beq_iff_eq.mpr c23
         have c23b1 : (t167 != 1) = false := bne_eq_false_iff_eq.mpr c23
         clear c23
         (first | rw [c23b0] | (simp only [i64_w, i32_w]; rw [c23b0]) | skip)
         replace H := Option.bind_eq_some_iff.mp H
         obtain ⟨⟨t171, t172, t173, t174⟩, A240, H⟩ := H
         replace H : ((xor_reader_take.f kj3 t172 t173 t174 6).bind fun bt175 => (if bt175.2.2.2 = true then (xor_Get.j1 kj3 l1 a2 (wrap64 (t171)) (wrap64 ((wrap64 (bt175.1)) + 1)) (t167 == 1) a0_0 a0_1 a0_2 bt175.2.1 bt175.2.2.1 bt175.2.2.2) else ((xor_Get_1.f 2).bind fun bt179 => (some (bt179.1, bt179.2.1, bt179.2.2.1, bt179.2.2.2.1, bt179.2.2.2.2.1, bt179.2.2.2.2.2))))) = some (r1, r2, r3, r4, r5, r6) := H
         have A24 := Aside0.mk A240
         clear A240
         replace H := Option.bind_eq_some_iff.mp H
         obtain ⟨⟨t175, t176, t177, t178⟩, A250, H⟩ := H
         replace H : (if t178 = true then (xor_Get.j1 kj3 l1 a2 (wrap64 (t171)) (wrap64 ((wrap64 (t175)) + 1)) (t167 == 1) a0_0 a0_1 a0_2 t176 t177 t178) else ((xor_Get_1.f 2).bind fun bt179 => (some (bt179.1, bt179.2.1, bt179.2.2.1, bt179.2.2.2.1, bt179.2.2.2.2.1, bt179.2.2.2.2.2)))) = some (r1, r2, r3, r4, r5, r6) := H
         have A25 := Aside0.mk A250
         clear A250
         by_cases c26 : t178 = true
         ·subst c26
          have H1 : (xor_Get.j1 kj3 l1 a2 (wrap64 (t171)) (wrap64 ((wrap64 (t175)) + 1)) (t167 == 1) a0_0 a0_1 a0_2 t176 t177 true) = some (r1, r2, r3, r4, r5, r6) := by rw [if_pos rfl] at H; exact H
          clear H
          have H := H1
          clear H1
          have H' := Aside0.mk H
          clear H
          obtain ⟨ASz27_0, cSz27_0, HGz27, hgz27, HSz27_0, HLSz27_0⟩ := HI162.out
          have hcz27_0 := cellS99_0 HGz27
          have hcz27_1 := cellS99_1 HGz27
          have hcz27_2 := cellS99_2 HGz27
          have hfz27_0 := blk_frozen HGz27 0
          have hfz27_1 := blk_frozen HGz27 1
          have hfz27_2 := blk_frozen HGz27 2
          clear HGz27 hgz27
          go_wp2_with (first | ((with_reducible refine gate_callee (f := 48) rfl ?_); refine goesL_ (some 67) rfl rfl Tryd.func48 (by kernel_rfl) rfl #[.pointer (some ⟨gb162, 0, none⟩), .int .i64 6] rfl km ?_; (with_reducible refine (xor_reader_take.calls kj3 gb162 t168 t169 true 6 t171 t172 t173 t174 w _ ?side1 ?side2 A24.out).mono ?_); (case side1 => repeat (first | (with_reducible first | exact HI162.out | apply IsS99.alloc | apply IsS99.drewN | apply IsS99.drew | apply IsS99.set_1 | apply IsS99.set_2 | refine IsS99.far ?_ NB162_154.out _ | refine IsS99.far ?_ NB162_155.out _) | exact HI162.out)); (case side2 => repeat (first | (with_reducible first | exact HB.out | apply below_alloc | apply pw_below_drewN | apply below_drew1 | refine below_set ?_ (IsS99.ge HI162.out) | refine below_set ?_ GE154.out | refine below_set ?_ GE155.out) | exact HB.out)); rintro e w28 ⟨rfl, hi, hb, hk⟩; refine ⟨_, rfl, ?_⟩; replace BK154 := Aside0.mk (KeepBut.blk hk (g' := gb154) (o := .cells #[.int .u64 a0_0, .int .i64 a0_1, .int .i64 a0_2] 24 (0, 0)) (kb BK154) NB154_162.out (by simp)); replace BK155 := Aside0.mk (KeepBut.blk hk (g' := gb155) (o := .cells #[.int .u64 0, .int .i64 0, .int .i64 0] 24 (0, 0)) (kb BK155) NB155_162.out (by simp)); replace HB := Aside0.mk (hb); replace HI162 := Aside0.mk (hi); (try clear hb); (try clear hb2); (try clear hk); (try clear hi)) | ((with_reducible refine gate_callee (f := 48) rfl ?_); refine goesL_ (some 70) rfl rfl Tryd.func48 (by kernel_rfl) rfl #[.pointer (some ⟨gb162, 0, none⟩), .int .i64 6] rfl km ?_; (with_reducible refine (xor_reader_take.calls kj3 gb162 t172 t173 t174 6 t175 t176 t177 true w _ ?side1 ?side2 A25.out).mono ?_); (case side1 => repeat (first | (with_reducible first | exact HI162.out | apply IsS99.alloc | apply IsS99.drewN | apply IsS99.drew | apply IsS99.set_1 | apply IsS99.set_2 | refine IsS99.far ?_ NB162_154.out _ | refine IsS99.far ?_ NB162_155.out _) | exact HI162.out)); (case side2 => repeat (first | (with_reducible first | exact HB.out | apply below_alloc | apply pw_below_drewN | apply below_drew1 | refine below_set ?_ (IsS99.ge HI162.out) | refine below_set ?_ GE154.out | refine below_set ?_ GE155.out) | exact HB.out)); rintro e w29 ⟨rfl, hi, hb, hk⟩; refine ⟨_, rfl, ?_⟩; replace BK154 := Aside0.mk (KeepBut.blk hk (g' := gb154) (o := .cells #[.int .u64 a0_0, .int .i64 a0_1, .int .i64 a0_2] 24 (0, 0)) (kb BK154) NB154_162.out (by simp)); replace BK155 := Aside0.mk (KeepBut.blk hk (g' := gb155) (o := .cells #[.int .u64 0, .int .i64 0, .int .i64 0] 24 (0, 0)) (kb BK155) NB155_162.out (by simp)); replace HB := Aside0.mk (hb); replace HI162 := Aside0.mk (hi); (try clear hb); (try clear hb2); (try clear hk); (try clear hi); obtain ⟨ASz30_0, cSz30_0, HGz30, hgz30, HSz30_0, HLSz30_0⟩ := HI162.out; have hcz30_0 := cellS99_0 HGz30; have hcz30_1 := cellS99_1 HGz30; have hcz30_2 := cellS99_2 HGz30; have hfz30_0 := blk_frozen HGz30 0; have hfz30_1 := blk_frozen HGz30 1; have hfz30_2 := blk_frozen HGz30 2; clear HGz30 hgz30))
          go_meet
          case rel => exact ⟨_, (wrap64 (t171)), (wrap64 ((wrap64 (t175)) + 1)), ((t167 == 1)), (0), (0), (0), (t176), (t177), (true), (by first | rfl | (simp; done) | (simp [*]; done)), (by first | rfl | (simp; done) | (simp [*]; done)), (by first | rfl | (simp; done) | (simp [*]; done)), H', ⟨by have := HJ3.out; first | omega | exact Nat.le_refl _⟩, ⟨by (with_reducible repeat (first | refine blk_drewN ?_ _ | refine blk_drew ?_ | refine blk_alloc ?_ _)); exact BK154.out⟩, ⟨by (with_reducible repeat (first | refine blk_drewN ?_ _ | refine blk_drew ?_ | refine blk_alloc ?_ _)); exact BK155.out⟩, ⟨by repeat (first | (with_reducible first | exact HI162.out | apply IsS99.alloc | apply IsS99.drewN | apply IsS99.drew | apply IsS99.set_1 | apply IsS99.set_2 | refine IsS99.far ?_ NB162_154.out _ | refine IsS99.far ?_ NB162_155.out _) | exact HI162.out)⟩, ⟨by repeat (first | (with_reducible first | exact HB.out | apply below_alloc | apply pw_below_drewN | apply below_drew1 | refine below_set ?_ (IsS99.ge HI162.out) | refine below_set ?_ GE154.out | refine below_set ?_ GE155.out) | exact HB.out)⟩⟩
         ·replace c26 := Bool.eq_false_iff.mpr c26
          subst c26
          have H1 : ((xor_Get_1.f 2).bind fun bt179 => (some (bt179.1, bt179.2.1, bt179.2.2.1, bt179.2.2.2.1, bt179.2.2.2.2.1, bt179.2.2.2.2.2))) = some (r1, r2, r3, r4, r5, r6) := by rw [if_neg (show ¬ (false = true) by decide)] at H; exact H
          clear H
          have H := H1
          clear H1
          replace H := Option.bind_eq_some_iff.mp H
          obtain ⟨⟨t179, t180, t181, t182, t183, t184⟩, A310, H⟩ := H
          replace H : (some (t179, t180, t181, t182, t183, t184)) = some (r1, r2, r3, r4, r5, r6) := H
          have A31 := Aside0.mk A310
          clear A310
          simp only [Option.some.injEq, Prod.mk.injEq] at H
          obtain ⟨rfl, rfl, rfl, rfl, rfl, rfl⟩ := H
          obtain ⟨ASz32_0, cSz32_0, HGz32, hgz32, HSz32_0, HLSz32_0⟩ := HI162.out
          have hcz32_0 := cellS99_0 HGz32
          have hcz32_1 := cellS99_1 HGz32
          have hcz32_2 := cellS99_2 HGz32
          have hfz32_0 := blk_frozen HGz32 0
          have hfz32_1 := blk_frozen HGz32 1
          have hfz32_2 := blk_frozen HGz32 2
          clear HGz32 hgz32
          go_wp2_with (first | ((with_reducible refine gate_callee (f := 48) rfl ?_); refine goesL_ (some 67) rfl rfl Tryd.func48 (by kernel_rfl) rfl #[.pointer (some ⟨gb162, 0, none⟩), .int .i64 6] rfl km ?_; (with_reducible refine (xor_reader_take.calls kj3 gb162 t168 t169 true 6 t171 t172 t173 t174 w _ ?side1 ?side2 A24.out).mono ?_); (case side1 => repeat (first | (with_reducible first | exact HI162.out | apply IsS99.alloc | apply IsS99.drewN | apply IsS99.drew | apply IsS99.set_1 | apply IsS99.set_2 | refine IsS99.far ?_ NB162_154.out _ | refine IsS99.far ?_ NB162_155.out _) | exact HI162.out)); (case side2 => repeat (first | (with_reducible first | exact HB.out | apply below_alloc | apply pw_below_drewN | apply below_drew1 | refine below_set ?_ (IsS99.ge HI162.out) | refine below_set ?_ GE154.out | refine below_set ?_ GE155.out) | exact HB.out)); rintro e w33 ⟨rfl, hi, hb, hk⟩; refine ⟨_, rfl, ?_⟩; replace BK154 := Aside0.mk (KeepBut.blk hk (g' := gb154) (o := .cells #[.int .u64 a0_0, .int .i64 a0_1, .int .i64 a0_2] 24 (0, 0)) (kb BK154) NB154_162.out (by simp)); replace BK155 := Aside0.mk (KeepBut.blk hk (g' := gb155) (o := .cells #[.int .u64 0, .int .i64 0, .int .i64 0] 24 (0, 0)) (kb BK155) NB155_162.out (by simp)); replace HB := Aside0.mk (hb); replace HI162 := Aside0.mk (hi); (try clear hb); (try clear hb2); (try clear hk); (try clear hi)) | ((with_reducible refine gate_callee (f := 48) rfl ?_); refine goesL_ (some 70) rfl rfl Tryd.func48 (by kernel_rfl) rfl #[.pointer (some ⟨gb162, 0, none⟩), .int .i64 6] rfl km ?_; (with_reducible refine (xor_reader_take.calls kj3 gb162 t172 t173 t174 6 t175 t176 t177 false w _ ?side1 ?side2 A25.out).mono ?_); (case side1 => repeat (first | (with_reducible first | exact HI162.out | apply IsS99.alloc | apply IsS99.drewN | apply IsS99.drew | apply IsS99.set_1 | apply IsS99.set_2 | refine IsS99.far ?_ NB162_154.out _ | refine IsS99.far ?_ NB162_155.out _) | exact HI162.out)); (case side2 => repeat (first | (with_reducible first | exact HB.out | apply below_alloc | apply pw_below_drewN | apply below_drew1 | refine below_set ?_ (IsS99.ge HI162.out) | refine below_set ?_ GE154.out | refine below_set ?_ GE155.out) | exact HB.out)); rintro e w34 ⟨rfl, hi, hb, hk⟩; refine ⟨_, rfl, ?_⟩; replace BK154 := Aside0.mk (KeepBut.blk hk (g' := gb154) (o := .cells #[.int .u64 a0_0, .int .i64 a0_1, .int .i64 a0_2] 24 (0, 0)) (kb BK154) NB154_162.out (by simp)); replace BK155 := Aside0.mk (KeepBut.blk hk (g' := gb155) (o := .cells #[.int .u64 0, .int .i64 0, .int .i64 0] 24 (0, 0)) (kb BK155) NB155_162.out (by simp)); replace HB := Aside0.mk (hb); replace HI162 := Aside0.mk (hi); (try clear hb); (try clear hb2); (try clear hk); (try clear hi); obtain ⟨ASz35_0, cSz35_0, HGz35, hgz35, HSz35_0, HLSz35_0⟩ := HI162.out; have hcz35_0 := cellS99_0 HGz35; have hcz35_1 := cellS99_1 HGz35; have hcz35_2 := cellS99_2 HGz35; have hfz35_0 := blk_frozen HGz35 0; have hfz35_1 := blk_frozen HGz35 1; have hfz35_2 := blk_frozen HGz35 2; clear HGz35 hgz35) | (go_at_call 47; (with_reducible refine (xor_Get_1.calls 2 t179 t180 t181 t182 t183 t184 _ A31.out).mono ?_); rintro e w36 ⟨rfl, hb⟩; replace BK154 := kB BK154 hb; replace BK155 := kB BK155 hb; replace HB := Aside0.mk (below_step (IsS99.kl HB) hb); replace HI162 := Aside0.mk (IsS99.below (IsS99.k HI162) hb); (try clear hb); (try clear hb2); (try clear hk); (try clear hi); (try simp only [errW_none, errW_some]); have hnb37 := NB155_154.out; have hnc37 := NB154_155.out; have hnb38 := NB155_162.out; have hnc38 := NB162_155.out; have hcz39_0 : w36.cell? ⟨gb155, 0, none⟩ = some (.int .u64 0) := (blk_cell BK155.out 0).trans rfl; have hcz39_1 : w36.cell? ⟨gb155, 1, none⟩ = some (.int .i64 0) := (blk_cell BK155.out 1).trans rfl; have hcz39_2 : w36.cell? ⟨gb155, 2, none⟩ = some (.int .i64 0) := (blk_cell BK155.out 2).trans rfl; have hfz39_0 := blk_frozen BK155.out 0; have hfz39_1 := blk_frozen BK155.out 1; have hfz39_2 := blk_frozen BK155.out 2))
          refine bodyPost_ret (results_list (rs := [.tmp 6, .cell 7 24, .tmp 8, .tmp 9]) rfl (by simp) (.tmp (.cell gb155 24 #[.int .u64 t180, .int .i64 t181, .int .i64 t182] (0, 0) _ rfl (kb BK155) Tryd.underlying24 rfl (by kernel_rfl) (.tmp (.tmp .nil))))) rfl ?_
          exact ⟨by first | rfl | (simp [errW_none, errW_some] <;> rfl) | (simp [*, errW_none, errW_some] <;> rfl), by repeat (first | (with_reducible first | exact HB.out | apply below_alloc | apply pw_below_drewN | apply below_drew1 | refine below_set ?_ (IsS99.ge HI162.out) | refine below_set ?_ GE154.out | refine below_set ?_ GE155.out) | exact HB.out)⟩
        ·rw [if_neg c23] at H
         have c23b0 : (t167 == 1) = false := beq_eq_false_iff_ne.mpr c23
         have c23b1 : (t167 != 1) = true := bne_iff_ne.mpr c23
         (first | rw [c23b0] | (simp only [i64_w, i32_w]; rw [c23b0]) | skip)
         have H' := Aside0.mk H
         clear H
         obtain ⟨ASz40_0, cSz40_0, HGz40, hgz40, HSz40_0, HLSz40_0⟩ := HI162.out
         have hcz40_0 := cellS99_0 HGz40
         have hcz40_1 := cellS99_1 HGz40
         have hcz40_2 := cellS99_2 HGz40
         have hfz40_0 := blk_frozen HGz40 0
         have hfz40_1 := blk_frozen HGz40 1
         have hfz40_2 := blk_frozen HGz40 2
         clear HGz40 hgz40
         go_wp2
         go_meet
         case rel => exact ⟨_, (a0_1), (a0_2), ((t167 == 1)), (0), (0), (0), (t168), (t169), (true), (by first | rfl | (simp; done) | (simp [*]; done)), (by first | rfl | (simp; done) | (simp [*]; done)), (by first | rfl | (simp; done) | (simp [*]; done)), H', ⟨by have := HJ3.out; first | omega | exact Nat.le_refl _⟩, ⟨by (with_reducible repeat (first | refine blk_drewN ?_ _ | refine blk_drew ?_ | refine blk_alloc ?_ _)); exact BK154.out⟩, ⟨by (with_reducible repeat (first | refine blk_drewN ?_ _ | refine blk_drew ?_ | refine blk_alloc ?_ _)); exact BK155.out⟩, ⟨by repeat (first | (with_reducible first | exact HI162.out | apply IsS99.alloc | apply IsS99.drewN | apply IsS99.drew | apply IsS99.set_1 | apply IsS99.set_2 | refine IsS99.far ?_ NB162_154.out _ | refine IsS99.far ?_ NB162_155.out _) | exact HI162.out)⟩, ⟨by repeat (first | (with_reducible first | exact HB.out | apply below_alloc | apply pw_below_drewN | apply below_drew1 | refine below_set ?_ (IsS99.ge HI162.out) | refine below_set ?_ GE154.out | refine below_set ?_ GE155.out) | exact HB.out)⟩⟩
       ·replace c22 := Bool.eq_false_iff.mpr c22
        subst c22
        have H1 : ((xor_Get_1.f 2).bind fun bt185 => (some (bt185.1, bt185.2.1, bt185.2.2.1, bt185.2.2.2.1, bt185.2.2.2.2.1, bt185.2.2.2.2.2))) = some (r1, r2, r3, r4, r5, r6) := by rw [if_neg (show ¬ (false = true) by decide)] at H; exact H
        clear H
        have H := H1
        clear H1
        replace H := Option.bind_eq_some_iff.mp H
        obtain ⟨⟨t185, t186, t187, t188, t189, t190⟩, A410, H⟩ := H
        replace H : (some (t185, t186, t187, t188, t189, t190)) = some (r1, r2, r3, r4, r5, r6) := H
        have A41 := Aside0.mk A410
        clear A410
        simp only [Option.some.injEq, Prod.mk.injEq] at H
        obtain ⟨rfl, rfl, rfl, rfl, rfl, rfl⟩ := H
        obtain ⟨ASz42_0, cSz42_0, HGz42, hgz42, HSz42_0, HLSz42_0⟩ := HI162.out
        have hcz42_0 := cellS99_0 HGz42
        have hcz42_1 := cellS99_1 HGz42
        have hcz42_2 := cellS99_2 HGz42
        have hfz42_0 := blk_frozen HGz42 0
        have hfz42_1 := blk_frozen HGz42 1
        have hfz42_2 := blk_frozen HGz42 2
        clear HGz42 hgz42
        go_wp2_with (first | (go_at_call 47; (with_reducible refine (xor_Get_1.calls 2 t185 t186 t187 t188 t189 t190 _ A41.out).mono ?_); rintro e w43 ⟨rfl, hb⟩; replace BK154 := kB BK154 hb; replace BK155 := kB BK155 hb; replace HB := Aside0.mk (below_step (IsS99.kl HB) hb); replace HI162 := Aside0.mk (IsS99.below (IsS99.k HI162) hb); (try clear hb); (try clear hb2); (try clear hk); (try clear hi); (try simp only [errW_none, errW_some]); have hnb44 := NB155_154.out; have hnc44 := NB154_155.out; have hnb45 := NB155_162.out; have hnc45 := NB162_155.out; have hcz46_0 : w43.cell? ⟨gb155, 0, none⟩ = some (.int .u64 0) := (blk_cell BK155.out 0).trans rfl; have hcz46_1 : w43.cell? ⟨gb155, 1, none⟩ = some (.int .i64 0) := (blk_cell BK155.out 1).trans rfl; have hcz46_2 : w43.cell? ⟨gb155, 2, none⟩ = some (.int .i64 0) := (blk_cell BK155.out 2).trans rfl; have hfz46_0 := blk_frozen BK155.out 0; have hfz46_1 := blk_frozen BK155.out 1; have hfz46_2 := blk_frozen BK155.out 2))
        refine bodyPost_ret (results_list (rs := [.tmp 6, .cell 7 24, .tmp 8, .tmp 9]) rfl (by simp) (.tmp (.cell gb155 24 #[.int .u64 t186, .int .i64 t187, .int .i64 t188] (0, 0) _ rfl (kb BK155) Tryd.underlying24 rfl (by kernel_rfl) (.tmp (.tmp .nil))))) rfl ?_
        exact ⟨by first | rfl | (simp [errW_none, errW_some] <;> rfl) | (simp [*, errW_none, errW_some] <;> rfl), by repeat (first | (with_reducible first | exact HB.out | apply below_alloc | apply pw_below_drewN | apply below_drew1 | refine below_set ?_ (IsS99.ge HI162.out) | refine below_set ?_ GE154.out | refine below_set ?_ GE155.out) | exact HB.out)⟩
      case rest =>
       clear HC20
       try clear c1
       try clear c2
       try clear p2
       try clear c3
       try clear c4
       try clear p6
       try clear c7
       try clear c7b0
       try clear c8
       try clear c11
       try clear c16
       try clear c18
       try clear c18b0
       try clear c18b1
       try clear c22
       try clear c23
       try clear c23b0
       try clear c23b1
       try clear c26
       try clear c37
       try clear c38
       try clear c44
       try clear c45
       try clear hcz12_0
       try clear hcz12_1
       try clear hcz12_2
       try clear hcz27_0
       try clear hcz27_1
       try clear hcz27_2
       try clear hcz30_0
       try clear hcz30_1
       try clear hcz30_2
       try clear hcz32_0
       try clear hcz32_1
       try clear hcz32_2
       try clear hcz35_0
       try clear hcz35_1
       try clear hcz35_2
       try clear hcz39_0
       try clear hcz39_1
       try clear hcz39_2
       try clear hcz40_0
       try clear hcz40_1
       try clear hcz40_2
       try clear hcz42_0
       try clear hcz42_1
       try clear hcz42_2
       try clear hcz46_0
       try clear hcz46_1
       try clear hcz46_2
       try clear hfz12_0
       try clear hfz12_1
       try clear hfz12_2
       try clear hfz27_0
       try clear hfz27_1
       try clear hfz27_2
       try clear hfz30_0
       try clear hfz30_1
       try clear hfz30_2
       try clear hfz32_0
       try clear hfz32_1
       try clear hfz32_2
       try clear hfz35_0
       try clear hfz35_1
       try clear hfz35_2
       try clear hfz39_0
       try clear hfz39_1
       try clear hfz39_2
       try clear hfz40_0
       try clear hfz40_1
       try clear hfz40_2
       try clear hfz42_0
       try clear hfz42_1
       try clear hfz42_2
       try clear hfz46_0
       try clear hfz46_1
       try clear hfz46_2
       try clear p2
       try clear p6
       obtain ⟨kq, x12_19, x13_19, x15_19, x156000_19, x156001_19, x156002_19, x163000_19, x163001_19, x163002_19, rfl, rfl, rfl, HA, HJ19, BK154, BK155, HI162, HB⟩ := hcut
       cases kq with
       | zero => exact absurd HA.out (by simp [xor_Get.j1])
       | succ kj19 =>
        have H := HA.out
        clear HA
        simp only [xor_Get.j1] at H
        have HC47 := Aside0.mk H
        clear H
        go_upto_region 14 with (fail)
        go_cut [91] (fun v91 wc => ∃ (kq : Nat) (x91_46 : Bool), v91 = .bool x91_46 ∧ Aside0 (xor_Get.j2 kq l1 a2 x12_19 x13_19 x91_46 a0_0 a0_1 a0_2 x163000_19 x163001_19 x163002_19 = some (r1, r2, r3, r4, r5, r6)) ∧ Aside0 (kq ≤ kj19) ∧ Aside0 (wc.heap[gb154]? = some (.cells #[.int .u64 a0_0, .int .i64 a0_1, .int .i64 a0_2] 24 (0, 0))) ∧ Aside0 (wc.heap[gb155]? = some (.cells #[.int .u64 x156000_19, .int .i64 x156001_19, .int .i64 x156002_19] 24 (0, 0))) ∧ Aside0 (IsS99 w wc gb162 x163000_19 x163001_19 x163002_19) ∧ Aside0 (Below w.heap.size w wc))
        case first =>
         have H := HC47.out
         clear HC47
         by_cases c48 : x13_19 = 0
         ·rw [if_pos c48] at H
          have c48b0 : (x13_19 == 0) = true := beq_iff_eq.mpr c48
          have c48b1 : (x13_19 != 0) = false := bne_eq_false_iff_eq.mpr c48
          clear c48
          (first | rw [c48b0] | (simp only [i64_w, i32_w]; rw [c48b0]) | skip)
          have H' := Aside0.mk H
          clear H
          go_wp2
          go_meet
          case rel => exact ⟨_, (true), (by first | rfl | (simp; done) | (simp [*]; done)), H', ⟨by have := HJ3.out; have := HJ19.out; first | omega | exact Nat.le_refl _⟩, ⟨by (with_reducible repeat (first | refine blk_drewN ?_ _ | refine blk_drew ?_ | refine blk_alloc ?_ _)); exact BK154.out⟩, ⟨by (with_reducible repeat (first | refine blk_drewN ?_ _ | refine blk_drew ?_ | refine blk_alloc ?_ _)); exact BK155.out⟩, ⟨by repeat (first | (with_reducible first | exact HI162.out | apply IsS99.alloc | apply IsS99.drewN | apply IsS99.drew | apply IsS99.set_1 | apply IsS99.set_2 | refine IsS99.far ?_ NB162_154.out _ | refine IsS99.far ?_ NB162_155.out _) | exact HI162.out)⟩, ⟨by repeat (first | (with_reducible first | exact HB.out | apply below_alloc | apply pw_below_drewN | apply below_drew1 | refine below_set ?_ (IsS99.ge HI162.out) | refine below_set ?_ GE154.out | refine below_set ?_ GE155.out) | exact HB.out)⟩⟩
         ·rw [if_neg c48] at H
          have c48b0 : (x13_19 == 0) = false := beq_eq_false_iff_ne.mpr c48
          have c48b1 : (x13_19 != 0) = true := bne_iff_ne.mpr c48
          (first | rw [c48b0] | (simp only [i64_w, i32_w]; rw [c48b0]) | skip)
          have H' := Aside0.mk H
          clear H
          go_wp2
          go_meet
          case rel => exact ⟨_, (decide ((wrap64 (x12_19 + x13_19)) > 64)), (by first | rfl | (simp; done) | (simp [*]; done)), H', ⟨by have := HJ3.out; have := HJ19.out; first | omega | exact Nat.le_refl _⟩, ⟨by (with_reducible repeat (first | refine blk_drewN ?_ _ | refine blk_drew ?_ | refine blk_alloc ?_ _)); exact BK154.out⟩, ⟨by (with_reducible repeat (first | refine blk_drewN ?_ _ | refine blk_drew ?_ | refine blk_alloc ?_ _)); exact BK155.out⟩, ⟨by repeat (first | (with_reducible first | exact HI162.out | apply IsS99.alloc | apply IsS99.drewN | apply IsS99.drew | apply IsS99.set_1 | apply IsS99.set_2 | refine IsS99.far ?_ NB162_154.out _ | refine IsS99.far ?_ NB162_155.out _) | exact HI162.out)⟩, ⟨by repeat (first | (with_reducible first | exact HB.out | apply below_alloc | apply pw_below_drewN | apply below_drew1 | refine below_set ?_ (IsS99.ge HI162.out) | refine below_set ?_ GE154.out | refine below_set ?_ GE155.out) | exact HB.out)⟩⟩
        case rest =>
         clear HC47
         try clear c1
         try clear c2
         try clear p2
         try clear c3
         try clear c4
         try clear p6
         try clear c7
         try clear c7b0
         try clear c8
         try clear c11
         try clear c16
         try clear c18
         try clear c18b0
         try clear c18b1
         try clear c22
         try clear c23
         try clear c23b0
         try clear c23b1
         try clear c26
         try clear c37
         try clear c38
         try clear c44
         try clear c45
         try clear c48
         try clear c48b0
         try clear c48b1
         try clear hcz12_0
         try clear hcz12_1
         try clear hcz12_2
         try clear hcz27_0
         try clear hcz27_1
         try clear hcz27_2
         try clear hcz30_0
         try clear hcz30_1
         try clear hcz30_2
         try clear hcz32_0
         try clear hcz32_1
         try clear hcz32_2
         try clear hcz35_0
         try clear hcz35_1
         try clear hcz35_2
         try clear hcz39_0
         try clear hcz39_1
         try clear hcz39_2
         try clear hcz40_0
         try clear hcz40_1
         try clear hcz40_2
         try clear hcz42_0
         try clear hcz42_1
         try clear hcz42_2
         try clear hcz46_0
         try clear hcz46_1
         try clear hcz46_2
         try clear hfz12_0
         try clear hfz12_1
         try clear hfz12_2
         try clear hfz27_0
         try clear hfz27_1
         try clear hfz27_2
         try clear hfz30_0
         try clear hfz30_1
         try clear hfz30_2
         try clear hfz32_0
         try clear hfz32_1
         try clear hfz32_2
         try clear hfz35_0
         try clear hfz35_1
         try clear hfz35_2
         try clear hfz39_0
         try clear hfz39_1
         try clear hfz39_2
         try clear hfz40_0
         try clear hfz40_1
         try clear hfz40_2
         try clear hfz42_0
         try clear hfz42_1
         try clear hfz42_2
         try clear hfz46_0
         try clear hfz46_1
         try clear hfz46_2
         try clear p2
         try clear p6
         obtain ⟨kq, x91_46, rfl, HA, HJ46, BK154, BK155, HI162, HB⟩ := hcut
         cases kq with
         | zero => exact absurd HA.out (by simp [xor_Get.j2])
         | succ kj46 =>
          have H := HA.out
          clear HA
          simp only [xor_Get.j2] at H
          by_cases c49 : x91_46 = true
          ·subst c49
           have H1 : ((xor_Get_1.f 3).bind fun bt191 => (some (bt191.1, bt191.2.1, bt191.2.2.1, bt191.2.2.2.1, bt191.2.2.2.2.1, bt191.2.2.2.2.2))) = some (r1, r2, r3, r4, r5, r6) := by rw [if_pos rfl] at H; exact H
           clear H
           have H := H1
           clear H1
           replace H := Option.bind_eq_some_iff.mp H
           obtain ⟨⟨t191, t192, t193, t194, t195, t196⟩, A500, H⟩ := H
           replace H : (some (t191, t192, t193, t194, t195, t196)) = some (r1, r2, r3, r4, r5, r6) := H
           have A50 := Aside0.mk A500
           clear A500
           simp only [Option.some.injEq, Prod.mk.injEq] at H
           obtain ⟨rfl, rfl, rfl, rfl, rfl, rfl⟩ := H
           go_wp2_with (first | (go_at_call 47; (with_reducible refine (xor_Get_1.calls 3 t191 t192 t193 t194 t195 t196 _ A50.out).mono ?_); rintro e w51 ⟨rfl, hb⟩; replace BK154 := kB BK154 hb; replace BK155 := kB BK155 hb; replace HB := Aside0.mk (below_step (IsS99.kl HB) hb); replace HI162 := Aside0.mk (IsS99.below (IsS99.k HI162) hb); (try clear hb); (try clear hb2); (try clear hk); (try clear hi); (try simp only [errW_none, errW_some]); have hnb52 := NB155_154.out; have hnc52 := NB154_155.out; have hnb53 := NB155_162.out; have hnc53 := NB162_155.out; have hcz54_0 : w51.cell? ⟨gb155, 0, none⟩ = some (.int .u64 x156000_19) := (blk_cell BK155.out 0).trans rfl; have hcz54_1 : w51.cell? ⟨gb155, 1, none⟩ = some (.int .i64 x156001_19) := (blk_cell BK155.out 1).trans rfl; have hcz54_2 : w51.cell? ⟨gb155, 2, none⟩ = some (.int .i64 x156002_19) := (blk_cell BK155.out 2).trans rfl; have hfz54_0 := blk_frozen BK155.out 0; have hfz54_1 := blk_frozen BK155.out 1; have hfz54_2 := blk_frozen BK155.out 2))
           refine bodyPost_ret (results_list (rs := [.tmp 6, .cell 7 24, .tmp 8, .tmp 9]) rfl (by simp) (.tmp (.cell gb155 24 #[.int .u64 t192, .int .i64 t193, .int .i64 t194] (0, 0) _ rfl (kb BK155) Tryd.underlying24 rfl (by kernel_rfl) (.tmp (.tmp .nil))))) rfl ?_
           exact ⟨by first | rfl | (simp [errW_none, errW_some] <;> rfl) | (simp [*, errW_none, errW_some] <;> rfl), by repeat (first | (with_reducible first | exact HB.out | apply below_alloc | apply pw_below_drewN | apply below_drew1 | refine below_set ?_ (IsS99.ge HI162.out) | refine below_set ?_ GE154.out | refine below_set ?_ GE155.out) | exact HB.out)⟩
          ·replace c49 := Bool.eq_false_iff.mpr c49
           subst c49
           have H1 : ((xor_reader_take.f kj46 x163000_19 x163001_19 x163002_19 x13_19).bind fun bt197 => (if 0 ≤ (wrap64 ((wrap64 (64 - x12_19)) - x13_19)) then (xor_Get.j3 kj46 l1 a2 (shl .u64 bt197.1 (wrap64 ((wrap64 (64 - x12_19)) - x13_19))) a0_0 a0_1 a0_2 bt197.2.1 bt197.2.2.1 bt197.2.2.2) else (none))) = some (r1, r2, r3, r4, r5, r6) := by rw [if_neg (show ¬ (false = true) by decide)] at H; exact H
           clear H
           have H := H1
           clear H1
           replace H := Option.bind_eq_some_iff.mp H
           obtain ⟨⟨t197, t198, t199, t200⟩, A550, H⟩ := H
           replace H : (if 0 ≤ (wrap64 ((wrap64 (64 - x12_19)) - x13_19)) then (xor_Get.j3 kj46 l1 a2 (shl .u64 t197 (wrap64 ((wrap64 (64 - x12_19)) - x13_19))) a0_0 a0_1 a0_2 t198 t199 t200) else (none)) = some (r1, r2, r3, r4, r5, r6) := H
           have A55 := Aside0.mk A550
           clear A550
           obtain ⟨ji56, hji56⟩ : ∃ j_ : Int, (wrap64 ((wrap64 (64 - x12_19)) - x13_19)) = j_ := ⟨_, rfl⟩
           replace H : (if 0 ≤ (ji56) then (xor_Get.j3 kj46 l1 a2 (shl .u64 t197 (ji56)) a0_0 a0_1 a0_2 t198 t199 t200) else (none)) = some (r1, r2, r3, r4, r5, r6) := by first | (rw [hji56] at H; exact H) | (simp only [hji56] at H ⊢; exact H)
           (try rw [hji56] at A55)
           have hji56w : (IntKind.i64.wrap ((wrap64 (64 - x12_19)) - x13_19)) = ji56 := (i64_w _).trans hji56
           by_cases c57 : 0 ≤ (ji56)
           ·rw [if_pos c57] at H
            have c57b0 := eq_true c57
            have c57b1 : decide (0 ≤ (ji56)) = true := decide_eq_true c57
            clear c57
            obtain ⟨ji58, hji58⟩ : ∃ j_ : Int, (shl .u64 t197 (ji56)) = j_ := ⟨_, rfl⟩
            replace H : (xor_Get.j3 kj46 l1 a2 ji58 a0_0 a0_1 a0_2 t198 t199 t200) = some (r1, r2, r3, r4, r5, r6) := by first | (rw [hji58] at H; exact H) | (simp only [hji58] at H ⊢; exact H)
            (try rw [hji58] at A55)
            have hji58_ : (IntKind.u64.wrap (t197 * 2 ^ min (ji56).toNat 64)) = ji58 := hji58
            have hji58z : (ji56) ≤ 64 → (IntKind.u64.wrap (t197 * 2 ^ (ji56).toNat)) = ji58 := shl_small hji58
            have H' := Aside0.mk H
            clear H
            go_wp2_with (first | ((with_reducible refine gate_callee (f := 48) rfl ?_); refine goesL_ (some 100) rfl rfl Tryd.func48 (by kernel_rfl) rfl #[.pointer (some ⟨gb162, 0, none⟩), .int .i64 x13_19] rfl km ?_; (with_reducible refine (xor_reader_take.calls kj46 gb162 x163000_19 x163001_19 x163002_19 x13_19 t197 t198 t199 t200 w _ ?side1 ?side2 A55.out).mono ?_); (case side1 => repeat (first | (with_reducible first | exact HI162.out | apply IsS99.alloc | apply IsS99.drewN | apply IsS99.drew | apply IsS99.set_1 | apply IsS99.set_2 | refine IsS99.far ?_ NB162_154.out _ | refine IsS99.far ?_ NB162_155.out _) | exact HI162.out)); (case side2 => repeat (first | (with_reducible first | exact HB.out | apply below_alloc | apply pw_below_drewN | apply below_drew1 | refine below_set ?_ (IsS99.ge HI162.out) | refine below_set ?_ GE154.out | refine below_set ?_ GE155.out) | exact HB.out)); rintro e w59 ⟨rfl, hi, hb, hk⟩; refine ⟨_, rfl, ?_⟩; replace BK154 := Aside0.mk (KeepBut.blk hk (g' := gb154) (o := .cells #[.int .u64 a0_0, .int .i64 a0_1, .int .i64 a0_2] 24 (0, 0)) (kb BK154) NB154_162.out (by simp)); replace BK155 := Aside0.mk (KeepBut.blk hk (g' := gb155) (o := .cells #[.int .u64 x156000_19, .int .i64 x156001_19, .int .i64 x156002_19] 24 (0, 0)) (kb BK155) NB155_162.out (by simp)); replace HB := Aside0.mk (hb); replace HI162 := Aside0.mk (hi); (try clear hb); (try clear hb2); (try clear hk); (try clear hi)))
            go_meet
            case rel => exact ⟨_, (ji58), (x156000_19), (x156001_19), (x156002_19), (t198), (t199), (t200), (by first | rfl | (simp; done) | (simp only [← hji58] <;> (first | rfl | simp)) | (simp [*]; done)), H', ⟨by have := HJ3.out; have := HJ19.out; have := HJ46.out; first | omega | exact Nat.le_refl _⟩, ⟨by (with_reducible repeat (first | refine blk_drewN ?_ _ | refine blk_drew ?_ | refine blk_alloc ?_ _)); exact BK154.out⟩, ⟨by (with_reducible repeat (first | refine blk_drewN ?_ _ | refine blk_drew ?_ | refine blk_alloc ?_ _)); exact BK155.out⟩, ⟨by repeat (first | (with_reducible first | exact HI162.out | apply IsS99.alloc | apply IsS99.drewN | apply IsS99.drew | apply IsS99.set_1 | apply IsS99.set_2 | refine IsS99.far ?_ NB162_154.out _ | refine IsS99.far ?_ NB162_155.out _) | exact HI162.out)⟩, ⟨by repeat (first | (with_reducible first | exact HB.out | apply below_alloc | apply pw_below_drewN | apply below_drew1 | refine below_set ?_ (IsS99.ge HI162.out) | refine below_set ?_ GE154.out | refine below_set ?_ GE155.out) | exact HB.out)⟩⟩
           ·rw [if_neg c57] at H
            exact absurd H (by simp)
     ·rw [if_neg c18] at H
      have c18b0 : (t163 == 1) = false := beq_eq_false_iff_ne.mpr c18
      have c18b1 : (t163 != 1) = true := bne_iff_ne.mpr c18
      (first | rw [c18b0] | (simp only [i64_w, i32_w]; rw [c18b0]) | skip)
      have H' := Aside0.mk H
      clear H
      go_wp2
      go_meet
      case rel => exact ⟨_, (0), (0), (0), (0), (t164), (t165), (t166), (by first | rfl | (simp; done) | (simp [*]; done)), H', ⟨by have := HJ3.out; first | omega | exact Nat.le_refl _⟩, ⟨by (with_reducible repeat (first | refine blk_drewN ?_ _ | refine blk_drew ?_ | refine blk_alloc ?_ _)); exact BK154.out⟩, ⟨by (with_reducible repeat (first | refine blk_drewN ?_ _ | refine blk_drew ?_ | refine blk_alloc ?_ _)); exact BK155.out⟩, ⟨by repeat (first | (with_reducible first | exact HI162.out | apply IsS99.alloc | apply IsS99.drewN | apply IsS99.drew | apply IsS99.set_1 | apply IsS99.set_2 | refine IsS99.far ?_ NB162_154.out _ | refine IsS99.far ?_ NB162_155.out _) | exact HI162.out)⟩, ⟨by repeat (first | (with_reducible first | exact HB.out | apply below_alloc | apply pw_below_drewN | apply below_drew1 | refine below_set ?_ (IsS99.ge HI162.out) | refine below_set ?_ GE154.out | refine below_set ?_ GE155.out) | exact HB.out)⟩⟩
    case rest =>
     clear HC14
     try clear c1
     try clear c2
     try clear p2
     try clear c3
     try clear c4
     try clear c5
     try clear p6
     try clear c7
     try clear c7b0
     try clear c8
     try clear c11
     try clear c16
     try clear c18
     try clear c18b0
     try clear c18b1
     try clear c22
     try clear c23
     try clear c23b0
     try clear c23b1
     try clear c26
     try clear c37
     try clear c38
     try clear c44
     try clear c45
     try clear c48
     try clear c48b0
     try clear c48b1
     try clear c49
     try clear c52
     try clear c53
     try clear c57
     try clear c57b0
     try clear c57b1
     try clear hcz12_0
     try clear hcz12_1
     try clear hcz12_2
     try clear hcz27_0
     try clear hcz27_1
     try clear hcz27_2
     try clear hcz30_0
     try clear hcz30_1
     try clear hcz30_2
     try clear hcz32_0
     try clear hcz32_1
     try clear hcz32_2
     try clear hcz35_0
     try clear hcz35_1
     try clear hcz35_2
     try clear hcz39_0
     try clear hcz39_1
     try clear hcz39_2
     try clear hcz40_0
     try clear hcz40_1
     try clear hcz40_2
     try clear hcz42_0
     try clear hcz42_1
     try clear hcz42_2
     try clear hcz46_0
     try clear hcz46_1
     try clear hcz46_2
     try clear hcz54_0
     try clear hcz54_1
     try clear hcz54_2
     try clear hfz12_0
     try clear hfz12_1
     try clear hfz12_2
     try clear hfz27_0
     try clear hfz27_1
     try clear hfz27_2
     try clear hfz30_0
     try clear hfz30_1
     try clear hfz30_2
     try clear hfz32_0
     try clear hfz32_1
     try clear hfz32_2
     try clear hfz35_0
     try clear hfz35_1
     try clear hfz35_2
     try clear hfz39_0
     try clear hfz39_1
     try clear hfz39_2
     try clear hfz40_0
     try clear hfz40_1
     try clear hfz40_2
     try clear hfz42_0
     try clear hfz42_1
     try clear hfz42_2
     try clear hfz46_0
     try clear hfz46_1
     try clear hfz46_2
     try clear hfz54_0
     try clear hfz54_1
     try clear hfz54_2
     try clear p2
     try clear p6
     obtain ⟨kq, x14_13, x156000_13, x156001_13, x156002_13, x163000_13, x163001_13, x163002_13, rfl, HA, HJ13, BK154, BK155, HI162, HB⟩ := hcut
     cases kq with
     | zero => exact absurd HA.out (by simp [xor_Get.j3])
     | succ kj13 =>
      have H := HA.out
      clear HA
      simp only [xor_Get.j3] at H
      by_cases c60 : x163002_13 = true
      ·subst c60
       have H1 : ((xor_Code.f kj13 a0_0 a0_1 a0_2 (Go.bits .xor .u64 a0_0 x14_13)).bind fun bt207 => ((bits_Take.f kj13 l1 a2 (mn bt207.2.1 64)).bind fun bt216 => ((bits_Take.f kj13 bt207.1 0 (mn bt207.2.1 64)).bind fun bt218 => (if bt207.2.1 = (wrap64 (x163001_13 - a2)) then (if bt216.1 = bt218.1 then (some (Go.bits .xor .u64 a0_0 x14_13, bt207.2.2.1, bt207.2.2.2.1, bt207.2.2.2.2, bt207.2.1, none)) else ((xor_Get_1.f 3).bind fun bt220 => (some (bt220.1, bt220.2.1, bt220.2.2.1, bt220.2.2.2.1, bt220.2.2.2.2.1, bt220.2.2.2.2.2)))) else ((xor_Get_1.f 3).bind fun bt226 => (some (bt226.1, bt226.2.1, bt226.2.2.1, bt226.2.2.2.1, bt226.2.2.2.2.1, bt226.2.2.2.2.2))))))) = some (r1, r2, r3, r4, r5, r6) := by rw [if_pos rfl] at H; exact H
       clear H
       have H := H1
       clear H1
       replace H := Option.bind_eq_some_iff.mp H
       obtain ⟨⟨t207, t210, t211, t212, t213⟩, A610, H⟩ := H
       replace H : ((bits_Take.f kj13 l1 a2 (mn t210 64)).bind fun bt216 => ((bits_Take.f kj13 t207 0 (mn t210 64)).bind fun bt218 => (if t210 = (wrap64 (x163001_13 - a2)) then (if bt216.1 = bt218.1 then (some (Go.bits .xor .u64 a0_0 x14_13, t211, t212, t213, t210, none)) else ((xor_Get_1.f 3).bind fun bt220 => (some (bt220.1, bt220.2.1, bt220.2.2.1, bt220.2.2.2.1, bt220.2.2.2.2.1, bt220.2.2.2.2.2)))) else ((xor_Get_1.f 3).bind fun bt226 => (some (bt226.1, bt226.2.1, bt226.2.2.1, bt226.2.2.2.1, bt226.2.2.2.2.1, bt226.2.2.2.2.2)))))) = some (r1, r2, r3, r4, r5, r6) := H
       have A61 := Aside0.mk A610
       clear A610
       obtain ⟨ji62, hji62⟩ : ∃ j_ : Int, (mn t210 64) = j_ := ⟨_, rfl⟩
       replace H : ((bits_Take.f kj13 l1 a2 (ji62)).bind fun bt216 => ((bits_Take.f kj13 t207 0 (ji62)).bind fun bt218 => (if t210 = (wrap64 (x163001_13 - a2)) then (if bt216.1 = bt218.1 then (some (Go.bits .xor .u64 a0_0 x14_13, t211, t212, t213, t210, none)) else ((xor_Get_1.f 3).bind fun bt220 => (some (bt220.1, bt220.2.1, bt220.2.2.1, bt220.2.2.2.1, bt220.2.2.2.2.1, bt220.2.2.2.2.2)))) else ((xor_Get_1.f 3).bind fun bt226 => (some (bt226.1, bt226.2.1, bt226.2.2.1, bt226.2.2.2.1, bt226.2.2.2.2.1, bt226.2.2.2.2.2)))))) = some (r1, r2, r3, r4, r5, r6) := by first | (rw [hji62] at H; exact H) | (simp only [hji62] at H ⊢; exact H)
       (try rw [hji62] at A61)
       (try (have hji62h : ji62 ≤ 64 := by (rw [← hji62]; unfold mn; (repeat' split) <;> omega)))
       (try (have hji62g : ji62 ≤ 64 := by omega))
       have hji62_ : (if 64 < t210 then 64 else t210) = ji62 := hji62
       (try (have hji62n := hji62_; simp only [Int.ofNat_lt] at hji62n))
       replace H := Option.bind_eq_some_iff.mp H
       obtain ⟨⟨t216, t217⟩, A630, H⟩ := H
       replace H : ((bits_Take.f kj13 t207 0 (ji62)).bind fun bt218 => (if t210 = (wrap64 (x163001_13 - a2)) then (if t216 = bt218.1 then (some (Go.bits .xor .u64 a0_0 x14_13, t211, t212, t213, t210, none)) else ((xor_Get_1.f 3).bind fun bt220 => (some (bt220.1, bt220.2.1, bt220.2.2.1, bt220.2.2.2.1, bt220.2.2.2.2.1, bt220.2.2.2.2.2)))) else ((xor_Get_1.f 3).bind fun bt226 => (some (bt226.1, bt226.2.1, bt226.2.2.1, bt226.2.2.2.1, bt226.2.2.2.2.1, bt226.2.2.2.2.2))))) = some (r1, r2, r3, r4, r5, r6) := H
       have A63 := Aside0.mk A630
       clear A630
       replace H := Option.bind_eq_some_iff.mp H
       obtain ⟨⟨t218, t219⟩, A640, H⟩ := H
       replace H : (if t210 = (wrap64 (x163001_13 - a2)) then (if t216 = t218 then (some (Go.bits .xor .u64 a0_0 x14_13, t211, t212, t213, t210, none)) else ((xor_Get_1.f 3).bind fun bt220 => (some (bt220.1, bt220.2.1, bt220.2.2.1, bt220.2.2.2.1, bt220.2.2.2.2.1, bt220.2.2.2.2.2)))) else ((xor_Get_1.f 3).bind fun bt226 => (some (bt226.1, bt226.2.1, bt226.2.2.1, bt226.2.2.2.1, bt226.2.2.2.2.1, bt226.2.2.2.2.2)))) = some (r1, r2, r3, r4, r5, r6) := H
       have A64 := Aside0.mk A640
       clear A640
       by_cases c65 : t210 = (wrap64 (x163001_13 - a2))
       ·rw [if_pos c65] at H
        have c65b0 : (t210 == (wrap64 (x163001_13 - a2))) = true := beq_iff_eq.mpr c65
        have c65b1 : (t210 != (wrap64 (x163001_13 - a2))) = false := bne_eq_false_iff_eq.mpr c65
        clear c65
        by_cases c66 : t216 = t218
        ·rw [if_pos c66] at H
         have c66b0 : (t216 == t218) = true := beq_iff_eq.mpr c66
         have c66b1 : (t216 != t218) = false := bne_eq_false_iff_eq.mpr c66
         clear c66
         simp only [Option.some.injEq, Prod.mk.injEq] at H
         obtain ⟨rfl, rfl, rfl, rfl, rfl, rfl⟩ := H
         obtain ⟨ASz67_0, cSz67_0, HGz67, hgz67, HSz67_0, HLSz67_0⟩ := HI162.out
         have hcz67_0 := cellS99_0 HGz67
         have hcz67_1 := cellS99_1 HGz67
         have hcz67_2 := cellS99_2 HGz67
         have hfz67_0 := blk_frozen HGz67 0
         have hfz67_1 := blk_frozen HGz67 1
         have hfz67_2 := blk_frozen HGz67 2
         clear HGz67 hgz67
         have hnb68 := NB154_155.out
         have hnc68 := NB155_154.out
         have hnb69 := NB154_162.out
         have hnc69 := NB162_154.out
         obtain ⟨hcz70_0, hcz70_1, hcz70_2⟩ := kc3 BK154
         obtain ⟨hfz70_0, hfz70_1, hfz70_2⟩ := kf3 BK154
         try go_wp2_with (first | ((with_reducible refine gate_callee (f := 14) rfl ?_); refine goesL_ (some 124) rfl rfl Tryd.func14 (by kernel_rfl) rfl #[.agg #[.int .u64 a0_0, .int .i64 a0_1, .int .i64 a0_2], .int .u64 (Go.bits .xor .u64 a0_0 x14_13)] rfl km ?_; (with_reducible refine (xor_Code.calls kj13 a0_0 a0_1 a0_2 (Go.bits .xor .u64 a0_0 x14_13) t207 t210 t211 t212 t213 _ ?side1 A61.out).mono ?_); (case side1 => exact TabOk.below HT.out (IsS99.kl HB) (Nat.le_refl _)); rintro e w71 ⟨v208, rfl, ho0, hb⟩; refine ⟨_, rfl, ?_⟩; have HO209 := Aside0.mk (Kd.R_lower ho0 (below_size (IsS99.kl HB))); replace BK154 := kB BK154 hb; replace BK155 := kB BK155 hb; replace HB := Aside0.mk (below_step (IsS99.kl HB) hb); replace HI162 := Aside0.mk (IsS99.below (IsS99.k HI162) hb); (try clear hb); (try clear hb2); (try clear hk); (try clear hi); (try clear ho0)) | ((with_reducible refine gate_dst (N := 17) rfl ?_); (try (refine gate_guard (by rfl) ?_; dsimp only)); refine box_event ?hg (N := 17) ?hd (cs := #[.slice none 0 0, .int .i64 0]) (t := 31) ?hr ?_; (case hd => rfl); (case hg => rfl); (case hr => first | (go_simp; done) | (go_simp; rfl)); intro gb214 hg w72 hbox hb; replace HO209 := Aside0.mk (Kd.R_below (kr HO209) hb); have BK214 := Aside0.mk (hbox); have GW214 := Aside0.mk ((by rw [hg]; exact (below_size (IsS99.kl HB)) : w.heap.size ≤ gb214)); have GE214 := Aside0.mk ((by rw [hg]; exact (below_size (IsS99.kl HB)) : w.heap.size ≤ gb214)); replace HB := Aside0.mk (below_step (IsS99.kl HB) hb); obtain ⟨NB154_214, NB214_154⟩ := kN hg BK154; replace BK154 := kB BK154 hb; obtain ⟨NB155_214, NB214_155⟩ := kN hg BK155; replace BK155 := kB BK155 hb; have NB162_214 := Aside0.mk ((by rw [hg]; exact Nat.ne_of_lt (IsS99.lt (show IsS99 w _ gb162 x163000_13 x163001_13 true from by repeat (first | (with_reducible first | exact HI162.out | apply IsS99.alloc | apply IsS99.drewN | apply IsS99.drew | apply IsS99.set_1 | apply IsS99.set_2 | refine IsS99.far ?_ NB162_154.out _ | refine IsS99.far ?_ NB162_155.out _) | exact HI162.out))) : gb162 ≠ gb214)); have NB214_162 := Aside0.mk ((by rw [hg]; exact Nat.ne_of_gt (IsS99.lt (show IsS99 w _ gb162 x163000_13 x163001_13 true from by repeat (first | (with_reducible first | exact HI162.out | apply IsS99.alloc | apply IsS99.drewN | apply IsS99.drew | apply IsS99.set_1 | apply IsS99.set_2 | refine IsS99.far ?_ NB162_154.out _ | refine IsS99.far ?_ NB162_155.out _) | exact HI162.out))) : gb214 ≠ gb162)); replace HI162 := Aside0.mk (IsS99.below (IsS99.k HI162) hb); clear hb hbox hg) | ((with_reducible refine gate_dst (N := 18) rfl ?_); (try (refine gate_guard (by rfl) ?_; dsimp only)); refine box_event ?hg (N := 18) ?hd (cs := #[.int .u64 0, .int .i64 0, .int .i64 0]) (t := 24) ?hr ?_; (case hd => rfl); (case hg => rfl); (case hr => first | (go_simp; done) | (go_simp; rfl)); intro gb215 hg w73 hbox hb; replace HO209 := Aside0.mk (Kd.R_below (kr HO209) hb); have BK215 := Aside0.mk (hbox); have GW215 := Aside0.mk ((by rw [hg]; exact (below_size (IsS99.kl HB)) : w.heap.size ≤ gb215)); have GE215 := Aside0.mk ((by rw [hg]; exact (below_size (IsS99.kl HB)) : w.heap.size ≤ gb215)); replace HB := Aside0.mk (below_step (IsS99.kl HB) hb); obtain ⟨NB154_215, NB215_154⟩ := kN hg BK154; replace BK154 := kB BK154 hb; obtain ⟨NB155_215, NB215_155⟩ := kN hg BK155; replace BK155 := kB BK155 hb; obtain ⟨NB214_215, NB215_214⟩ := kN hg BK214; replace BK214 := kB BK214 hb; have NB162_215 := Aside0.mk ((by rw [hg]; exact Nat.ne_of_lt (IsS99.lt (show IsS99 w _ gb162 x163000_13 x163001_13 true from by repeat (first | (with_reducible first | exact HI162.out | apply IsS99.alloc | apply IsS99.drewN | apply IsS99.drew | apply IsS99.set_1 | apply IsS99.set_2 | refine IsS99.far ?_ NB162_154.out _ | refine IsS99.far ?_ NB162_155.out _ | refine IsS99.far ?_ NB162_214.out _) | exact HI162.out))) : gb162 ≠ gb215)); have NB215_162 := Aside0.mk ((by rw [hg]; exact Nat.ne_of_gt (IsS99.lt (show IsS99 w _ gb162 x163000_13 x163001_13 true from by repeat (first | (with_reducible first | exact HI162.out | apply IsS99.alloc | apply IsS99.drewN | apply IsS99.drew | apply IsS99.set_1 | apply IsS99.set_2 | refine IsS99.far ?_ NB162_154.out _ | refine IsS99.far ?_ NB162_155.out _ | refine IsS99.far ?_ NB162_214.out _) | exact HI162.out))) : gb215 ≠ gb162)); replace HI162 := Aside0.mk (IsS99.below (IsS99.k HI162) hb); clear hb hbox hg; obtain ⟨Ao74, co74, eo74⟩ := Kd.R_slice HO209.out; subst eo74; have hnb75 := NB214_154.out; have hnc75 := NB154_214.out; have hnb76 := NB214_155.out; have hnc76 := NB155_214.out; have hnb77 := NB214_215.out; have hnc77 := NB215_214.out; have hnb78 := NB214_162.out; have hnc78 := NB162_214.out; have hcz79_0 : w73.cell? ⟨gb214, 0, none⟩ = some (.slice none 0 0) := (blk_cell BK214.out 0).trans rfl; have hcz79_1 : w73.cell? ⟨gb214, 1, none⟩ = some (.int .i64 0) := (blk_cell BK214.out 1).trans rfl; have hfz79_0 := blk_frozen BK214.out 0; have hfz79_1 := blk_frozen BK214.out 1; have hnb80 := NB215_154.out; have hnc80 := NB154_215.out; have hnb81 := NB215_155.out; have hnc81 := NB155_215.out; have hnb82 := NB215_162.out; have hnc82 := NB162_215.out; have hcz83_0 : w73.cell? ⟨gb215, 0, none⟩ = some (.int .u64 0) := (blk_cell BK215.out 0).trans rfl; have hcz83_1 : w73.cell? ⟨gb215, 1, none⟩ = some (.int .i64 0) := (blk_cell BK215.out 1).trans rfl; have hcz83_2 : w73.cell? ⟨gb215, 2, none⟩ = some (.int .i64 0) := (blk_cell BK215.out 2).trans rfl; have hfz83_0 := blk_frozen BK215.out 0; have hfz83_1 := blk_frozen BK215.out 1; have hfz83_2 := blk_frozen BK215.out 2) | ((with_reducible refine gate_callee (f := 49) rfl ?_); refine goesL_ (some 133) rfl rfl Tryd.func49 (by kernel_rfl) rfl #[.slice A1 l1.length c1, .int .i64 a2, .int .i64 ji62] rfl (by (try simp only [List.map_toArray, List.map_cons, List.map_nil]); first | done | (simp only [hji62]; rfl) | rfl | (simp only [List.length_drop, List.length_take]; rfl)) ?_; (with_reducible refine (bits_Take.calls kj13 _ _ l1 a2 ji62 t216 t217 _ ?side1 ?side2 A63.out).mono ?_); (case side1 => exact Kd.C_below HR1.out (IsS99.kl HB)); (case side2 => exact HC1.out); rintro e w' ⟨rfl, ⟨nd, rfl⟩⟩; refine ⟨_, rfl, ?_⟩) | ((with_reducible refine gate_callee (f := 49) rfl ?_); refine goesL_ (some 142) rfl rfl Tryd.func49 (by kernel_rfl) rfl #[.slice Ao74 t207.length co74, .int .i64 0, .int .i64 ji62] rfl (by (try simp only [List.map_toArray, List.map_cons, List.map_nil]); first | done | (simp only [hji62]; rfl) | rfl | (simp only [List.length_drop, List.length_take]; rfl)) ?_; (with_reducible refine (bits_Take.calls kj13 _ _ t207 0 ji62 t218 t219 _ ?side1 ?side2 A64.out).mono ?_); (case side1 => refine (Kd.R_reads' (e := 5) (base := w.heap.size) (ok := fun k_ => True) (n := t207.length) (c := co74) ?_).2.2; exact (by (with_reducible repeat (first | apply Kd.R_alloc | apply Kd.R_drewN | apply Kd.R_drew)); exact (Kd.R_mono (Kd.R_mono (Kd.R_far (p := ⟨gb215, 2, none⟩) (Kd.R_far (p := ⟨gb215, 1, none⟩) (Kd.R_far (p := ⟨gb215, 0, none⟩) (Kd.R_far (p := ⟨gb214, 1, none⟩) (Kd.R_far (p := ⟨gb214, 0, none⟩) (Kd.R_types (Kd.R_types HO209.out BK214.out (by decide)) BK215.out (by decide)) (fun _ hk => hk.1.2) (.slice Ao74 t207.length co74)) (fun _ hk => hk.1.2) (.int .i64 t210)) (fun _ hk => hk.2) (.int .u64 t211)) (fun _ hk => hk.2) (.int .i64 t212)) (fun _ hk => hk.2) (.int .i64 t213)) (fun _ h_ => h_.1)) (fun _ h_ => h_.1)))); (case side2 => exact (Kd.R_reads' HO209.out).2.1); rintro e w' ⟨rfl, ⟨nd, rfl⟩⟩; refine ⟨_, rfl, ?_⟩; obtain ⟨AU162_0, cU162_0, hbU162, hgU162, hrU162_0, hlU162_0⟩ := HI162.out; have BK162 := Aside0.mk hbU162; have HRU162_0 := Aside0.mk hrU162_0; have HCU162_0 := Aside0.mk hlU162_0; clear hbU162 hgU162 hrU162_0 hlU162_0 HI162))
         have n0_ : Aside0 (Kd.R (Kd.int .u8) 5 (((((w73.setCell ⟨gb214, 0, none⟩ (.slice Ao74 t207.length co74)).setCell ⟨gb214, 1, none⟩ (.int .i64 t210)).setCell ⟨gb215, 0, none⟩ (.int .u64 t211)).setCell ⟨gb215, 1, none⟩ (.int .i64 t212)).setCell ⟨gb215, 2, none⟩ (.int .i64 t213)) w.heap.size (fun _ => True) (.slice Ao74 t207.length co74) t207) := ⟨by (with_reducible repeat (first | apply Kd.R_alloc | apply Kd.R_drewN | apply Kd.R_drew)); exact Kd.R_mono (Kd.R_far (p := ⟨gb215, 2, none⟩) (Kd.R_far (p := ⟨gb215, 1, none⟩) (Kd.R_far (p := ⟨gb215, 0, none⟩) (Kd.R_far (p := ⟨gb214, 1, none⟩) (Kd.R_far (p := ⟨gb214, 0, none⟩) (Kd.R_types (Kd.R_types HO209.out BK214.out (by decide)) BK215.out (by decide)) (fun _ hk => hk.1.2) (.slice Ao74 t207.length co74)) (fun _ hk => hk.1.2) (.int .i64 t210)) (fun _ hk => hk.2) (.int .u64 t211)) (fun _ hk => hk.2) (.int .i64 t212)) (fun _ hk => hk.2) (.int .i64 t213)) (fun _ hk => trivial)⟩
         have n1_ : Aside0 ((((((w73.setCell ⟨gb214, 0, none⟩ (.slice Ao74 t207.length co74)).setCell ⟨gb214, 1, none⟩ (.int .i64 t210)).setCell ⟨gb215, 0, none⟩ (.int .u64 t211)).setCell ⟨gb215, 1, none⟩ (.int .i64 t212)).setCell ⟨gb215, 2, none⟩ (.int .i64 t213)).heap[gb154]? = some (.cells #[.int .u64 a0_0, .int .i64 a0_1, .int .i64 a0_2] 24 (0, 0))) := ⟨by (with_reducible repeat (first | refine blk_drewN ?_ _ | refine blk_drew ?_ | refine blk_alloc ?_ _)); refine blk_far ?_ NB154_215.out _; (with_reducible repeat (first | refine blk_drewN ?_ _ | refine blk_drew ?_ | refine blk_alloc ?_ _)); refine blk_far ?_ NB154_215.out _; (with_reducible repeat (first | refine blk_drewN ?_ _ | refine blk_drew ?_ | refine blk_alloc ?_ _)); refine blk_far ?_ NB154_215.out _; (with_reducible repeat (first | refine blk_drewN ?_ _ | refine blk_drew ?_ | refine blk_alloc ?_ _)); refine blk_far ?_ NB154_214.out _; (with_reducible repeat (first | refine blk_drewN ?_ _ | refine blk_drew ?_ | refine blk_alloc ?_ _)); refine blk_far ?_ NB154_214.out _; (with_reducible repeat (first | refine blk_drewN ?_ _ | refine blk_drew ?_ | refine blk_alloc ?_ _)); exact BK154.out⟩
         have n2_ : Aside0 ((((((w73.setCell ⟨gb214, 0, none⟩ (.slice Ao74 t207.length co74)).setCell ⟨gb214, 1, none⟩ (.int .i64 t210)).setCell ⟨gb215, 0, none⟩ (.int .u64 t211)).setCell ⟨gb215, 1, none⟩ (.int .i64 t212)).setCell ⟨gb215, 2, none⟩ (.int .i64 t213)).heap[gb155]? = some (.cells #[.int .u64 x156000_13, .int .i64 x156001_13, .int .i64 x156002_13] 24 (0, 0))) := ⟨by (with_reducible repeat (first | refine blk_drewN ?_ _ | refine blk_drew ?_ | refine blk_alloc ?_ _)); refine blk_far ?_ NB155_215.out _; (with_reducible repeat (first | refine blk_drewN ?_ _ | refine blk_drew ?_ | refine blk_alloc ?_ _)); refine blk_far ?_ NB155_215.out _; (with_reducible repeat (first | refine blk_drewN ?_ _ | refine blk_drew ?_ | refine blk_alloc ?_ _)); refine blk_far ?_ NB155_215.out _; (with_reducible repeat (first | refine blk_drewN ?_ _ | refine blk_drew ?_ | refine blk_alloc ?_ _)); refine blk_far ?_ NB155_214.out _; (with_reducible repeat (first | refine blk_drewN ?_ _ | refine blk_drew ?_ | refine blk_alloc ?_ _)); refine blk_far ?_ NB155_214.out _; (with_reducible repeat (first | refine blk_drewN ?_ _ | refine blk_drew ?_ | refine blk_alloc ?_ _)); exact BK155.out⟩
         have n3_ : Aside0 ((((((w73.setCell ⟨gb214, 0, none⟩ (.slice Ao74 t207.length co74)).setCell ⟨gb214, 1, none⟩ (.int .i64 t210)).setCell ⟨gb215, 0, none⟩ (.int .u64 t211)).setCell ⟨gb215, 1, none⟩ (.int .i64 t212)).setCell ⟨gb215, 2, none⟩ (.int .i64 t213)).heap[gb162]? = some (.cells #[.slice AU162_0 x163000_13.length cU162_0, .int .i64 x163001_13, .bool true] 99 (0, 0))) := ⟨by (with_reducible repeat (first | refine blk_drewN ?_ _ | refine blk_drew ?_ | refine blk_alloc ?_ _)); refine blk_far ?_ NB162_215.out _; (with_reducible repeat (first | refine blk_drewN ?_ _ | refine blk_drew ?_ | refine blk_alloc ?_ _)); refine blk_far ?_ NB162_215.out _; (with_reducible repeat (first | refine blk_drewN ?_ _ | refine blk_drew ?_ | refine blk_alloc ?_ _)); refine blk_far ?_ NB162_215.out _; (with_reducible repeat (first | refine blk_drewN ?_ _ | refine blk_drew ?_ | refine blk_alloc ?_ _)); refine blk_far ?_ NB162_214.out _; (with_reducible repeat (first | refine blk_drewN ?_ _ | refine blk_drew ?_ | refine blk_alloc ?_ _)); refine blk_far ?_ NB162_214.out _; (with_reducible repeat (first | refine blk_drewN ?_ _ | refine blk_drew ?_ | refine blk_alloc ?_ _)); exact BK162.out⟩
         have n4_ : Aside0 ((((((w73.setCell ⟨gb214, 0, none⟩ (.slice Ao74 t207.length co74)).setCell ⟨gb214, 1, none⟩ (.int .i64 t210)).setCell ⟨gb215, 0, none⟩ (.int .u64 t211)).setCell ⟨gb215, 1, none⟩ (.int .i64 t212)).setCell ⟨gb215, 2, none⟩ (.int .i64 t213)).heap[gb214]? = some (.cells #[.slice Ao74 t207.length co74, .int .i64 t210] 31 (0, 0))) := ⟨by (with_reducible repeat (first | refine blk_drewN ?_ _ | refine blk_drew ?_ | refine blk_alloc ?_ _)); refine blk_far ?_ NB214_215.out _; (with_reducible repeat (first | refine blk_drewN ?_ _ | refine blk_drew ?_ | refine blk_alloc ?_ _)); refine blk_far ?_ NB214_215.out _; (with_reducible repeat (first | refine blk_drewN ?_ _ | refine blk_drew ?_ | refine blk_alloc ?_ _)); refine blk_far ?_ NB214_215.out _; (with_reducible repeat (first | refine blk_drewN ?_ _ | refine blk_drew ?_ | refine blk_alloc ?_ _)); refine blk_put (cs := #[.slice Ao74 t207.length co74, .int .i64 0]) ?_ 1 _ rfl; (with_reducible repeat (first | refine blk_drewN ?_ _ | refine blk_drew ?_ | refine blk_alloc ?_ _)); refine blk_put (cs := #[.slice none 0 0, .int .i64 0]) ?_ 0 _ rfl; (with_reducible repeat (first | refine blk_drewN ?_ _ | refine blk_drew ?_ | refine blk_alloc ?_ _)); exact BK214.out⟩
         have n5_ : Aside0 ((((((w73.setCell ⟨gb214, 0, none⟩ (.slice Ao74 t207.length co74)).setCell ⟨gb214, 1, none⟩ (.int .i64 t210)).setCell ⟨gb215, 0, none⟩ (.int .u64 t211)).setCell ⟨gb215, 1, none⟩ (.int .i64 t212)).setCell ⟨gb215, 2, none⟩ (.int .i64 t213)).heap[gb215]? = some (.cells #[.int .u64 t211, .int .i64 t212, .int .i64 t213] 24 (0, 0))) := ⟨by (with_reducible repeat (first | refine blk_drewN ?_ _ | refine blk_drew ?_ | refine blk_alloc ?_ _)); refine blk_put (cs := #[.int .u64 t211, .int .i64 t212, .int .i64 0]) ?_ 2 _ rfl; (with_reducible repeat (first | refine blk_drewN ?_ _ | refine blk_drew ?_ | refine blk_alloc ?_ _)); refine blk_put (cs := #[.int .u64 t211, .int .i64 0, .int .i64 0]) ?_ 1 _ rfl; (with_reducible repeat (first | refine blk_drewN ?_ _ | refine blk_drew ?_ | refine blk_alloc ?_ _)); refine blk_put (cs := #[.int .u64 0, .int .i64 0, .int .i64 0]) ?_ 0 _ rfl; (with_reducible repeat (first | refine blk_drewN ?_ _ | refine blk_drew ?_ | refine blk_alloc ?_ _)); refine blk_far ?_ NB215_214.out _; (with_reducible repeat (first | refine blk_drewN ?_ _ | refine blk_drew ?_ | refine blk_alloc ?_ _)); refine blk_far ?_ NB215_214.out _; (with_reducible repeat (first | refine blk_drewN ?_ _ | refine blk_drew ?_ | refine blk_alloc ?_ _)); exact BK215.out⟩
         have n6_ : Aside0 (Below w.heap.size w (((((w73.setCell ⟨gb214, 0, none⟩ (.slice Ao74 t207.length co74)).setCell ⟨gb214, 1, none⟩ (.int .i64 t210)).setCell ⟨gb215, 0, none⟩ (.int .u64 t211)).setCell ⟨gb215, 1, none⟩ (.int .i64 t212)).setCell ⟨gb215, 2, none⟩ (.int .i64 t213))) := ⟨by repeat (first | (with_reducible first | exact HB.out | apply below_alloc | apply pw_below_drewN | apply below_drew1 | refine below_set ?_ GE154.out | refine below_set ?_ GE155.out | refine below_set ?_ GE162.out | refine below_set ?_ GE214.out | refine below_set ?_ GE215.out) | exact HB.out)⟩
         (try clear HO209)
         (try clear BK154)
         (try clear BK155)
         (try clear BK162)
         (try clear BK214)
         (try clear BK215)
         (try clear HB)
         generalize (((((w73.setCell ⟨gb214, 0, none⟩ (.slice Ao74 t207.length co74)).setCell ⟨gb214, 1, none⟩ (.int .i64 t210)).setCell ⟨gb215, 0, none⟩ (.int .u64 t211)).setCell ⟨gb215, 1, none⟩ (.int .i64 t212)).setCell ⟨gb215, 2, none⟩ (.int .i64 t213)) = w84 at n0_ n1_ n2_ n3_ n4_ n5_ n6_ ⊢
         have HO209 := n0_
         have BK154 := n1_
         have BK155 := n2_
         have BK162 := n3_
         have BK214 := n4_
         have BK215 := n5_
         have HB := n6_
         clear n0_ n1_ n2_ n3_ n4_ n5_ n6_
         (try (rw [drewN_self w84]; generalize hq_ : World.drewN w84 _ = w84; have n0_ : Aside0 (Kd.R (Kd.int .u8) 5 w84 w.heap.size (fun _ => True) (.slice Ao74 t207.length co74) t207) := ⟨by rw [← hq_]; exact (kr HO209)⟩; have n1_ : Aside0 (w84.heap[gb154]? = some (.cells #[.int .u64 a0_0, .int .i64 a0_1, .int .i64 a0_2] 24 (0, 0))) := ⟨by rw [← hq_]; exact (kb BK154)⟩; have n2_ : Aside0 (w84.heap[gb155]? = some (.cells #[.int .u64 x156000_13, .int .i64 x156001_13, .int .i64 x156002_13] 24 (0, 0))) := ⟨by rw [← hq_]; exact (kb BK155)⟩; have n3_ : Aside0 (w84.heap[gb162]? = some (.cells #[.slice AU162_0 x163000_13.length cU162_0, .int .i64 x163001_13, .bool true] 99 (0, 0))) := ⟨by rw [← hq_]; exact (kb BK162)⟩; have n4_ : Aside0 (w84.heap[gb214]? = some (.cells #[.slice Ao74 t207.length co74, .int .i64 t210] 31 (0, 0))) := ⟨by rw [← hq_]; exact (kb BK214)⟩; have n5_ : Aside0 (w84.heap[gb215]? = some (.cells #[.int .u64 t211, .int .i64 t212, .int .i64 t213] 24 (0, 0))) := ⟨by rw [← hq_]; exact (kb BK215)⟩; have n6_ : Aside0 (Below w.heap.size w w84) := ⟨by rw [← hq_]; exact (kl HB)⟩; clear HO209 BK154 BK155 BK162 BK214 BK215 HB hq_; have HO209 := n0_; have BK154 := n1_; have BK155 := n2_; have BK162 := n3_; have BK214 := n4_; have BK215 := n5_; have HB := n6_; clear n0_ n1_ n2_ n3_ n4_ n5_ n6_))
         replace HO209 := Aside0.mk (Kd.R_drew HO209.out)
         replace BK154 := Aside0.mk (blk_drew BK154.out)
         replace BK155 := Aside0.mk (blk_drew BK155.out)
         replace BK162 := Aside0.mk (blk_drew BK162.out)
         replace BK214 := Aside0.mk (blk_drew BK214.out)
         replace BK215 := Aside0.mk (blk_drew BK215.out)
         replace HB := Aside0.mk (below_drew1 HB.out)
         refine start_ (n := 14) (S := fun w' => w'.cell? ⟨gb214, 0, none⟩ = some (.slice Ao74 t207.length co74) ∧ w'.cell? ⟨gb214, 1, none⟩ = some (.int .i64 t210) ∧ w'.cell? ⟨gb162, 0, none⟩ = some (.slice AU162_0 x163000_13.length cU162_0) ∧ w'.cell? ⟨gb162, 1, none⟩ = some (.int .i64 x163001_13) ∧ w'.cell? ⟨gb162, 2, none⟩ = some (.bool true)) (ds := []) (bl 14 0) (by kernel_rfl) rfl rfl kz (fun hHeld => ?_); refine with_tabW xor_Get.tab23 xor_Get.bits23 (fun HT_ HW_ => ?_)
         generalize w84.drew = w85 at HO209 BK154 BK155 BK162 BK214 BK215 HB hHeld ⊢
         refine pu 0 (some 145) (bl 14 1) (h := ?_)
         refine pu 2 (some 147) (bl 14 5) (h := ?_)
         refine pu 3 (some 148) (bl 14 13) (h := ?_)
         refine pu 4 (some 149) (bl 14 29) (h := ?_)
         refine pu 6 (some 151) (bl 14 93) (h := ?_)
         refine ta 1 (some 146) (bl 14 95) (h := ?_)
         refine ta 5 (some 150) (bl 14 127) (h := ?_)
         refine pu 7 (some 152) (bl 14 255) (h := ?_)
         refine pu 8 (some 153) (bl 14 511) (h := ?_)
         refine pu 9 (some 154) (bl 14 1023) (h := ?_)
         refine pu 10 (some 155) (bl 14 2047) (h := ?_)
         refine pu 11 (some 156) (bl 14 4095) (h := ?_)
         refine pu 12 (some 157) (bl 14 8191) (h := ?_)
         refine pu 13 (some 158) (bl 14 16383) (h := ?_)
         refine done_ (done_of HT_.out (by kernel_rfl)) ?_
         try go_wp2
         replace HO209 := Aside0.mk (Kd.R_drew HO209.out)
         replace BK154 := Aside0.mk (blk_drew BK154.out)
         replace BK155 := Aside0.mk (blk_drew BK155.out)
         replace BK162 := Aside0.mk (blk_drew BK162.out)
         replace BK214 := Aside0.mk (blk_drew BK214.out)
         replace BK215 := Aside0.mk (blk_drew BK215.out)
         replace HB := Aside0.mk (below_drew1 HB.out)
         refine start_ (n := 8) (S := fun w' => w'.cell? ⟨gb215, 0, none⟩ = some (.int .u64 t211) ∧ w'.cell? ⟨gb215, 1, none⟩ = some (.int .i64 t212) ∧ w'.cell? ⟨gb215, 2, none⟩ = some (.int .i64 t213) ∧ w'.cell? ⟨gb214, 0, none⟩ = some (.slice Ao74 t207.length co74) ∧ w'.cell? ⟨gb214, 1, none⟩ = some (.int .i64 t210)) (ds := []) (bl 8 0) (by kernel_rfl) rfl rfl kz (fun hHeld => ?_); refine with_tabW xor_Get.tab25 xor_Get.bits25 (fun HT_ HW_ => ?_)
         generalize w85.drew = w86 at HO209 BK154 BK155 BK162 BK214 BK215 HB hHeld ⊢
         refine pu 0 (some 165) (bl 8 1) (h := ?_)
         refine pu 2 (some 167) (bl 8 5) (h := ?_)
         refine pu 4 (some 6) (bl 8 21) (h := ?_)
         refine ta 1 (some 166) (bl 8 23) (h := ?_)
         refine ta 3 (some 168) (bl 8 31) (h := ?_)
         refine one_ (i := 5) (N := none) #[true, true, true, true, true, true, false, false] rfl rfl (one_of HT_.out (by kernel_rfl)) (by decide) (fun K hK => ?_)
         have hs87 : w86.cell? ⟨gb155, 0, none⟩ = some (.int .u64 x156000_13) := (blk_cell BK155.out 0).trans rfl
         have hfs87 := blk_frozen BK155.out 0
         have hns87_0 := NB154_155.out
         have hns87_2 := NB162_155.out
         have hns87_3 := NB214_155.out
         have hns87_4 := NB215_155.out
         have hms87_0 := NB155_154.out
         have hms87_2 := NB155_162.out
         have hms87_3 := NB155_214.out
         have hms87_4 := NB155_215.out
         have hs88 : w86.cell? ⟨gb155, 1, none⟩ = some (.int .i64 x156001_13) := (blk_cell BK155.out 1).trans rfl
         have hfs88 := blk_frozen BK155.out 1
         have hs89 : w86.cell? ⟨gb155, 2, none⟩ = some (.int .i64 x156002_13) := (blk_cell BK155.out 2).trans rfl
         have hfs89 := blk_frozen BK155.out 2
         refine skip_ (w1 := ?_) (by rfl) rfl ?_ ?_
         rotate_left
         ·go_simp
          rfl
         refine hK.out _ _ (ks hHeld) (fun hHeld => ?_)
         clear hK K
         refine pu 6 (some 8) (bl 8 127) (h := ?_)
         refine pu 7 (some 9) (bl 8 255) (h := ?_)
         refine done_ (done_of HT_.out (by kernel_rfl)) ?_
         try go_wp2
         refine bodyPost_ret (results_list (rs := [.tmp 6, .cell 7 24, .tmp 8, .tmp 9]) rfl (by simp) (.tmp (.cell gb155 24 #[.int .u64 t211, .int .i64 t212, .int .i64 t213] (0, 0) _ rfl (kb BK155) Tryd.underlying24 rfl (by kernel_rfl) (.tmp (.tmp .nil))))) rfl ?_
         exact ⟨by first | rfl | (simp [errW_none, errW_some] <;> rfl) | (simp only [← hji62]; first | rfl | (simp [errW_none, errW_some] <;> rfl)) | (simp [*, errW_none, errW_some] <;> rfl), by repeat (first | (with_reducible first | exact HB.out | apply below_alloc | apply pw_below_drewN | apply below_drew1 | refine below_set ?_ GE154.out | refine below_set ?_ GE155.out | refine below_set ?_ GE162.out | refine below_set ?_ GE214.out | refine below_set ?_ GE215.out) | exact HB.out)⟩
        ·rw [if_neg c66] at H
         have c66b0 : (t216 == t218) = false := beq_eq_false_iff_ne.mpr c66
         have c66b1 : (t216 != t218) = true := bne_iff_ne.mpr c66
         replace H := Option.bind_eq_some_iff.mp H
         obtain ⟨⟨t220, t221, t222, t223, t224, t225⟩, A900, H⟩ := H
         replace H : (some (t220, t221, t222, t223, t224, t225)) = some (r1, r2, r3, r4, r5, r6) := H
         have A90 := Aside0.mk A900
         clear A900
         simp only [Option.some.injEq, Prod.mk.injEq] at H
         obtain ⟨rfl, rfl, rfl, rfl, rfl, rfl⟩ := H
         obtain ⟨ASz91_0, cSz91_0, HGz91, hgz91, HSz91_0, HLSz91_0⟩ := HI162.out
         have hcz91_0 := cellS99_0 HGz91
         have hcz91_1 := cellS99_1 HGz91
         have hcz91_2 := cellS99_2 HGz91
         have hfz91_0 := blk_frozen HGz91 0
         have hfz91_1 := blk_frozen HGz91 1
         have hfz91_2 := blk_frozen HGz91 2
         clear HGz91 hgz91
         have hnb92 := NB154_155.out
         have hnc92 := NB155_154.out
         have hnb93 := NB154_162.out
         have hnc93 := NB162_154.out
         obtain ⟨hcz94_0, hcz94_1, hcz94_2⟩ := kc3 BK154
         obtain ⟨hfz94_0, hfz94_1, hfz94_2⟩ := kf3 BK154
         try go_wp2_with (first | ((with_reducible refine gate_callee (f := 14) rfl ?_); refine goesL_ (some 124) rfl rfl Tryd.func14 (by kernel_rfl) rfl #[.agg #[.int .u64 a0_0, .int .i64 a0_1, .int .i64 a0_2], .int .u64 (Go.bits .xor .u64 a0_0 x14_13)] rfl km ?_; (with_reducible refine (xor_Code.calls kj13 a0_0 a0_1 a0_2 (Go.bits .xor .u64 a0_0 x14_13) t207 t210 t211 t212 t213 _ ?side1 A61.out).mono ?_); (case side1 => exact TabOk.below HT.out (IsS99.kl HB) (Nat.le_refl _)); rintro e w95 ⟨v208, rfl, ho0, hb⟩; refine ⟨_, rfl, ?_⟩; have HO209 := Aside0.mk (Kd.R_lower ho0 (below_size (IsS99.kl HB))); replace BK154 := kB BK154 hb; replace BK155 := kB BK155 hb; replace HB := Aside0.mk (below_step (IsS99.kl HB) hb); replace HI162 := Aside0.mk (IsS99.below (IsS99.k HI162) hb); (try clear hb); (try clear hb2); (try clear hk); (try clear hi); (try clear ho0)) | ((with_reducible refine gate_dst (N := 17) rfl ?_); (try (refine gate_guard (by rfl) ?_; dsimp only)); refine box_event ?hg (N := 17) ?hd (cs := #[.slice none 0 0, .int .i64 0]) (t := 31) ?hr ?_; (case hd => rfl); (case hg => rfl); (case hr => first | (go_simp; done) | (go_simp; rfl)); intro gb214 hg w96 hbox hb; replace HO209 := Aside0.mk (Kd.R_below (kr HO209) hb); have BK214 := Aside0.mk (hbox); have GW214 := Aside0.mk ((by rw [hg]; exact (below_size (IsS99.kl HB)) : w.heap.size ≤ gb214)); have GE214 := Aside0.mk ((by rw [hg]; exact (below_size (IsS99.kl HB)) : w.heap.size ≤ gb214)); replace HB := Aside0.mk (below_step (IsS99.kl HB) hb); obtain ⟨NB154_214, NB214_154⟩ := kN hg BK154; replace BK154 := kB BK154 hb; obtain ⟨NB155_214, NB214_155⟩ := kN hg BK155; replace BK155 := kB BK155 hb; have NB162_214 := Aside0.mk ((by rw [hg]; exact Nat.ne_of_lt (IsS99.lt (show IsS99 w _ gb162 x163000_13 x163001_13 true from by repeat (first | (with_reducible first | exact HI162.out | apply IsS99.alloc | apply IsS99.drewN | apply IsS99.drew | apply IsS99.set_1 | apply IsS99.set_2 | refine IsS99.far ?_ NB162_154.out _ | refine IsS99.far ?_ NB162_155.out _) | exact HI162.out))) : gb162 ≠ gb214)); have NB214_162 := Aside0.mk ((by rw [hg]; exact Nat.ne_of_gt (IsS99.lt (show IsS99 w _ gb162 x163000_13 x163001_13 true from by repeat (first | (with_reducible first | exact HI162.out | apply IsS99.alloc | apply IsS99.drewN | apply IsS99.drew | apply IsS99.set_1 | apply IsS99.set_2 | refine IsS99.far ?_ NB162_154.out _ | refine IsS99.far ?_ NB162_155.out _) | exact HI162.out))) : gb214 ≠ gb162)); replace HI162 := Aside0.mk (IsS99.below (IsS99.k HI162) hb); clear hb hbox hg) | ((with_reducible refine gate_dst (N := 18) rfl ?_); (try (refine gate_guard (by rfl) ?_; dsimp only)); refine box_event ?hg (N := 18) ?hd (cs := #[.int .u64 0, .int .i64 0, .int .i64 0]) (t := 24) ?hr ?_; (case hd => rfl); (case hg => rfl); (case hr => first | (go_simp; done) | (go_simp; rfl)); intro gb215 hg w97 hbox hb; replace HO209 := Aside0.mk (Kd.R_below (kr HO209) hb); have BK215 := Aside0.mk (hbox); have GW215 := Aside0.mk ((by rw [hg]; exact (below_size (IsS99.kl HB)) : w.heap.size ≤ gb215)); have GE215 := Aside0.mk ((by rw [hg]; exact (below_size (IsS99.kl HB)) : w.heap.size ≤ gb215)); replace HB := Aside0.mk (below_step (IsS99.kl HB) hb); obtain ⟨NB154_215, NB215_154⟩ := kN hg BK154; replace BK154 := kB BK154 hb; obtain ⟨NB155_215, NB215_155⟩ := kN hg BK155; replace BK155 := kB BK155 hb; obtain ⟨NB214_215, NB215_214⟩ := kN hg BK214; replace BK214 := kB BK214 hb; have NB162_215 := Aside0.mk ((by rw [hg]; exact Nat.ne_of_lt (IsS99.lt (show IsS99 w _ gb162 x163000_13 x163001_13 true from by repeat (first | (with_reducible first | exact HI162.out | apply IsS99.alloc | apply IsS99.drewN | apply IsS99.drew | apply IsS99.set_1 | apply IsS99.set_2 | refine IsS99.far ?_ NB162_154.out _ | refine IsS99.far ?_ NB162_155.out _ | refine IsS99.far ?_ NB162_214.out _) | exact HI162.out))) : gb162 ≠ gb215)); have NB215_162 := Aside0.mk ((by rw [hg]; exact Nat.ne_of_gt (IsS99.lt (show IsS99 w _ gb162 x163000_13 x163001_13 true from by repeat (first | (with_reducible first | exact HI162.out | apply IsS99.alloc | apply IsS99.drewN | apply IsS99.drew | apply IsS99.set_1 | apply IsS99.set_2 | refine IsS99.far ?_ NB162_154.out _ | refine IsS99.far ?_ NB162_155.out _ | refine IsS99.far ?_ NB162_214.out _) | exact HI162.out))) : gb215 ≠ gb162)); replace HI162 := Aside0.mk (IsS99.below (IsS99.k HI162) hb); clear hb hbox hg; obtain ⟨Ao98, co98, eo98⟩ := Kd.R_slice HO209.out; subst eo98; have hnb99 := NB214_154.out; have hnc99 := NB154_214.out; have hnb100 := NB214_155.out; have hnc100 := NB155_214.out; have hnb101 := NB214_215.out; have hnc101 := NB215_214.out; have hnb102 := NB214_162.out; have hnc102 := NB162_214.out; have hcz103_0 : w97.cell? ⟨gb214, 0, none⟩ = some (.slice none 0 0) := (blk_cell BK214.out 0).trans rfl; have hcz103_1 : w97.cell? ⟨gb214, 1, none⟩ = some (.int .i64 0) := (blk_cell BK214.out 1).trans rfl; have hfz103_0 := blk_frozen BK214.out 0; have hfz103_1 := blk_frozen BK214.out 1; have hnb104 := NB215_154.out; have hnc104 := NB154_215.out; have hnb105 := NB215_155.out; have hnc105 := NB155_215.out; have hnb106 := NB215_162.out; have hnc106 := NB162_215.out; have hcz107_0 : w97.cell? ⟨gb215, 0, none⟩ = some (.int .u64 0) := (blk_cell BK215.out 0).trans rfl; have hcz107_1 : w97.cell? ⟨gb215, 1, none⟩ = some (.int .i64 0) := (blk_cell BK215.out 1).trans rfl; have hcz107_2 : w97.cell? ⟨gb215, 2, none⟩ = some (.int .i64 0) := (blk_cell BK215.out 2).trans rfl; have hfz107_0 := blk_frozen BK215.out 0; have hfz107_1 := blk_frozen BK215.out 1; have hfz107_2 := blk_frozen BK215.out 2) | ((with_reducible refine gate_callee (f := 49) rfl ?_); refine goesL_ (some 133) rfl rfl Tryd.func49 (by kernel_rfl) rfl #[.slice A1 l1.length c1, .int .i64 a2, .int .i64 ji62] rfl (by (try simp only [List.map_toArray, List.map_cons, List.map_nil]); first | done | (simp only [hji62]; rfl) | rfl | (simp only [List.length_drop, List.length_take]; rfl)) ?_; (with_reducible refine (bits_Take.calls kj13 _ _ l1 a2 ji62 t216 t217 _ ?side1 ?side2 A63.out).mono ?_); (case side1 => exact Kd.C_below HR1.out (IsS99.kl HB)); (case side2 => exact HC1.out); rintro e w' ⟨rfl, ⟨nd, rfl⟩⟩; refine ⟨_, rfl, ?_⟩) | ((with_reducible refine gate_callee (f := 49) rfl ?_); refine goesL_ (some 142) rfl rfl Tryd.func49 (by kernel_rfl) rfl #[.slice Ao98 t207.length co98, .int .i64 0, .int .i64 ji62] rfl (by (try simp only [List.map_toArray, List.map_cons, List.map_nil]); first | done | (simp only [hji62]; rfl) | rfl | (simp only [List.length_drop, List.length_take]; rfl)) ?_; (with_reducible refine (bits_Take.calls kj13 _ _ t207 0 ji62 t218 t219 _ ?side1 ?side2 A64.out).mono ?_); (case side1 => refine (Kd.R_reads' (e := 5) (base := w.heap.size) (ok := fun k_ => True) (n := t207.length) (c := co98) ?_).2.2; exact (by (with_reducible repeat (first | apply Kd.R_alloc | apply Kd.R_drewN | apply Kd.R_drew)); exact (Kd.R_mono (Kd.R_mono (Kd.R_far (p := ⟨gb215, 2, none⟩) (Kd.R_far (p := ⟨gb215, 1, none⟩) (Kd.R_far (p := ⟨gb215, 0, none⟩) (Kd.R_far (p := ⟨gb214, 1, none⟩) (Kd.R_far (p := ⟨gb214, 0, none⟩) (Kd.R_types (Kd.R_types HO209.out BK214.out (by decide)) BK215.out (by decide)) (fun _ hk => hk.1.2) (.slice Ao98 t207.length co98)) (fun _ hk => hk.1.2) (.int .i64 t210)) (fun _ hk => hk.2) (.int .u64 t211)) (fun _ hk => hk.2) (.int .i64 t212)) (fun _ hk => hk.2) (.int .i64 t213)) (fun _ h_ => h_.1)) (fun _ h_ => h_.1)))); (case side2 => exact (Kd.R_reads' HO209.out).2.1); rintro e w' ⟨rfl, ⟨nd, rfl⟩⟩; refine ⟨_, rfl, ?_⟩; obtain ⟨AU162_0, cU162_0, hbU162, hgU162, hrU162_0, hlU162_0⟩ := HI162.out; have BK162 := Aside0.mk hbU162; have HRU162_0 := Aside0.mk hrU162_0; have HCU162_0 := Aside0.mk hlU162_0; clear hbU162 hgU162 hrU162_0 hlU162_0 HI162))
         have n0_ : Aside0 (Kd.R (Kd.int .u8) 5 (((((w97.setCell ⟨gb214, 0, none⟩ (.slice Ao98 t207.length co98)).setCell ⟨gb214, 1, none⟩ (.int .i64 t210)).setCell ⟨gb215, 0, none⟩ (.int .u64 t211)).setCell ⟨gb215, 1, none⟩ (.int .i64 t212)).setCell ⟨gb215, 2, none⟩ (.int .i64 t213)) w.heap.size (fun _ => True) (.slice Ao98 t207.length co98) t207) := ⟨by (with_reducible repeat (first | apply Kd.R_alloc | apply Kd.R_drewN | apply Kd.R_drew)); exact Kd.R_mono (Kd.R_far (p := ⟨gb215, 2, none⟩) (Kd.R_far (p := ⟨gb215, 1, none⟩) (Kd.R_far (p := ⟨gb215, 0, none⟩) (Kd.R_far (p := ⟨gb214, 1, none⟩) (Kd.R_far (p := ⟨gb214, 0, none⟩) (Kd.R_types (Kd.R_types HO209.out BK214.out (by decide)) BK215.out (by decide)) (fun _ hk => hk.1.2) (.slice Ao98 t207.length co98)) (fun _ hk => hk.1.2) (.int .i64 t210)) (fun _ hk => hk.2) (.int .u64 t211)) (fun _ hk => hk.2) (.int .i64 t212)) (fun _ hk => hk.2) (.int .i64 t213)) (fun _ hk => trivial)⟩
         have n1_ : Aside0 ((((((w97.setCell ⟨gb214, 0, none⟩ (.slice Ao98 t207.length co98)).setCell ⟨gb214, 1, none⟩ (.int .i64 t210)).setCell ⟨gb215, 0, none⟩ (.int .u64 t211)).setCell ⟨gb215, 1, none⟩ (.int .i64 t212)).setCell ⟨gb215, 2, none⟩ (.int .i64 t213)).heap[gb154]? = some (.cells #[.int .u64 a0_0, .int .i64 a0_1, .int .i64 a0_2] 24 (0, 0))) := ⟨by (with_reducible repeat (first | refine blk_drewN ?_ _ | refine blk_drew ?_ | refine blk_alloc ?_ _)); refine blk_far ?_ NB154_215.out _; (with_reducible repeat (first | refine blk_drewN ?_ _ | refine blk_drew ?_ | refine blk_alloc ?_ _)); refine blk_far ?_ NB154_215.out _; (with_reducible repeat (first | refine blk_drewN ?_ _ | refine blk_drew ?_ | refine blk_alloc ?_ _)); refine blk_far ?_ NB154_215.out _; (with_reducible repeat (first | refine blk_drewN ?_ _ | refine blk_drew ?_ | refine blk_alloc ?_ _)); refine blk_far ?_ NB154_214.out _; (with_reducible repeat (first | refine blk_drewN ?_ _ | refine blk_drew ?_ | refine blk_alloc ?_ _)); refine blk_far ?_ NB154_214.out _; (with_reducible repeat (first | refine blk_drewN ?_ _ | refine blk_drew ?_ | refine blk_alloc ?_ _)); exact BK154.out⟩
         have n2_ : Aside0 ((((((w97.setCell ⟨gb214, 0, none⟩ (.slice Ao98 t207.length co98)).setCell ⟨gb214, 1, none⟩ (.int .i64 t210)).setCell ⟨gb215, 0, none⟩ (.int .u64 t211)).setCell ⟨gb215, 1, none⟩ (.int .i64 t212)).setCell ⟨gb215, 2, none⟩ (.int .i64 t213)).heap[gb155]? = some (.cells #[.int .u64 x156000_13, .int .i64 x156001_13, .int .i64 x156002_13] 24 (0, 0))) := ⟨by (with_reducible repeat (first | refine blk_drewN ?_ _ | refine blk_drew ?_ | refine blk_alloc ?_ _)); refine blk_far ?_ NB155_215.out _; (with_reducible repeat (first | refine blk_drewN ?_ _ | refine blk_drew ?_ | refine blk_alloc ?_ _)); refine blk_far ?_ NB155_215.out _; (with_reducible repeat (first | refine blk_drewN ?_ _ | refine blk_drew ?_ | refine blk_alloc ?_ _)); refine blk_far ?_ NB155_215.out _; (with_reducible repeat (first | refine blk_drewN ?_ _ | refine blk_drew ?_ | refine blk_alloc ?_ _)); refine blk_far ?_ NB155_214.out _; (with_reducible repeat (first | refine blk_drewN ?_ _ | refine blk_drew ?_ | refine blk_alloc ?_ _)); refine blk_far ?_ NB155_214.out _; (with_reducible repeat (first | refine blk_drewN ?_ _ | refine blk_drew ?_ | refine blk_alloc ?_ _)); exact BK155.out⟩
         have n3_ : Aside0 ((((((w97.setCell ⟨gb214, 0, none⟩ (.slice Ao98 t207.length co98)).setCell ⟨gb214, 1, none⟩ (.int .i64 t210)).setCell ⟨gb215, 0, none⟩ (.int .u64 t211)).setCell ⟨gb215, 1, none⟩ (.int .i64 t212)).setCell ⟨gb215, 2, none⟩ (.int .i64 t213)).heap[gb162]? = some (.cells #[.slice AU162_0 x163000_13.length cU162_0, .int .i64 x163001_13, .bool true] 99 (0, 0))) := ⟨by (with_reducible repeat (first | refine blk_drewN ?_ _ | refine blk_drew ?_ | refine blk_alloc ?_ _)); refine blk_far ?_ NB162_215.out _; (with_reducible repeat (first | refine blk_drewN ?_ _ | refine blk_drew ?_ | refine blk_alloc ?_ _)); refine blk_far ?_ NB162_215.out _; (with_reducible repeat (first | refine blk_drewN ?_ _ | refine blk_drew ?_ | refine blk_alloc ?_ _)); refine blk_far ?_ NB162_215.out _; (with_reducible repeat (first | refine blk_drewN ?_ _ | refine blk_drew ?_ | refine blk_alloc ?_ _)); refine blk_far ?_ NB162_214.out _; (with_reducible repeat (first | refine blk_drewN ?_ _ | refine blk_drew ?_ | refine blk_alloc ?_ _)); refine blk_far ?_ NB162_214.out _; (with_reducible repeat (first | refine blk_drewN ?_ _ | refine blk_drew ?_ | refine blk_alloc ?_ _)); exact BK162.out⟩
         have n4_ : Aside0 ((((((w97.setCell ⟨gb214, 0, none⟩ (.slice Ao98 t207.length co98)).setCell ⟨gb214, 1, none⟩ (.int .i64 t210)).setCell ⟨gb215, 0, none⟩ (.int .u64 t211)).setCell ⟨gb215, 1, none⟩ (.int .i64 t212)).setCell ⟨gb215, 2, none⟩ (.int .i64 t213)).heap[gb214]? = some (.cells #[.slice Ao98 t207.length co98, .int .i64 t210] 31 (0, 0))) := ⟨by (with_reducible repeat (first | refine blk_drewN ?_ _ | refine blk_drew ?_ | refine blk_alloc ?_ _)); refine blk_far ?_ NB214_215.out _; (with_reducible repeat (first | refine blk_drewN ?_ _ | refine blk_drew ?_ | refine blk_alloc ?_ _)); refine blk_far ?_ NB214_215.out _; (with_reducible repeat (first | refine blk_drewN ?_ _ | refine blk_drew ?_ | refine blk_alloc ?_ _)); refine blk_far ?_ NB214_215.out _; (with_reducible repeat (first | refine blk_drewN ?_ _ | refine blk_drew ?_ | refine blk_alloc ?_ _)); refine blk_put (cs := #[.slice Ao98 t207.length co98, .int .i64 0]) ?_ 1 _ rfl; (with_reducible repeat (first | refine blk_drewN ?_ _ | refine blk_drew ?_ | refine blk_alloc ?_ _)); refine blk_put (cs := #[.slice none 0 0, .int .i64 0]) ?_ 0 _ rfl; (with_reducible repeat (first | refine blk_drewN ?_ _ | refine blk_drew ?_ | refine blk_alloc ?_ _)); exact BK214.out⟩
         have n5_ : Aside0 ((((((w97.setCell ⟨gb214, 0, none⟩ (.slice Ao98 t207.length co98)).setCell ⟨gb214, 1, none⟩ (.int .i64 t210)).setCell ⟨gb215, 0, none⟩ (.int .u64 t211)).setCell ⟨gb215, 1, none⟩ (.int .i64 t212)).setCell ⟨gb215, 2, none⟩ (.int .i64 t213)).heap[gb215]? = some (.cells #[.int .u64 t211, .int .i64 t212, .int .i64 t213] 24 (0, 0))) := ⟨by (with_reducible repeat (first | refine blk_drewN ?_ _ | refine blk_drew ?_ | refine blk_alloc ?_ _)); refine blk_put (cs := #[.int .u64 t211, .int .i64 t212, .int .i64 0]) ?_ 2 _ rfl; (with_reducible repeat (first | refine blk_drewN ?_ _ | refine blk_drew ?_ | refine blk_alloc ?_ _)); refine blk_put (cs := #[.int .u64 t211, .int .i64 0, .int .i64 0]) ?_ 1 _ rfl; (with_reducible repeat (first | refine blk_drewN ?_ _ | refine blk_drew ?_ | refine blk_alloc ?_ _)); refine blk_put (cs := #[.int .u64 0, .int .i64 0, .int .i64 0]) ?_ 0 _ rfl; (with_reducible repeat (first | refine blk_drewN ?_ _ | refine blk_drew ?_ | refine blk_alloc ?_ _)); refine blk_far ?_ NB215_214.out _; (with_reducible repeat (first | refine blk_drewN ?_ _ | refine blk_drew ?_ | refine blk_alloc ?_ _)); refine blk_far ?_ NB215_214.out _; (with_reducible repeat (first | refine blk_drewN ?_ _ | refine blk_drew ?_ | refine blk_alloc ?_ _)); exact BK215.out⟩
         have n6_ : Aside0 (Below w.heap.size w (((((w97.setCell ⟨gb214, 0, none⟩ (.slice Ao98 t207.length co98)).setCell ⟨gb214, 1, none⟩ (.int .i64 t210)).setCell ⟨gb215, 0, none⟩ (.int .u64 t211)).setCell ⟨gb215, 1, none⟩ (.int .i64 t212)).setCell ⟨gb215, 2, none⟩ (.int .i64 t213))) := ⟨by repeat (first | (with_reducible first | exact HB.out | apply below_alloc | apply pw_below_drewN | apply below_drew1 | refine below_set ?_ GE154.out | refine below_set ?_ GE155.out | refine below_set ?_ GE162.out | refine below_set ?_ GE214.out | refine below_set ?_ GE215.out) | exact HB.out)⟩
         (try clear HO209)
         (try clear BK154)
         (try clear BK155)
         (try clear BK162)
         (try clear BK214)
         (try clear BK215)
         (try clear HB)
         generalize (((((w97.setCell ⟨gb214, 0, none⟩ (.slice Ao98 t207.length co98)).setCell ⟨gb214, 1, none⟩ (.int .i64 t210)).setCell ⟨gb215, 0, none⟩ (.int .u64 t211)).setCell ⟨gb215, 1, none⟩ (.int .i64 t212)).setCell ⟨gb215, 2, none⟩ (.int .i64 t213)) = w108 at n0_ n1_ n2_ n3_ n4_ n5_ n6_ ⊢
         have HO209 := n0_
         have BK154 := n1_
         have BK155 := n2_
         have BK162 := n3_
         have BK214 := n4_
         have BK215 := n5_
         have HB := n6_
         clear n0_ n1_ n2_ n3_ n4_ n5_ n6_
         (try (rw [drewN_self w108]; generalize hq_ : World.drewN w108 _ = w108; have n0_ : Aside0 (Kd.R (Kd.int .u8) 5 w108 w.heap.size (fun _ => True) (.slice Ao98 t207.length co98) t207) := ⟨by rw [← hq_]; exact (kr HO209)⟩; have n1_ : Aside0 (w108.heap[gb154]? = some (.cells #[.int .u64 a0_0, .int .i64 a0_1, .int .i64 a0_2] 24 (0, 0))) := ⟨by rw [← hq_]; exact (kb BK154)⟩; have n2_ : Aside0 (w108.heap[gb155]? = some (.cells #[.int .u64 x156000_13, .int .i64 x156001_13, .int .i64 x156002_13] 24 (0, 0))) := ⟨by rw [← hq_]; exact (kb BK155)⟩; have n3_ : Aside0 (w108.heap[gb162]? = some (.cells #[.slice AU162_0 x163000_13.length cU162_0, .int .i64 x163001_13, .bool true] 99 (0, 0))) := ⟨by rw [← hq_]; exact (kb BK162)⟩; have n4_ : Aside0 (w108.heap[gb214]? = some (.cells #[.slice Ao98 t207.length co98, .int .i64 t210] 31 (0, 0))) := ⟨by rw [← hq_]; exact (kb BK214)⟩; have n5_ : Aside0 (w108.heap[gb215]? = some (.cells #[.int .u64 t211, .int .i64 t212, .int .i64 t213] 24 (0, 0))) := ⟨by rw [← hq_]; exact (kb BK215)⟩; have n6_ : Aside0 (Below w.heap.size w w108) := ⟨by rw [← hq_]; exact (kl HB)⟩; clear HO209 BK154 BK155 BK162 BK214 BK215 HB hq_; have HO209 := n0_; have BK154 := n1_; have BK155 := n2_; have BK162 := n3_; have BK214 := n4_; have BK215 := n5_; have HB := n6_; clear n0_ n1_ n2_ n3_ n4_ n5_ n6_))
         replace HO209 := Aside0.mk (Kd.R_drew HO209.out)
         replace BK154 := Aside0.mk (blk_drew BK154.out)
         replace BK155 := Aside0.mk (blk_drew BK155.out)
         replace BK162 := Aside0.mk (blk_drew BK162.out)
         replace BK214 := Aside0.mk (blk_drew BK214.out)
         replace BK215 := Aside0.mk (blk_drew BK215.out)
         replace HB := Aside0.mk (below_drew1 HB.out)
         refine start_ (n := 14) (S := fun w' => w'.cell? ⟨gb214, 0, none⟩ = some (.slice Ao98 t207.length co98) ∧ w'.cell? ⟨gb214, 1, none⟩ = some (.int .i64 t210) ∧ w'.cell? ⟨gb162, 0, none⟩ = some (.slice AU162_0 x163000_13.length cU162_0) ∧ w'.cell? ⟨gb162, 1, none⟩ = some (.int .i64 x163001_13) ∧ w'.cell? ⟨gb162, 2, none⟩ = some (.bool true)) (ds := []) (bl 14 0) (by kernel_rfl) rfl rfl kz (fun hHeld => ?_); refine with_tabW xor_Get.tab23 xor_Get.bits23 (fun HT_ HW_ => ?_)
         generalize w108.drew = w109 at HO209 BK154 BK155 BK162 BK214 BK215 HB hHeld ⊢
         refine pu 0 (some 145) (bl 14 1) (h := ?_)
         refine pu 2 (some 147) (bl 14 5) (h := ?_)
         refine pu 3 (some 148) (bl 14 13) (h := ?_)
         refine pu 4 (some 149) (bl 14 29) (h := ?_)
         refine pu 6 (some 151) (bl 14 93) (h := ?_)
         refine ta 1 (some 146) (bl 14 95) (h := ?_)
         refine ta 5 (some 150) (bl 14 127) (h := ?_)
         refine pu 7 (some 152) (bl 14 255) (h := ?_)
         refine pu 8 (some 153) (bl 14 511) (h := ?_)
         refine pu 9 (some 154) (bl 14 1023) (h := ?_)
         refine pu 10 (some 155) (bl 14 2047) (h := ?_)
         refine pu 11 (some 156) (bl 14 4095) (h := ?_)
         refine pu 12 (some 157) (bl 14 8191) (h := ?_)
         refine pu 13 (some 158) (bl 14 16383) (h := ?_)
         refine done_ (done_of HT_.out (by kernel_rfl)) ?_
         try go_wp2_with (first | (go_at_call 47; (with_reducible refine (xor_Get_1.calls 3 t220 t221 t222 t223 t224 t225 _ A90.out).mono ?_); rintro e w110 ⟨rfl, hb⟩; have n0_ := Aside0.mk (Kd.R_below (kr HO209) hb); have n1_ := Aside0.mk (kbb BK154 hb); have n2_ := Aside0.mk (kbb BK155 hb); have n3_ := Aside0.mk (kbb BK162 hb); have n4_ := Aside0.mk (kbb BK214 hb); have n5_ := Aside0.mk (kbb BK215 hb); have n6_ := Aside0.mk (below_step (kl HB) hb); clear HO209; clear BK154; clear BK155; clear BK162; clear BK214; clear BK215; clear HB; have HO209 := n0_; have BK154 := n1_; have BK155 := n2_; have BK162 := n3_; have BK214 := n4_; have BK215 := n5_; have HB := n6_; clear n0_ n1_ n2_ n3_ n4_ n5_ n6_; (try clear hb); (try clear hb2); (try clear hk); (try clear hi); (try simp only [errW_none, errW_some]); have hnb111 := NB155_162.out; have hnc111 := NB162_155.out; have hcz112_0 : w110.cell? ⟨gb155, 0, none⟩ = some (.int .u64 x156000_13) := (blk_cell BK155.out 0).trans rfl; have hcz112_1 : w110.cell? ⟨gb155, 1, none⟩ = some (.int .i64 x156001_13) := (blk_cell BK155.out 1).trans rfl; have hcz112_2 : w110.cell? ⟨gb155, 2, none⟩ = some (.int .i64 x156002_13) := (blk_cell BK155.out 2).trans rfl; have hfz112_0 := blk_frozen BK155.out 0; have hfz112_1 := blk_frozen BK155.out 1; have hfz112_2 := blk_frozen BK155.out 2))
         refine bodyPost_ret (results_list (rs := [.tmp 6, .cell 7 24, .tmp 8, .tmp 9]) rfl (by simp) (.tmp (.cell gb155 24 #[.int .u64 t221, .int .i64 t222, .int .i64 t223] (0, 0) _ rfl (kb BK155) Tryd.underlying24 rfl (by kernel_rfl) (.tmp (.tmp .nil))))) rfl ?_
         exact ⟨by first | rfl | (simp [errW_none, errW_some] <;> rfl) | (simp only [← hji62]; first | rfl | (simp [errW_none, errW_some] <;> rfl)) | (simp [*, errW_none, errW_some] <;> rfl), by repeat (first | (with_reducible first | exact HB.out | apply below_alloc | apply pw_below_drewN | apply below_drew1 | refine below_set ?_ GE154.out | refine below_set ?_ GE155.out | refine below_set ?_ GE162.out | refine below_set ?_ GE214.out | refine below_set ?_ GE215.out) | exact HB.out)⟩
       ·rw [if_neg c65] at H
        have c65b0 : (t210 == (wrap64 (x163001_13 - a2))) = false := beq_eq_false_iff_ne.mpr c65
        have c65b1 : (t210 != (wrap64 (x163001_13 - a2))) = true := bne_iff_ne.mpr c65
        replace H := Option.bind_eq_some_iff.mp H
        obtain ⟨⟨t226, t227, t228, t229, t230, t231⟩, A1130, H⟩ := H
        replace H : (some (t226, t227, t228, t229, t230, t231)) = some (r1, r2, r3, r4, r5, r6) := H
        have A113 := Aside0.mk A1130
        clear A1130
        simp only [Option.some.injEq, Prod.mk.injEq] at H
        obtain ⟨rfl, rfl, rfl, rfl, rfl, rfl⟩ := H
        obtain ⟨ASz114_0, cSz114_0, HGz114, hgz114, HSz114_0, HLSz114_0⟩ := HI162.out
        have hcz114_0 := cellS99_0 HGz114
        have hcz114_1 := cellS99_1 HGz114
        have hcz114_2 := cellS99_2 HGz114
        have hfz114_0 := blk_frozen HGz114 0
        have hfz114_1 := blk_frozen HGz114 1
        have hfz114_2 := blk_frozen HGz114 2
        clear HGz114 hgz114
        have hnb115 := NB154_155.out
        have hnc115 := NB155_154.out
        have hnb116 := NB154_162.out
        have hnc116 := NB162_154.out
        obtain ⟨hcz117_0, hcz117_1, hcz117_2⟩ := kc3 BK154
        obtain ⟨hfz117_0, hfz117_1, hfz117_2⟩ := kf3 BK154
        try go_wp2_with (first | ((with_reducible refine gate_callee (f := 14) rfl ?_); refine goesL_ (some 124) rfl rfl Tryd.func14 (by kernel_rfl) rfl #[.agg #[.int .u64 a0_0, .int .i64 a0_1, .int .i64 a0_2], .int .u64 (Go.bits .xor .u64 a0_0 x14_13)] rfl km ?_; (with_reducible refine (xor_Code.calls kj13 a0_0 a0_1 a0_2 (Go.bits .xor .u64 a0_0 x14_13) t207 t210 t211 t212 t213 _ ?side1 A61.out).mono ?_); (case side1 => exact TabOk.below HT.out (IsS99.kl HB) (Nat.le_refl _)); rintro e w118 ⟨v208, rfl, ho0, hb⟩; refine ⟨_, rfl, ?_⟩; have HO209 := Aside0.mk (Kd.R_lower ho0 (below_size (IsS99.kl HB))); replace BK154 := kB BK154 hb; replace BK155 := kB BK155 hb; replace HB := Aside0.mk (below_step (IsS99.kl HB) hb); replace HI162 := Aside0.mk (IsS99.below (IsS99.k HI162) hb); (try clear hb); (try clear hb2); (try clear hk); (try clear hi); (try clear ho0)) | ((with_reducible refine gate_dst (N := 17) rfl ?_); (try (refine gate_guard (by rfl) ?_; dsimp only)); refine box_event ?hg (N := 17) ?hd (cs := #[.slice none 0 0, .int .i64 0]) (t := 31) ?hr ?_; (case hd => rfl); (case hg => rfl); (case hr => first | (go_simp; done) | (go_simp; rfl)); intro gb214 hg w119 hbox hb; replace HO209 := Aside0.mk (Kd.R_below (kr HO209) hb); have BK214 := Aside0.mk (hbox); have GW214 := Aside0.mk ((by rw [hg]; exact (below_size (IsS99.kl HB)) : w.heap.size ≤ gb214)); have GE214 := Aside0.mk ((by rw [hg]; exact (below_size (IsS99.kl HB)) : w.heap.size ≤ gb214)); replace HB := Aside0.mk (below_step (IsS99.kl HB) hb); obtain ⟨NB154_214, NB214_154⟩ := kN hg BK154; replace BK154 := kB BK154 hb; obtain ⟨NB155_214, NB214_155⟩ := kN hg BK155; replace BK155 := kB BK155 hb; have NB162_214 := Aside0.mk ((by rw [hg]; exact Nat.ne_of_lt (IsS99.lt (show IsS99 w _ gb162 x163000_13 x163001_13 true from by repeat (first | (with_reducible first | exact HI162.out | apply IsS99.alloc | apply IsS99.drewN | apply IsS99.drew | apply IsS99.set_1 | apply IsS99.set_2 | refine IsS99.far ?_ NB162_154.out _ | refine IsS99.far ?_ NB162_155.out _) | exact HI162.out))) : gb162 ≠ gb214)); have NB214_162 := Aside0.mk ((by rw [hg]; exact Nat.ne_of_gt (IsS99.lt (show IsS99 w _ gb162 x163000_13 x163001_13 true from by repeat (first | (with_reducible first | exact HI162.out | apply IsS99.alloc | apply IsS99.drewN | apply IsS99.drew | apply IsS99.set_1 | apply IsS99.set_2 | refine IsS99.far ?_ NB162_154.out _ | refine IsS99.far ?_ NB162_155.out _) | exact HI162.out))) : gb214 ≠ gb162)); replace HI162 := Aside0.mk (IsS99.below (IsS99.k HI162) hb); clear hb hbox hg) | ((with_reducible refine gate_dst (N := 18) rfl ?_); (try (refine gate_guard (by rfl) ?_; dsimp only)); refine box_event ?hg (N := 18) ?hd (cs := #[.int .u64 0, .int .i64 0, .int .i64 0]) (t := 24) ?hr ?_; (case hd => rfl); (case hg => rfl); (case hr => first | (go_simp; done) | (go_simp; rfl)); intro gb215 hg w120 hbox hb; replace HO209 := Aside0.mk (Kd.R_below (kr HO209) hb); have BK215 := Aside0.mk (hbox); have GW215 := Aside0.mk ((by rw [hg]; exact (below_size (IsS99.kl HB)) : w.heap.size ≤ gb215)); have GE215 := Aside0.mk ((by rw [hg]; exact (below_size (IsS99.kl HB)) : w.heap.size ≤ gb215)); replace HB := Aside0.mk (below_step (IsS99.kl HB) hb); obtain ⟨NB154_215, NB215_154⟩ := kN hg BK154; replace BK154 := kB BK154 hb; obtain ⟨NB155_215, NB215_155⟩ := kN hg BK155; replace BK155 := kB BK155 hb; obtain ⟨NB214_215, NB215_214⟩ := kN hg BK214; replace BK214 := kB BK214 hb; have NB162_215 := Aside0.mk ((by rw [hg]; exact Nat.ne_of_lt (IsS99.lt (show IsS99 w _ gb162 x163000_13 x163001_13 true from by repeat (first | (with_reducible first | exact HI162.out | apply IsS99.alloc | apply IsS99.drewN | apply IsS99.drew | apply IsS99.set_1 | apply IsS99.set_2 | refine IsS99.far ?_ NB162_154.out _ | refine IsS99.far ?_ NB162_155.out _ | refine IsS99.far ?_ NB162_214.out _) | exact HI162.out))) : gb162 ≠ gb215)); have NB215_162 := Aside0.mk ((by rw [hg]; exact Nat.ne_of_gt (IsS99.lt (show IsS99 w _ gb162 x163000_13 x163001_13 true from by repeat (first | (with_reducible first | exact HI162.out | apply IsS99.alloc | apply IsS99.drewN | apply IsS99.drew | apply IsS99.set_1 | apply IsS99.set_2 | refine IsS99.far ?_ NB162_154.out _ | refine IsS99.far ?_ NB162_155.out _ | refine IsS99.far ?_ NB162_214.out _) | exact HI162.out))) : gb215 ≠ gb162)); replace HI162 := Aside0.mk (IsS99.below (IsS99.k HI162) hb); clear hb hbox hg; obtain ⟨Ao121, co121, eo121⟩ := Kd.R_slice HO209.out; subst eo121; have hnb122 := NB214_154.out; have hnc122 := NB154_214.out; have hnb123 := NB214_155.out; have hnc123 := NB155_214.out; have hnb124 := NB214_215.out; have hnc124 := NB215_214.out; have hnb125 := NB214_162.out; have hnc125 := NB162_214.out; have hcz126_0 : w120.cell? ⟨gb214, 0, none⟩ = some (.slice none 0 0) := (blk_cell BK214.out 0).trans rfl; have hcz126_1 : w120.cell? ⟨gb214, 1, none⟩ = some (.int .i64 0) := (blk_cell BK214.out 1).trans rfl; have hfz126_0 := blk_frozen BK214.out 0; have hfz126_1 := blk_frozen BK214.out 1; have hnb127 := NB215_154.out; have hnc127 := NB154_215.out; have hnb128 := NB215_155.out; have hnc128 := NB155_215.out; have hnb129 := NB215_162.out; have hnc129 := NB162_215.out; have hcz130_0 : w120.cell? ⟨gb215, 0, none⟩ = some (.int .u64 0) := (blk_cell BK215.out 0).trans rfl; have hcz130_1 : w120.cell? ⟨gb215, 1, none⟩ = some (.int .i64 0) := (blk_cell BK215.out 1).trans rfl; have hcz130_2 : w120.cell? ⟨gb215, 2, none⟩ = some (.int .i64 0) := (blk_cell BK215.out 2).trans rfl; have hfz130_0 := blk_frozen BK215.out 0; have hfz130_1 := blk_frozen BK215.out 1; have hfz130_2 := blk_frozen BK215.out 2) | ((with_reducible refine gate_callee (f := 49) rfl ?_); refine goesL_ (some 133) rfl rfl Tryd.func49 (by kernel_rfl) rfl #[.slice A1 l1.length c1, .int .i64 a2, .int .i64 ji62] rfl (by (try simp only [List.map_toArray, List.map_cons, List.map_nil]); first | done | (simp only [hji62]; rfl) | rfl | (simp only [List.length_drop, List.length_take]; rfl)) ?_; (with_reducible refine (bits_Take.calls kj13 _ _ l1 a2 ji62 t216 t217 _ ?side1 ?side2 A63.out).mono ?_); (case side1 => exact Kd.C_below HR1.out (IsS99.kl HB)); (case side2 => exact HC1.out); rintro e w' ⟨rfl, ⟨nd, rfl⟩⟩; refine ⟨_, rfl, ?_⟩) | ((with_reducible refine gate_callee (f := 49) rfl ?_); refine goesL_ (some 142) rfl rfl Tryd.func49 (by kernel_rfl) rfl #[.slice Ao121 t207.length co121, .int .i64 0, .int .i64 ji62] rfl (by (try simp only [List.map_toArray, List.map_cons, List.map_nil]); first | done | (simp only [hji62]; rfl) | rfl | (simp only [List.length_drop, List.length_take]; rfl)) ?_; (with_reducible refine (bits_Take.calls kj13 _ _ t207 0 ji62 t218 t219 _ ?side1 ?side2 A64.out).mono ?_); (case side1 => refine (Kd.R_reads' (e := 5) (base := w.heap.size) (ok := fun k_ => True) (n := t207.length) (c := co121) ?_).2.2; exact (by (with_reducible repeat (first | apply Kd.R_alloc | apply Kd.R_drewN | apply Kd.R_drew)); exact (Kd.R_mono (Kd.R_mono (Kd.R_far (p := ⟨gb215, 2, none⟩) (Kd.R_far (p := ⟨gb215, 1, none⟩) (Kd.R_far (p := ⟨gb215, 0, none⟩) (Kd.R_far (p := ⟨gb214, 1, none⟩) (Kd.R_far (p := ⟨gb214, 0, none⟩) (Kd.R_types (Kd.R_types HO209.out BK214.out (by decide)) BK215.out (by decide)) (fun _ hk => hk.1.2) (.slice Ao121 t207.length co121)) (fun _ hk => hk.1.2) (.int .i64 t210)) (fun _ hk => hk.2) (.int .u64 t211)) (fun _ hk => hk.2) (.int .i64 t212)) (fun _ hk => hk.2) (.int .i64 t213)) (fun _ h_ => h_.1)) (fun _ h_ => h_.1)))); (case side2 => exact (Kd.R_reads' HO209.out).2.1); rintro e w' ⟨rfl, ⟨nd, rfl⟩⟩; refine ⟨_, rfl, ?_⟩; obtain ⟨AU162_0, cU162_0, hbU162, hgU162, hrU162_0, hlU162_0⟩ := HI162.out; have BK162 := Aside0.mk hbU162; have HRU162_0 := Aside0.mk hrU162_0; have HCU162_0 := Aside0.mk hlU162_0; clear hbU162 hgU162 hrU162_0 hlU162_0 HI162))
        have n0_ : Aside0 (Kd.R (Kd.int .u8) 5 (((((w120.setCell ⟨gb214, 0, none⟩ (.slice Ao121 t207.length co121)).setCell ⟨gb214, 1, none⟩ (.int .i64 t210)).setCell ⟨gb215, 0, none⟩ (.int .u64 t211)).setCell ⟨gb215, 1, none⟩ (.int .i64 t212)).setCell ⟨gb215, 2, none⟩ (.int .i64 t213)) w.heap.size (fun _ => True) (.slice Ao121 t207.length co121) t207) := ⟨by (with_reducible repeat (first | apply Kd.R_alloc | apply Kd.R_drewN | apply Kd.R_drew)); exact Kd.R_mono (Kd.R_far (p := ⟨gb215, 2, none⟩) (Kd.R_far (p := ⟨gb215, 1, none⟩) (Kd.R_far (p := ⟨gb215, 0, none⟩) (Kd.R_far (p := ⟨gb214, 1, none⟩) (Kd.R_far (p := ⟨gb214, 0, none⟩) (Kd.R_types (Kd.R_types HO209.out BK214.out (by decide)) BK215.out (by decide)) (fun _ hk => hk.1.2) (.slice Ao121 t207.length co121)) (fun _ hk => hk.1.2) (.int .i64 t210)) (fun _ hk => hk.2) (.int .u64 t211)) (fun _ hk => hk.2) (.int .i64 t212)) (fun _ hk => hk.2) (.int .i64 t213)) (fun _ hk => trivial)⟩
        have n1_ : Aside0 ((((((w120.setCell ⟨gb214, 0, none⟩ (.slice Ao121 t207.length co121)).setCell ⟨gb214, 1, none⟩ (.int .i64 t210)).setCell ⟨gb215, 0, none⟩ (.int .u64 t211)).setCell ⟨gb215, 1, none⟩ (.int .i64 t212)).setCell ⟨gb215, 2, none⟩ (.int .i64 t213)).heap[gb154]? = some (.cells #[.int .u64 a0_0, .int .i64 a0_1, .int .i64 a0_2] 24 (0, 0))) := ⟨by (with_reducible repeat (first | refine blk_drewN ?_ _ | refine blk_drew ?_ | refine blk_alloc ?_ _)); refine blk_far ?_ NB154_215.out _; (with_reducible repeat (first | refine blk_drewN ?_ _ | refine blk_drew ?_ | refine blk_alloc ?_ _)); refine blk_far ?_ NB154_215.out _; (with_reducible repeat (first | refine blk_drewN ?_ _ | refine blk_drew ?_ | refine blk_alloc ?_ _)); refine blk_far ?_ NB154_215.out _; (with_reducible repeat (first | refine blk_drewN ?_ _ | refine blk_drew ?_ | refine blk_alloc ?_ _)); refine blk_far ?_ NB154_214.out _; (with_reducible repeat (first | refine blk_drewN ?_ _ | refine blk_drew ?_ | refine blk_alloc ?_ _)); refine blk_far ?_ NB154_214.out _; (with_reducible repeat (first | refine blk_drewN ?_ _ | refine blk_drew ?_ | refine blk_alloc ?_ _)); exact BK154.out⟩
        have n2_ : Aside0 ((((((w120.setCell ⟨gb214, 0, none⟩ (.slice Ao121 t207.length co121)).setCell ⟨gb214, 1, none⟩ (.int .i64 t210)).setCell ⟨gb215, 0, none⟩ (.int .u64 t211)).setCell ⟨gb215, 1, none⟩ (.int .i64 t212)).setCell ⟨gb215, 2, none⟩ (.int .i64 t213)).heap[gb155]? = some (.cells #[.int .u64 x156000_13, .int .i64 x156001_13, .int .i64 x156002_13] 24 (0, 0))) := ⟨by (with_reducible repeat (first | refine blk_drewN ?_ _ | refine blk_drew ?_ | refine blk_alloc ?_ _)); refine blk_far ?_ NB155_215.out _; (with_reducible repeat (first | refine blk_drewN ?_ _ | refine blk_drew ?_ | refine blk_alloc ?_ _)); refine blk_far ?_ NB155_215.out _; (with_reducible repeat (first | refine blk_drewN ?_ _ | refine blk_drew ?_ | refine blk_alloc ?_ _)); refine blk_far ?_ NB155_215.out _; (with_reducible repeat (first | refine blk_drewN ?_ _ | refine blk_drew ?_ | refine blk_alloc ?_ _)); refine blk_far ?_ NB155_214.out _; (with_reducible repeat (first | refine blk_drewN ?_ _ | refine blk_drew ?_ | refine blk_alloc ?_ _)); refine blk_far ?_ NB155_214.out _; (with_reducible repeat (first | refine blk_drewN ?_ _ | refine blk_drew ?_ | refine blk_alloc ?_ _)); exact BK155.out⟩
        have n3_ : Aside0 ((((((w120.setCell ⟨gb214, 0, none⟩ (.slice Ao121 t207.length co121)).setCell ⟨gb214, 1, none⟩ (.int .i64 t210)).setCell ⟨gb215, 0, none⟩ (.int .u64 t211)).setCell ⟨gb215, 1, none⟩ (.int .i64 t212)).setCell ⟨gb215, 2, none⟩ (.int .i64 t213)).heap[gb162]? = some (.cells #[.slice AU162_0 x163000_13.length cU162_0, .int .i64 x163001_13, .bool true] 99 (0, 0))) := ⟨by (with_reducible repeat (first | refine blk_drewN ?_ _ | refine blk_drew ?_ | refine blk_alloc ?_ _)); refine blk_far ?_ NB162_215.out _; (with_reducible repeat (first | refine blk_drewN ?_ _ | refine blk_drew ?_ | refine blk_alloc ?_ _)); refine blk_far ?_ NB162_215.out _; (with_reducible repeat (first | refine blk_drewN ?_ _ | refine blk_drew ?_ | refine blk_alloc ?_ _)); refine blk_far ?_ NB162_215.out _; (with_reducible repeat (first | refine blk_drewN ?_ _ | refine blk_drew ?_ | refine blk_alloc ?_ _)); refine blk_far ?_ NB162_214.out _; (with_reducible repeat (first | refine blk_drewN ?_ _ | refine blk_drew ?_ | refine blk_alloc ?_ _)); refine blk_far ?_ NB162_214.out _; (with_reducible repeat (first | refine blk_drewN ?_ _ | refine blk_drew ?_ | refine blk_alloc ?_ _)); exact BK162.out⟩
        have n4_ : Aside0 ((((((w120.setCell ⟨gb214, 0, none⟩ (.slice Ao121 t207.length co121)).setCell ⟨gb214, 1, none⟩ (.int .i64 t210)).setCell ⟨gb215, 0, none⟩ (.int .u64 t211)).setCell ⟨gb215, 1, none⟩ (.int .i64 t212)).setCell ⟨gb215, 2, none⟩ (.int .i64 t213)).heap[gb214]? = some (.cells #[.slice Ao121 t207.length co121, .int .i64 t210] 31 (0, 0))) := ⟨by (with_reducible repeat (first | refine blk_drewN ?_ _ | refine blk_drew ?_ | refine blk_alloc ?_ _)); refine blk_far ?_ NB214_215.out _; (with_reducible repeat (first | refine blk_drewN ?_ _ | refine blk_drew ?_ | refine blk_alloc ?_ _)); refine blk_far ?_ NB214_215.out _; (with_reducible repeat (first | refine blk_drewN ?_ _ | refine blk_drew ?_ | refine blk_alloc ?_ _)); refine blk_far ?_ NB214_215.out _; (with_reducible repeat (first | refine blk_drewN ?_ _ | refine blk_drew ?_ | refine blk_alloc ?_ _)); refine blk_put (cs := #[.slice Ao121 t207.length co121, .int .i64 0]) ?_ 1 _ rfl; (with_reducible repeat (first | refine blk_drewN ?_ _ | refine blk_drew ?_ | refine blk_alloc ?_ _)); refine blk_put (cs := #[.slice none 0 0, .int .i64 0]) ?_ 0 _ rfl; (with_reducible repeat (first | refine blk_drewN ?_ _ | refine blk_drew ?_ | refine blk_alloc ?_ _)); exact BK214.out⟩
        have n5_ : Aside0 ((((((w120.setCell ⟨gb214, 0, none⟩ (.slice Ao121 t207.length co121)).setCell ⟨gb214, 1, none⟩ (.int .i64 t210)).setCell ⟨gb215, 0, none⟩ (.int .u64 t211)).setCell ⟨gb215, 1, none⟩ (.int .i64 t212)).setCell ⟨gb215, 2, none⟩ (.int .i64 t213)).heap[gb215]? = some (.cells #[.int .u64 t211, .int .i64 t212, .int .i64 t213] 24 (0, 0))) := ⟨by (with_reducible repeat (first | refine blk_drewN ?_ _ | refine blk_drew ?_ | refine blk_alloc ?_ _)); refine blk_put (cs := #[.int .u64 t211, .int .i64 t212, .int .i64 0]) ?_ 2 _ rfl; (with_reducible repeat (first | refine blk_drewN ?_ _ | refine blk_drew ?_ | refine blk_alloc ?_ _)); refine blk_put (cs := #[.int .u64 t211, .int .i64 0, .int .i64 0]) ?_ 1 _ rfl; (with_reducible repeat (first | refine blk_drewN ?_ _ | refine blk_drew ?_ | refine blk_alloc ?_ _)); refine blk_put (cs := #[.int .u64 0, .int .i64 0, .int .i64 0]) ?_ 0 _ rfl; (with_reducible repeat (first | refine blk_drewN ?_ _ | refine blk_drew ?_ | refine blk_alloc ?_ _)); refine blk_far ?_ NB215_214.out _; (with_reducible repeat (first | refine blk_drewN ?_ _ | refine blk_drew ?_ | refine blk_alloc ?_ _)); refine blk_far ?_ NB215_214.out _; (with_reducible repeat (first | refine blk_drewN ?_ _ | refine blk_drew ?_ | refine blk_alloc ?_ _)); exact BK215.out⟩
        have n6_ : Aside0 (Below w.heap.size w (((((w120.setCell ⟨gb214, 0, none⟩ (.slice Ao121 t207.length co121)).setCell ⟨gb214, 1, none⟩ (.int .i64 t210)).setCell ⟨gb215, 0, none⟩ (.int .u64 t211)).setCell ⟨gb215, 1, none⟩ (.int .i64 t212)).setCell ⟨gb215, 2, none⟩ (.int .i64 t213))) := ⟨by repeat (first | (with_reducible first | exact HB.out | apply below_alloc | apply pw_below_drewN | apply below_drew1 | refine below_set ?_ GE154.out | refine below_set ?_ GE155.out | refine below_set ?_ GE162.out | refine below_set ?_ GE214.out | refine below_set ?_ GE215.out) | exact HB.out)⟩
        (try clear HO209)
        (try clear BK154)
        (try clear BK155)
        (try clear BK162)
        (try clear BK214)
        (try clear BK215)
        (try clear HB)
        generalize (((((w120.setCell ⟨gb214, 0, none⟩ (.slice Ao121 t207.length co121)).setCell ⟨gb214, 1, none⟩ (.int .i64 t210)).setCell ⟨gb215, 0, none⟩ (.int .u64 t211)).setCell ⟨gb215, 1, none⟩ (.int .i64 t212)).setCell ⟨gb215, 2, none⟩ (.int .i64 t213)) = w131 at n0_ n1_ n2_ n3_ n4_ n5_ n6_ ⊢
        have HO209 := n0_
        have BK154 := n1_
        have BK155 := n2_
        have BK162 := n3_
        have BK214 := n4_
        have BK215 := n5_
        have HB := n6_
        clear n0_ n1_ n2_ n3_ n4_ n5_ n6_
        (try (rw [drewN_self w131]; generalize hq_ : World.drewN w131 _ = w131; have n0_ : Aside0 (Kd.R (Kd.int .u8) 5 w131 w.heap.size (fun _ => True) (.slice Ao121 t207.length co121) t207) := ⟨by rw [← hq_]; exact (kr HO209)⟩; have n1_ : Aside0 (w131.heap[gb154]? = some (.cells #[.int .u64 a0_0, .int .i64 a0_1, .int .i64 a0_2] 24 (0, 0))) := ⟨by rw [← hq_]; exact (kb BK154)⟩; have n2_ : Aside0 (w131.heap[gb155]? = some (.cells #[.int .u64 x156000_13, .int .i64 x156001_13, .int .i64 x156002_13] 24 (0, 0))) := ⟨by rw [← hq_]; exact (kb BK155)⟩; have n3_ : Aside0 (w131.heap[gb162]? = some (.cells #[.slice AU162_0 x163000_13.length cU162_0, .int .i64 x163001_13, .bool true] 99 (0, 0))) := ⟨by rw [← hq_]; exact (kb BK162)⟩; have n4_ : Aside0 (w131.heap[gb214]? = some (.cells #[.slice Ao121 t207.length co121, .int .i64 t210] 31 (0, 0))) := ⟨by rw [← hq_]; exact (kb BK214)⟩; have n5_ : Aside0 (w131.heap[gb215]? = some (.cells #[.int .u64 t211, .int .i64 t212, .int .i64 t213] 24 (0, 0))) := ⟨by rw [← hq_]; exact (kb BK215)⟩; have n6_ : Aside0 (Below w.heap.size w w131) := ⟨by rw [← hq_]; exact (kl HB)⟩; clear HO209 BK154 BK155 BK162 BK214 BK215 HB hq_; have HO209 := n0_; have BK154 := n1_; have BK155 := n2_; have BK162 := n3_; have BK214 := n4_; have BK215 := n5_; have HB := n6_; clear n0_ n1_ n2_ n3_ n4_ n5_ n6_))
        replace HO209 := Aside0.mk (Kd.R_drew HO209.out)
        replace BK154 := Aside0.mk (blk_drew BK154.out)
        replace BK155 := Aside0.mk (blk_drew BK155.out)
        replace BK162 := Aside0.mk (blk_drew BK162.out)
        replace BK214 := Aside0.mk (blk_drew BK214.out)
        replace BK215 := Aside0.mk (blk_drew BK215.out)
        replace HB := Aside0.mk (below_drew1 HB.out)
        refine start_ (n := 14) (S := fun w' => w'.cell? ⟨gb214, 0, none⟩ = some (.slice Ao121 t207.length co121) ∧ w'.cell? ⟨gb214, 1, none⟩ = some (.int .i64 t210) ∧ w'.cell? ⟨gb162, 0, none⟩ = some (.slice AU162_0 x163000_13.length cU162_0) ∧ w'.cell? ⟨gb162, 1, none⟩ = some (.int .i64 x163001_13) ∧ w'.cell? ⟨gb162, 2, none⟩ = some (.bool true)) (ds := []) (bl 14 0) (by kernel_rfl) rfl rfl kz (fun hHeld => ?_); refine with_tabW xor_Get.tab23 xor_Get.bits23 (fun HT_ HW_ => ?_)
        generalize w131.drew = w132 at HO209 BK154 BK155 BK162 BK214 BK215 HB hHeld ⊢
        refine pu 0 (some 145) (bl 14 1) (h := ?_)
        refine pu 2 (some 147) (bl 14 5) (h := ?_)
        refine pu 3 (some 148) (bl 14 13) (h := ?_)
        refine pu 4 (some 149) (bl 14 29) (h := ?_)
        refine pu 6 (some 151) (bl 14 93) (h := ?_)
        refine ta 1 (some 146) (bl 14 95) (h := ?_)
        refine ta 5 (some 150) (bl 14 127) (h := ?_)
        refine pu 7 (some 152) (bl 14 255) (h := ?_)
        refine pu 8 (some 153) (bl 14 511) (h := ?_)
        refine pu 9 (some 154) (bl 14 1023) (h := ?_)
        refine pure_ (i := 10) (N := some 155) (v := undef) (a' := ?_) #[true, true, true, true, true, true, true, true, true, true, true, false, false, false] rfl rfl (any_of HT_.out (by kernel_rfl)) (fun _ _ _ h => h) (Or.inr ⟨by rfl, rfl⟩) ?_ ?_
        rotate_left
        ·simp only [Act.put, List.setIfInBounds_toArray, List.set_cons_zero, List.set_cons_succ, i64_w, i32_w]
         rfl
        refine pure_ (i := 11) (N := some 156) (v := undef) (a' := ?_) #[true, true, true, true, true, true, true, true, true, true, true, true, false, false] rfl rfl (any_of HT_.out (by kernel_rfl)) (fun _ _ _ h => h) (Or.inr ⟨by rfl, rfl⟩) ?_ ?_
        rotate_left
        ·simp only [Act.put, List.setIfInBounds_toArray, List.set_cons_zero, List.set_cons_succ, i64_w, i32_w]
         rfl
        refine pure_ (i := 12) (N := some 157) (v := undef) (a' := ?_) #[true, true, true, true, true, true, true, true, true, true, true, true, true, false] rfl rfl (any_of HT_.out (by kernel_rfl)) (fun _ _ _ h => h) (Or.inr ⟨by rfl, rfl⟩) ?_ ?_
        rotate_left
        ·simp only [Act.put, List.setIfInBounds_toArray, List.set_cons_zero, List.set_cons_succ, i64_w, i32_w]
         rfl
        refine pu 13 (some 158) (bl 14 16383) (h := ?_)
        refine done_ (done_of HT_.out (by kernel_rfl)) ?_
        try go_wp2_with (first | (go_at_call 47; (with_reducible refine (xor_Get_1.calls 3 t226 t227 t228 t229 t230 t231 _ A113.out).mono ?_); rintro e w133 ⟨rfl, hb⟩; replace HO209 := Aside0.mk (Kd.R_below (kr HO209) hb); replace BK154 := kB BK154 hb; replace BK155 := kB BK155 hb; replace BK162 := kB BK162 hb; replace BK214 := kB BK214 hb; replace BK215 := kB BK215 hb; replace HB := kH HB hb; (try clear hb); (try clear hb2); (try clear hk); (try clear hi); (try simp only [errW_none, errW_some]); have hnb134 := NB155_162.out; have hnc134 := NB162_155.out; have hcz135_0 : w133.cell? ⟨gb155, 0, none⟩ = some (.int .u64 x156000_13) := (blk_cell BK155.out 0).trans rfl; have hcz135_1 : w133.cell? ⟨gb155, 1, none⟩ = some (.int .i64 x156001_13) := (blk_cell BK155.out 1).trans rfl; have hcz135_2 : w133.cell? ⟨gb155, 2, none⟩ = some (.int .i64 x156002_13) := (blk_cell BK155.out 2).trans rfl; have hfz135_0 := blk_frozen BK155.out 0; have hfz135_1 := blk_frozen BK155.out 1; have hfz135_2 := blk_frozen BK155.out 2))
        refine bodyPost_ret (results_list (rs := [.tmp 6, .cell 7 24, .tmp 8, .tmp 9]) rfl (by simp) (.tmp (.cell gb155 24 #[.int .u64 t227, .int .i64 t228, .int .i64 t229] (0, 0) _ rfl (kb BK155) Tryd.underlying24 rfl (by kernel_rfl) (.tmp (.tmp .nil))))) rfl ?_
        exact ⟨by first | rfl | (simp [errW_none, errW_some] <;> rfl) | (simp only [← hji62]; first | rfl | (simp [errW_none, errW_some] <;> rfl)) | (simp [*, errW_none, errW_some] <;> rfl), by repeat (first | (with_reducible first | exact HB.out | apply below_alloc | apply pw_below_drewN | apply below_drew1 | refine below_set ?_ GE154.out | refine below_set ?_ GE155.out | refine below_set ?_ GE162.out | refine below_set ?_ GE214.out | refine below_set ?_ GE215.out) | exact HB.out)⟩
      ·replace c60 := Bool.eq_false_iff.mpr c60
       subst c60
       have H1 : ((xor_Get_1.f 2).bind fun bt201 => (some (bt201.1, bt201.2.1, bt201.2.2.1, bt201.2.2.2.1, bt201.2.2.2.2.1, bt201.2.2.2.2.2))) = some (r1, r2, r3, r4, r5, r6) := by rw [if_neg (show ¬ (false = true) by decide)] at H; exact H
       clear H
       have H := H1
       clear H1
       replace H := Option.bind_eq_some_iff.mp H
       obtain ⟨⟨t201, t202, t203, t204, t205, t206⟩, A1360, H⟩ := H
       replace H : (some (t201, t202, t203, t204, t205, t206)) = some (r1, r2, r3, r4, r5, r6) := H
       have A136 := Aside0.mk A1360
       clear A1360
       simp only [Option.some.injEq, Prod.mk.injEq] at H
       obtain ⟨rfl, rfl, rfl, rfl, rfl, rfl⟩ := H
       obtain ⟨ASz137_0, cSz137_0, HGz137, hgz137, HSz137_0, HLSz137_0⟩ := HI162.out
       have hcz137_0 := cellS99_0 HGz137
       have hcz137_1 := cellS99_1 HGz137
       have hcz137_2 := cellS99_2 HGz137
       have hfz137_0 := blk_frozen HGz137 0
       have hfz137_1 := blk_frozen HGz137 1
       have hfz137_2 := blk_frozen HGz137 2
       clear HGz137 hgz137
       go_wp2_with (first | (go_at_call 47; (with_reducible refine (xor_Get_1.calls 2 t201 t202 t203 t204 t205 t206 _ A136.out).mono ?_); rintro e w138 ⟨rfl, hb⟩; replace BK154 := kB BK154 hb; replace BK155 := kB BK155 hb; replace HB := Aside0.mk (below_step (IsS99.kl HB) hb); replace HI162 := Aside0.mk (IsS99.below (IsS99.k HI162) hb); (try clear hb); (try clear hb2); (try clear hk); (try clear hi); (try simp only [errW_none, errW_some]); have hnb139 := NB155_154.out; have hnc139 := NB154_155.out; have hnb140 := NB155_162.out; have hnc140 := NB162_155.out; have hcz141_0 : w138.cell? ⟨gb155, 0, none⟩ = some (.int .u64 x156000_13) := (blk_cell BK155.out 0).trans rfl; have hcz141_1 : w138.cell? ⟨gb155, 1, none⟩ = some (.int .i64 x156001_13) := (blk_cell BK155.out 1).trans rfl; have hcz141_2 : w138.cell? ⟨gb155, 2, none⟩ = some (.int .i64 x156002_13) := (blk_cell BK155.out 2).trans rfl; have hfz141_0 := blk_frozen BK155.out 0; have hfz141_1 := blk_frozen BK155.out 1; have hfz141_2 := blk_frozen BK155.out 2))
       refine bodyPost_ret (results_list (rs := [.tmp 6, .cell 7 24, .tmp 8, .tmp 9]) rfl (by simp) (.tmp (.cell gb155 24 #[.int .u64 t202, .int .i64 t203, .int .i64 t204] (0, 0) _ rfl (kb BK155) Tryd.underlying24 rfl (by kernel_rfl) (.tmp (.tmp .nil))))) rfl ?_
       exact ⟨by first | rfl | (simp [errW_none, errW_some] <;> rfl) | (simp [*, errW_none, errW_some] <;> rfl), by repeat (first | (with_reducible first | exact HB.out | apply below_alloc | apply pw_below_drewN | apply below_drew1 | refine below_set ?_ (IsS99.ge HI162.out) | refine below_set ?_ GE154.out | refine below_set ?_ GE155.out) | exact HB.out)⟩

end Go.Proofs.YtiahbcaoikoogaaDoor.All
