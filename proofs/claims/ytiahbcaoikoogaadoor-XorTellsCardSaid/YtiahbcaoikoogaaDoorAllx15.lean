-- written by a program of the session out of the translation; Lean checks it
import Derived.Test.YtiahbcaoikoogaaDoorAllx0
import Derived.Test.YtiahbcaoikoogaaDoorAllx14
namespace Go.Proofs.YtiahbcaoikoogaaDoor.All
open Go.RowKit Go.Proofs.YtiahbcaoikoogaaDoorW.PrintWords Go.Proofs.YtiahbcaoikoogaaDoorW.PrintLast Go.Proofs.YtiahbcaoikoogaaDoorW.PrintMore
attribute [local go_sem] max2_int min2_int max_two min_two max_three min_three max_four min_four   -- for this text's walks alone
set_option linter.unusedVariables false
set_option linter.unusedSimpArgs false

/-! ### gaiterref01_Code: function 15 -/
mutual
def gaiterref01_Code.l0 : Nat → Int → List Int → Int → Int → Int → Int → Int → Int → Option (List Int × Int × Int × Int)
 | 0, _, _, _, _, _, _, _, _ => none
 | k + 1, x1, x6, x7, x8, x9, x260000, x260001, x260002 => if x9 < 64 then (if 0 ≤ x9 then (if x9 < (x6.length : Int) then (if (rd x6 x9) = 1 then (if x7 < 0 then (gaiterref01_Code.l0 k x1 x6 x9 x9 (wrap64 (x9 + 1)) x260000 x260001 x260002) else (gaiterref01_Code.l0 k x1 x6 x7 x9 (wrap64 (x9 + 1)) x260000 x260001 x260002)) else (gaiterref01_Code.l0 k x1 x6 x7 x8 (wrap64 (x9 + 1)) x260000 x260001 x260002)) else (none)) else (none)) else (if x7 < 0 then (some ((([0] : List Int)), x1, x260001, x260002)) else (if x260002 > 0 then (if x7 ≥ x260001 then (gaiterref01_Code.j1 k x6 x7 x8 (decide (x8 < (wrap64 (x260001 + x260002)))) x260000 x260001 x260002 x1 x260001 x260002) else (gaiterref01_Code.j1 k x6 x7 x8 false x260000 x260001 x260002 x1 x260001 x260002)) else (gaiterref01_Code.j1 k x6 x7 x8 false x260000 x260001 x260002 x1 x260001 x260002)))
def gaiterref01_Code.j1 : Nat → List Int → Int → Int → Bool → Int → Int → Int → Int → Int → Int → Option (List Int × Int × Int × Int)
 | 0, _, _, _, _, _, _, _, _, _, _ => none
 | k + 1, x6, x7, x8, x57, x260000, x260001, x260002, x266000, x266001, x266002 => if x57 = true then ((some (([1, 0] : List Int) : List Int)).bind fun y269 => (if 0 ≤ x260001 then (if x260001 ≤ (wrap64 (x260001 + x260002)) then (if (wrap64 (x260001 + x260002)) ≤ (x6.length : Int) then ((some ((x6.take ((wrap64 (x260001 + x260002)) : Int).toNat).drop (x260001 : Int).toNat : List Int)).bind fun y272 => (if y269.length + y272.length < 140737488355328 then (some ((y269 ++ y272), x266000, x266001, x266002)) else (none))) else (none)) else (none)) else (none))) else ((some (([1, 1] : List Int) : List Int)).bind fun y279 => ((gaiterref01_Low.f k (IntKind.u64.wrap (x7)) 6).bind fun t282 => (if y279.length + t282.length < 140737488355328 then ((some (y279 ++ t282 : List Int)).bind fun y285 => ((gaiterref01_Low.f k (IntKind.u64.wrap (wrap64 ((wrap64 ((wrap64 (x8 - x7)) + 1)) - 1))) 6).bind fun t288 => (if y285.length + t288.length < 140737488355328 then ((some (y285 ++ t288 : List Int)).bind fun y291 => (if 0 ≤ x7 then (if x7 ≤ (wrap64 (x8 + 1)) then (if (wrap64 (x8 + 1)) ≤ (x6.length : Int) then ((some ((x6.take ((wrap64 (x8 + 1)) : Int).toNat).drop (x7 : Int).toNat : List Int)).bind fun y294 => (if y291.length + y294.length < 140737488355328 then (some ((y291 ++ y294), x266000, x7, wrap64 ((wrap64 (x8 - x7)) + 1))) else (none))) else (none)) else (none)) else (none))) else (none)))) else (none))))
end
def gaiterref01_Code.f (k : Nat) (a0_0 : Int) (a0_1 : Int) (a0_2 : Int) (a1 : Int) : Option (List Int × Int × Int × Int) := (gaiterref01_Low.f k (Go.bits .xor .u64 a1 a0_0) 64).bind fun t261 => (gaiterref01_Code.l0 k a1 t261 (-1) (-1) 0 a0_0 a0_1 a0_2)
theorem gaiterref01_Code.mono_l : ∀ k, (∀ y0 y1 y2 y3 y4 y5 y6 y7, LeO (gaiterref01_Code.l0 k y0 y1 y2 y3 y4 y5 y6 y7) (gaiterref01_Code.l0 (k + 1) y0 y1 y2 y3 y4 y5 y6 y7)) ∧ (∀ y0 y1 y2 y3 y4 y5 y6 y7 y8 y9, LeO (gaiterref01_Code.j1 k y0 y1 y2 y3 y4 y5 y6 y7 y8 y9) (gaiterref01_Code.j1 (k + 1) y0 y1 y2 y3 y4 y5 y6 y7 y8 y9))
 | 0 => ⟨fun _ _ _ _ _ _ _ _ r h => by simp [gaiterref01_Code.l0] at h, fun _ _ _ _ _ _ _ _ _ _ r h => by simp [gaiterref01_Code.j1] at h⟩
 | k + 1 => by
  obtain ⟨ih0, ih1⟩ := gaiterref01_Code.mono_l k
  refine ⟨?_, ?_⟩
  ·intro y0 y1 y2 y3 y4 y5 y6 y7
   unfold gaiterref01_Code.l0
   repeat' first
   | (with_reducible exact ih0 _ _ _ _ _ _ _ _)
   | (with_reducible exact ih1 _ _ _ _ _ _ _ _ _ _)
   | (with_reducible exact gaiterref01_Low.mono _ _ _)
   | (with_reducible exact LeO.refl _)
   | (with_reducible exact LeO.none _)
   | (with_reducible refine LeO.ite ?_ ?_)
   | (with_reducible refine LeO.bind ?_ (fun _ => ?_))
   | exact ih0 _ _ _ _ _ _ _ _
   | exact ih1 _ _ _ _ _ _ _ _ _ _
   | exact gaiterref01_Low.mono _ _ _
   | exact LeO.none _
   | refine LeO.ite ?_ ?_
   | refine LeO.bind ?_ (fun _ => ?_)
  ·intro y0 y1 y2 y3 y4 y5 y6 y7 y8 y9
   unfold gaiterref01_Code.j1
   repeat' first
   | (with_reducible exact ih0 _ _ _ _ _ _ _ _)
   | (with_reducible exact ih1 _ _ _ _ _ _ _ _ _ _)
   | (with_reducible exact gaiterref01_Low.mono _ _ _)
   | (with_reducible exact LeO.refl _)
   | (with_reducible exact LeO.none _)
   | (with_reducible refine LeO.ite ?_ ?_)
   | (with_reducible refine LeO.bind ?_ (fun _ => ?_))
   | exact ih0 _ _ _ _ _ _ _ _
   | exact ih1 _ _ _ _ _ _ _ _ _ _
   | exact gaiterref01_Low.mono _ _ _
   | exact LeO.none _
   | refine LeO.ite ?_ ?_
   | refine LeO.bind ?_ (fun _ => ?_)
theorem gaiterref01_Code.mono : ∀ a0 a1 a2 a3 k, LeO (gaiterref01_Code.f k a0 a1 a2 a3) (gaiterref01_Code.f (k + 1) a0 a1 a2 a3) := by
 intro a0 a1 a2 a3 k
 obtain ⟨ih0, ih1⟩ := gaiterref01_Code.mono_l k
 unfold gaiterref01_Code.f
 repeat' first
   | (with_reducible exact ih0 _ _ _ _ _ _ _ _)
   | (with_reducible exact ih1 _ _ _ _ _ _ _ _ _ _)
   | (with_reducible exact gaiterref01_Low.mono _ _ _)
   | (with_reducible exact LeO.refl _)
   | (with_reducible exact LeO.none _)
   | (with_reducible refine LeO.ite ?_ ?_)
   | (with_reducible refine LeO.bind ?_ (fun _ => ?_))
   | exact ih0 _ _ _ _ _ _ _ _
   | exact ih1 _ _ _ _ _ _ _ _ _ _
   | exact gaiterref01_Low.mono _ _ _
   | exact LeO.none _
   | refine LeO.ite ?_ ?_
   | refine LeO.bind ?_ (fun _ => ?_)
def gaiterref01_Code.T15 : Bool × List (List Nat × List Nat) := (true, [([], []), ([], []), ([], []), ([2], [2]), ([], []), ([4], [4]), ([], []), ([6], [6]), ([5, 7], [5, 7]), ([1, 3, 8], [1, 3, 8]), ([0, 9], [0, 9]), ([], []), ([10, 10, 0, 1, 2, 3, 4, 5, 6, 7, 8, 9, 10], [10]), ([11, 12, 0, 1, 2, 3, 4, 5, 6, 7, 8, 9, 10, 11, 12], [11])])
def gaiterref01_Code.B15 : List Nat := [0, 0, 0, 4, 0, 16, 0, 64, 240, 510, 1023, 0, 2047, 8191]
theorem gaiterref01_Code.tab15 : rtab .any (opsOf Tryd.f15 15) = gaiterref01_Code.T15 := by kernel_rfl
theorem gaiterref01_Code.bits15 : waitsOk gaiterref01_Code.T15.2 gaiterref01_Code.B15 = true := by kernel_rfl
def gaiterref01_Code.T20 : Bool × List (List Nat × List Nat) := (true, [([], []), ([], []), ([], []), ([], []), ([3], [3]), ([1, 2, 4], [1, 2, 4]), ([0, 5], [0, 5]), ([], []), ([6, 6, 0, 1, 2, 3, 4, 5, 6], [6]), ([7, 8, 0, 1, 2, 3, 4, 5, 6, 7, 8], [7])])
def gaiterref01_Code.B20 : List Nat := [0, 0, 0, 0, 8, 30, 63, 0, 127, 511]
theorem gaiterref01_Code.tab20 : rtab .any (opsOf Tryd.f15 20) = gaiterref01_Code.T20 := by kernel_rfl
theorem gaiterref01_Code.bits20 : waitsOk gaiterref01_Code.T20.2 gaiterref01_Code.B20 = true := by kernel_rfl
set_option maxHeartbeats 8000000 in
set_option maxRecDepth 100000 in
theorem gaiterref01_Code.calls (k : Nat) (a0_0 : Int) (a0_1 : Int) (a0_2 : Int) (a1 : Int) (r1 : List Int) (r2 : Int) (r3 : Int) (r4 : Int) (w : World) (h : gaiterref01_Code.f k a0_0 a0_1 a0_2 a1 = some (r1, r2, r3, r4)) :
  Calls Tryd.prog 15 #[.agg #[.int .u64 a0_0, .int .i64 a0_1, .int .i64 a0_2], .int .u64 a1] w fun e w' => ∃ v0_ : Value, e = .returned (.tuple #[v0_, .agg #[.int .u64 r2, .int .i64 r3, .int .i64 r4]]) ∧ Kd.R (Kd.int .u8) 5 w' w.heap.size (fun _ => True) v0_ r1 ∧ Below w.heap.size w w' := by
 have hu27 := Tryd.underlying27
 have HB := Aside0.mk (Below.refl w.heap.size w)
 have H : ((gaiterref01_Low.f k (Go.bits .xor .u64 a1 a0_0) 64).bind fun t261 => (gaiterref01_Code.l0 k a1 t261 (-1) (-1) 0 a0_0 a0_1 a0_2)) = some (r1, r2, r3, r4) := h
 clear h
 replace H := Option.bind_eq_some_iff.mp H
 obtain ⟨t261, A30, H⟩ := H
 replace H : (gaiterref01_Code.l0 k a1 t261 (-1) (-1) 0 a0_0 a0_1 a0_2) = some (r1, r2, r3, r4) := H
 have A3 := Aside0.mk A30
 clear A30
 have H' := Aside0.mk H
 clear H
 go_enter Tryd.func15, Tryd.ntmps15
 go_wp2_with (first | ((with_reducible refine gate_dst (N := 2) rfl ?_); refine box_event ?hg (N := 2) ?hd (cs := #[.int .u64 a0_0, .int .i64 a0_1, .int .i64 a0_2]) (t := 27) ?hr ?_; (case hd => rfl); (case hg => rfl); (case hr => first | (go_simp; done) | (go_simp; rfl)); intro gb259 hg w4 hbox hb; have BK259 := Aside0.mk (hbox); have GW259 := kG hg HB; have GE259 := kG hg HB; replace HB := kH HB hb; clear hb hbox hg) | ((with_reducible refine gate_dst (N := 5) rfl ?_); refine box_event ?hg (N := 5) ?hd (cs := #[.int .u64 0, .int .i64 0, .int .i64 0]) (t := 27) ?hr ?_; (case hd => rfl); (case hg => rfl); (case hr => first | (go_simp; done) | (go_simp; rfl)); intro gb260 hg w5 hbox hb; have BK260 := Aside0.mk (hbox); have GW260 := kG hg HB; have GE260 := kG hg HB; replace HB := kH HB hb; obtain ⟨NB259_260, NB260_259⟩ := kN hg BK259; replace BK259 := kB BK259 hb; clear hb hbox hg; have hnb6 := NB259_260.out; have hnc6 := NB260_259.out; have hcz7_0 : w5.cell? ⟨gb259, 0, none⟩ = some (.int .u64 a0_0) := (blk_cell BK259.out 0).trans rfl; have hcz7_1 : w5.cell? ⟨gb259, 1, none⟩ = some (.int .i64 a0_1) := (blk_cell BK259.out 1).trans rfl; have hcz7_2 : w5.cell? ⟨gb259, 2, none⟩ = some (.int .i64 a0_2) := (blk_cell BK259.out 2).trans rfl; have hfz7_0 := blk_frozen BK259.out 0; have hfz7_1 := blk_frozen BK259.out 1; have hfz7_2 := blk_frozen BK259.out 2) | ((with_reducible refine gate_callee (f := 46) rfl ?_); refine goesL_ (some 16) rfl rfl Tryd.func46 (by kernel_rfl) rfl #[.int .u64 (Go.bits .xor .u64 a1 a0_0), .int .i64 64] rfl km ?_; (with_reducible refine (gaiterref01_Low.calls k (Go.bits .xor .u64 a1 a0_0) 64 t261 _ A3.out).mono ?_); rintro e w8 ⟨v262, rfl, ho0, hb⟩; refine ⟨_, rfl, ?_⟩; have HO263 := Aside0.mk (Kd.R_lower ho0 (below_size (kl HB))); replace BK259 := kB BK259 hb; replace BK260 := kB BK260 hb; replace HB := kH HB hb; (try clear hb); (try clear hb2); (try clear hk); (try clear hi); (try clear ho0)))
 go_loopg [7, 8, 9] k (fun kq v7 v8 v9 w' => ∃ (x7_1 : Int) (x8_1 : Int) (x9_1 : Int), v7 = .int .i64 x7_1 ∧ v8 = .int .i64 x8_1 ∧ v9 = .int .i64 x9_1 ∧ Aside0 (gaiterref01_Code.l0 kq a1 t261 x7_1 x8_1 x9_1 a0_0 a0_1 a0_2 = some (r1, r2, r3, r4)) ∧ Aside0 (kq ≤ k) ∧ Aside0 (Kd.R (Kd.int .u8) 5 w' w.heap.size (fun _ => True) v262 t261) ∧ Aside0 (w'.heap[gb259]? = some (.cells #[.int .u64 a0_0, .int .i64 a0_1, .int .i64 a0_2] 27 (0, 0))) ∧ Aside0 (w'.heap[gb260]? = some (.cells #[.int .u64 0, .int .i64 0, .int .i64 0] 27 (0, 0))) ∧ Aside0 (Below w.heap.size w w'))
 case atStart => exact ⟨((-1)), ((-1)), (0), (by first | rfl | (simp; done) | (simp [*]; done)), (by first | rfl | (simp; done) | (simp [*]; done)), (by first | rfl | (simp; done) | (simp [*]; done)), H', ⟨Nat.le_refl _⟩, ⟨by (with_reducible repeat (first | apply Kd.R_alloc | apply Kd.R_drewN | apply Kd.R_drew)); exact HO263.out⟩, ⟨by (with_reducible repeat (first | refine blk_drewN ?_ _ | refine blk_drew ?_ | refine blk_alloc ?_ _)); exact BK259.out⟩, ⟨by (with_reducible repeat (first | refine blk_drewN ?_ _ | refine blk_drew ?_ | refine blk_alloc ?_ _)); exact BK260.out⟩, ⟨by repeat (first | (with_reducible first | exact HB.out | apply below_alloc | apply pw_below_drewN | apply below_drew1 | refine below_set ?_ GE259.out | refine below_set ?_ GE260.out) | exact HB.out)⟩⟩
 case round =>
  clear H'
  try clear c1
  try clear p2
  try clear c4
  try clear c6
  try clear hcz7_0
  try clear hcz7_1
  try clear hcz7_2
  try clear hfz7_0
  try clear hfz7_1
  try clear hfz7_2
  obtain ⟨x7_1, x8_1, x9_1, rfl, rfl, rfl, HA, HK1, HO_6, BK259, BK260, HB⟩ := hrel
  cases gk with
  | zero => exact absurd HA.out (by simp [gaiterref01_Code.l0])
  | succ k1 =>
   have H := HA.out
   clear HA
   simp only [gaiterref01_Code.l0] at H
   by_cases c9 : x9_1 < 64
   ·rw [if_pos c9] at H
    have c9b0 : decide (x9_1 < 64) = true := decide_eq_true c9
    clear c9
    by_cases c10 : 0 ≤ x9_1
    ·rw [if_pos c10] at H
     have c10b0 : decide (0 ≤ x9_1) = true := decide_eq_true c10
     clear c10
     by_cases c11 : x9_1 < (t261.length : Int)
     ·rw [if_pos c11] at H
      have c11b0 : decide (x9_1 < (t261.length : Int)) = true := decide_eq_true c11
      clear c11
      by_cases c12 : (rd t261 x9_1) = 1
      ·rw [if_pos c12] at H
       have c12b0 : ((rd t261 x9_1) == 1) = true := beq_iff_eq.mpr c12
       have c12b1 : ((rd t261 x9_1) != 1) = false := bne_eq_false_iff_eq.mpr c12
       clear c12
       by_cases c13 : x7_1 < 0
       ·rw [if_pos c13] at H
        have c13b0 : decide (x7_1 < 0) = true := decide_eq_true c13
        clear c13
        have H' := Aside0.mk H
        clear H
        obtain ⟨Ao14, co14, eo14⟩ := Kd.R_slice HO_6.out
        subst eo14
        have p264 : 0 ≤ (x9_1 : Int) := of_decide_eq_true (by first | (with_reducible assumption) | assumption)
        have q264 : x9_1 < (t261.length : Int) := of_decide_eq_true (by first | (with_reducible assumption) | assumption)
        obtain ⟨ad264, e264, hx264_0⟩ := Kd.at_int (Kd.R_reads' HO_6.out).2.2 x9_1 p264 q264
        cases e264
        replace p264 := eq_true p264
        (try (have q264s := q264; simp only [List.length_drop, List.length_take] at q264s; replace q264s := eq_true q264s)); replace q264 := eq_true q264
        go_wp2
        go_roundg k1
        case measure => have := HK1.out; omega
        case rel => exact ⟨(x9_1), (x9_1), (wrap64 (x9_1 + 1)), (by first | rfl | (simp; done) | (simp [*]; done)), (by first | rfl | (simp; done) | (simp [*]; done)), (by first | rfl | (simp; done) | (simp [*]; done)), H', ⟨by have := HK1.out; omega⟩, ⟨by (with_reducible repeat (first | apply Kd.R_alloc | apply Kd.R_drewN | apply Kd.R_drew)); exact HO_6.out⟩, ⟨by (with_reducible repeat (first | refine blk_drewN ?_ _ | refine blk_drew ?_ | refine blk_alloc ?_ _)); exact BK259.out⟩, ⟨by (with_reducible repeat (first | refine blk_drewN ?_ _ | refine blk_drew ?_ | refine blk_alloc ?_ _)); exact BK260.out⟩, ⟨by repeat (first | (with_reducible first | exact HB.out | apply below_alloc | apply pw_below_drewN | apply below_drew1 | refine below_set ?_ GE259.out | refine below_set ?_ GE260.out) | exact HB.out)⟩⟩
       ·rw [if_neg c13] at H
        have c13b0 : decide (x7_1 < 0) = false := decide_eq_false c13
        clear c13
        have H' := Aside0.mk H
        clear H
        obtain ⟨Ao15, co15, eo15⟩ := Kd.R_slice HO_6.out
        subst eo15
        have p264 : 0 ≤ (x9_1 : Int) := of_decide_eq_true (by first | (with_reducible assumption) | assumption)
        have q264 : x9_1 < (t261.length : Int) := of_decide_eq_true (by first | (with_reducible assumption) | assumption)
        obtain ⟨ad264, e264, hx264_0⟩ := Kd.at_int (Kd.R_reads' HO_6.out).2.2 x9_1 p264 q264
        cases e264
        replace p264 := eq_true p264
        (try (have q264s := q264; simp only [List.length_drop, List.length_take] at q264s; replace q264s := eq_true q264s)); replace q264 := eq_true q264
        go_wp2
        go_roundg k1
        case measure => have := HK1.out; omega
        case rel => exact ⟨(x7_1), (x9_1), (wrap64 (x9_1 + 1)), (by first | rfl | (simp; done) | (simp [*]; done)), (by first | rfl | (simp; done) | (simp [*]; done)), (by first | rfl | (simp; done) | (simp [*]; done)), H', ⟨by have := HK1.out; omega⟩, ⟨by (with_reducible repeat (first | apply Kd.R_alloc | apply Kd.R_drewN | apply Kd.R_drew)); exact HO_6.out⟩, ⟨by (with_reducible repeat (first | refine blk_drewN ?_ _ | refine blk_drew ?_ | refine blk_alloc ?_ _)); exact BK259.out⟩, ⟨by (with_reducible repeat (first | refine blk_drewN ?_ _ | refine blk_drew ?_ | refine blk_alloc ?_ _)); exact BK260.out⟩, ⟨by repeat (first | (with_reducible first | exact HB.out | apply below_alloc | apply pw_below_drewN | apply below_drew1 | refine below_set ?_ GE259.out | refine below_set ?_ GE260.out) | exact HB.out)⟩⟩
      ·rw [if_neg c12] at H
       have c12b0 : ((rd t261 x9_1) == 1) = false := beq_eq_false_iff_ne.mpr c12
       have c12b1 : ((rd t261 x9_1) != 1) = true := bne_iff_ne.mpr c12
       have H' := Aside0.mk H
       clear H
       obtain ⟨Ao16, co16, eo16⟩ := Kd.R_slice HO_6.out
       subst eo16
       have p264 : 0 ≤ (x9_1 : Int) := of_decide_eq_true (by first | (with_reducible assumption) | assumption)
       have q264 : x9_1 < (t261.length : Int) := of_decide_eq_true (by first | (with_reducible assumption) | assumption)
       obtain ⟨ad264, e264, hx264_0⟩ := Kd.at_int (Kd.R_reads' HO_6.out).2.2 x9_1 p264 q264
       cases e264
       replace p264 := eq_true p264
       (try (have q264s := q264; simp only [List.length_drop, List.length_take] at q264s; replace q264s := eq_true q264s)); replace q264 := eq_true q264
       go_wp2
       go_roundg k1
       case measure => have := HK1.out; omega
       case rel => exact ⟨(x7_1), (x8_1), (wrap64 (x9_1 + 1)), (by first | rfl | (simp; done) | (simp [*]; done)), (by first | rfl | (simp; done) | (simp [*]; done)), (by first | rfl | (simp; done) | (simp [*]; done)), H', ⟨by have := HK1.out; omega⟩, ⟨by (with_reducible repeat (first | apply Kd.R_alloc | apply Kd.R_drewN | apply Kd.R_drew)); exact HO_6.out⟩, ⟨by (with_reducible repeat (first | refine blk_drewN ?_ _ | refine blk_drew ?_ | refine blk_alloc ?_ _)); exact BK259.out⟩, ⟨by (with_reducible repeat (first | refine blk_drewN ?_ _ | refine blk_drew ?_ | refine blk_alloc ?_ _)); exact BK260.out⟩, ⟨by repeat (first | (with_reducible first | exact HB.out | apply below_alloc | apply pw_below_drewN | apply below_drew1 | refine below_set ?_ GE259.out | refine below_set ?_ GE260.out) | exact HB.out)⟩⟩
     ·rw [if_neg c11] at H
      exact absurd H (by simp)
    ·rw [if_neg c10] at H
     exact absurd H (by simp)
   ·rw [if_neg c9] at H
    have c9b0 : decide (x9_1 < 64) = false := decide_eq_false c9
    clear c9
    by_cases c17 : x7_1 < 0
    ·rw [if_pos c17] at H
     have c17b0 : decide (x7_1 < 0) = true := decide_eq_true c17
     clear c17
     obtain ⟨y266, hy266⟩ : ∃ y_ : List Int, y_ = (([0] : List Int)) := ⟨_, rfl⟩
     replace H : (some (y266, a1, a0_1, a0_2)) = some (r1, r2, r3, r4) := by first | (rw [hy266]; with_reducible exact H) | (have H2_ := (Option.bind_some _ _).symm.trans H; rw [hy266]; with_reducible exact H2_) | (have H2_ := (Option.bind_some _ _).symm.trans H; with_reducible exact H2_) | with_reducible exact H | (rw [hy266]; exact H) | exact H
     have Ny266 := Aside0.mk hy266
     clear hy266
     simp only [Option.some.injEq, Prod.mk.injEq] at H
     obtain ⟨rfl, rfl, rfl, rfl⟩ := H
     have hnb18 := NB259_260.out
     have hnc18 := NB260_259.out
     obtain ⟨hcz19_0, hcz19_1, hcz19_2⟩ := kc3 BK259
     obtain ⟨hfz19_0, hfz19_1, hfz19_2⟩ := kf3 BK259
     try go_wp2_with (first | ((with_reducible refine gate_dst (N := 10) rfl ?_); refine box_event ?hg (N := 10) ?hd (cs := #[.int .u64 0, .int .i64 0, .int .i64 0]) (t := 27) ?hr ?_; (case hd => rfl); (case hg => rfl); (case hr => first | (go_simp; done) | (go_simp; rfl)); intro gb265 hg w20 hbox hb; replace HO_6 := Aside0.mk (Kd.R_below (kr HO_6) hb); have BK265 := Aside0.mk (hbox); have GW265 := kG hg HB; have GE265 := kG hg HB; replace HB := kH HB hb; obtain ⟨NB259_265, NB265_259⟩ := kN hg BK259; replace BK259 := kB BK259 hb; obtain ⟨NB260_265, NB265_260⟩ := kN hg BK260; replace BK260 := kB BK260 hb; clear hb hbox hg; have hnb21 := NB265_259.out; have hnc21 := NB259_265.out; have hnb22 := NB265_260.out; have hnc22 := NB260_265.out; have hcz23_0 : w20.cell? ⟨gb265, 0, none⟩ = some (.int .u64 0) := (blk_cell BK265.out 0).trans rfl; have hcz23_1 : w20.cell? ⟨gb265, 1, none⟩ = some (.int .i64 0) := (blk_cell BK265.out 1).trans rfl; have hcz23_2 : w20.cell? ⟨gb265, 2, none⟩ = some (.int .i64 0) := (blk_cell BK265.out 2).trans rfl; have hfz23_0 := blk_frozen BK265.out 0; have hfz23_1 := blk_frozen BK265.out 1; have hfz23_2 := blk_frozen BK265.out 2))
     have n0_ : Aside0 (Kd.R (Kd.int .u8) 5 (((w20.setCell ⟨gb265, 0, none⟩ (.int .u64 a1)).setCell ⟨gb265, 1, none⟩ (.int .i64 a0_1)).setCell ⟨gb265, 2, none⟩ (.int .i64 a0_2)) w.heap.size (fun _ => True) v262 t261) := ⟨by (with_reducible repeat (first | apply Kd.R_alloc | apply Kd.R_drewN | apply Kd.R_drew)); exact Kd.R_mono (Kd.R_far (p := ⟨gb265, 2, none⟩) (Kd.R_far (p := ⟨gb265, 1, none⟩) (Kd.R_far (p := ⟨gb265, 0, none⟩) (Kd.R_types HO_6.out BK265.out (by decide)) (fun _ hk => hk.2) (.int .u64 a1)) (fun _ hk => hk.2) (.int .i64 a0_1)) (fun _ hk => hk.2) (.int .i64 a0_2)) (fun _ hk => trivial)⟩
     have n1_ : Aside0 ((((w20.setCell ⟨gb265, 0, none⟩ (.int .u64 a1)).setCell ⟨gb265, 1, none⟩ (.int .i64 a0_1)).setCell ⟨gb265, 2, none⟩ (.int .i64 a0_2)).heap[gb259]? = some (.cells #[.int .u64 a0_0, .int .i64 a0_1, .int .i64 a0_2] 27 (0, 0))) := ⟨by (with_reducible repeat (first | refine blk_drewN ?_ _ | refine blk_drew ?_ | refine blk_alloc ?_ _)); refine blk_far ?_ NB259_265.out _; (with_reducible repeat (first | refine blk_drewN ?_ _ | refine blk_drew ?_ | refine blk_alloc ?_ _)); refine blk_far ?_ NB259_265.out _; (with_reducible repeat (first | refine blk_drewN ?_ _ | refine blk_drew ?_ | refine blk_alloc ?_ _)); refine blk_far ?_ NB259_265.out _; (with_reducible repeat (first | refine blk_drewN ?_ _ | refine blk_drew ?_ | refine blk_alloc ?_ _)); exact BK259.out⟩
     have n2_ : Aside0 ((((w20.setCell ⟨gb265, 0, none⟩ (.int .u64 a1)).setCell ⟨gb265, 1, none⟩ (.int .i64 a0_1)).setCell ⟨gb265, 2, none⟩ (.int .i64 a0_2)).heap[gb260]? = some (.cells #[.int .u64 0, .int .i64 0, .int .i64 0] 27 (0, 0))) := ⟨by (with_reducible repeat (first | refine blk_drewN ?_ _ | refine blk_drew ?_ | refine blk_alloc ?_ _)); refine blk_far ?_ NB260_265.out _; (with_reducible repeat (first | refine blk_drewN ?_ _ | refine blk_drew ?_ | refine blk_alloc ?_ _)); refine blk_far ?_ NB260_265.out _; (with_reducible repeat (first | refine blk_drewN ?_ _ | refine blk_drew ?_ | refine blk_alloc ?_ _)); refine blk_far ?_ NB260_265.out _; (with_reducible repeat (first | refine blk_drewN ?_ _ | refine blk_drew ?_ | refine blk_alloc ?_ _)); exact BK260.out⟩
     have n3_ : Aside0 ((((w20.setCell ⟨gb265, 0, none⟩ (.int .u64 a1)).setCell ⟨gb265, 1, none⟩ (.int .i64 a0_1)).setCell ⟨gb265, 2, none⟩ (.int .i64 a0_2)).heap[gb265]? = some (.cells #[.int .u64 a1, .int .i64 a0_1, .int .i64 a0_2] 27 (0, 0))) := ⟨by (with_reducible repeat (first | refine blk_drewN ?_ _ | refine blk_drew ?_ | refine blk_alloc ?_ _)); refine blk_put (cs := #[.int .u64 a1, .int .i64 a0_1, .int .i64 0]) ?_ 2 _ rfl; (with_reducible repeat (first | refine blk_drewN ?_ _ | refine blk_drew ?_ | refine blk_alloc ?_ _)); refine blk_put (cs := #[.int .u64 a1, .int .i64 0, .int .i64 0]) ?_ 1 _ rfl; (with_reducible repeat (first | refine blk_drewN ?_ _ | refine blk_drew ?_ | refine blk_alloc ?_ _)); refine blk_put (cs := #[.int .u64 0, .int .i64 0, .int .i64 0]) ?_ 0 _ rfl; (with_reducible repeat (first | refine blk_drewN ?_ _ | refine blk_drew ?_ | refine blk_alloc ?_ _)); exact BK265.out⟩
     have n4_ : Aside0 (Below w.heap.size w (((w20.setCell ⟨gb265, 0, none⟩ (.int .u64 a1)).setCell ⟨gb265, 1, none⟩ (.int .i64 a0_1)).setCell ⟨gb265, 2, none⟩ (.int .i64 a0_2))) := ⟨by repeat (first | (with_reducible first | exact HB.out | apply below_alloc | apply pw_below_drewN | apply below_drew1 | refine below_set ?_ GE259.out | refine below_set ?_ GE260.out | refine below_set ?_ GE265.out) | exact HB.out)⟩
     (try clear HO_6)
     (try clear BK259)
     (try clear BK260)
     (try clear BK265)
     (try clear HB)
     generalize (((w20.setCell ⟨gb265, 0, none⟩ (.int .u64 a1)).setCell ⟨gb265, 1, none⟩ (.int .i64 a0_1)).setCell ⟨gb265, 2, none⟩ (.int .i64 a0_2)) = w24 at n0_ n1_ n2_ n3_ n4_ ⊢
     have HO_6 := n0_
     have BK259 := n1_
     have BK260 := n2_
     have BK265 := n3_
     have HB := n4_
     clear n0_ n1_ n2_ n3_ n4_
     replace HO_6 := Aside0.mk (Kd.R_drew HO_6.out)
     replace BK259 := Aside0.mk (blk_drew BK259.out)
     replace BK260 := Aside0.mk (blk_drew BK260.out)
     replace BK265 := Aside0.mk (blk_drew BK265.out)
     replace HB := Aside0.mk (below_drew1 HB.out)
     refine start_ (n := 4) (S := fun w' => w'.cell? ⟨gb265, 0, none⟩ = some (.int .u64 a1) ∧ w'.cell? ⟨gb265, 1, none⟩ = some (.int .i64 a0_1) ∧ w'.cell? ⟨gb265, 2, none⟩ = some (.int .i64 a0_2)) (ds := []) (bl 4 0) (by kernel_rfl) rfl rfl kz (fun hHeld => ?_)
     generalize w24.drew = w25 at HO_6 BK259 BK260 BK265 HB hHeld ⊢
     refine ta 1 (some 39) (bl 4 2) (h := ?_)
     refine one_ (i := 0) (N := some 38) #[true, true, false, false] rfl rfl (by kernel_rfl) (by decide) (fun K hK => ?_)
     refine Kd.R_lit_step (Kd.int .u8) _ 5 ?hg (N := 38) ?hd (xs := ([0] : List Int)) (inner := [.int .u8 0]) (ok := fun _ => True) (okp := fun _ => True) ?hr ?hp (fun _ hk => hk) trivial (Below.refl _ _) (Nat.le_refl _) (by simp) ?_; (case hd => rfl); (case hg => rfl); (case hr => first | (go_simp; done) | (go_simp; rfl)); (case hp => exact (Reps.one (show Kd.M (Kd.int .u8) _ _ _ 0 [.int .u8 0] from rfl) (Reps.none _ _)))
     intro v267 w26 ho27 hb hg_ hnew_
     clear hg_ hnew_
     (first | rw [← Ny266.out] at ho27 | (simp only [Int.reduceToNat] at ho27; rw [← Ny266.out] at ho27))
     have HO268 := Aside0.mk (Kd.R_lower (Kd.R_new' ho27 (Kd.R_lt (kr HO_6))) (below_size (kl HB)))
     replace HO_6 := Aside0.mk (Kd.R_elder' (kr HO_6) (Kd.R_base ho27) hb)
     replace BK259 := kB BK259 hb
     replace BK260 := kB BK260 hb
     replace BK265 := kB BK265 hb
     replace HB := kH HB hb
     clear hb ho27
     refine hK.out _ _ kz (fun hHeld => ?_)
     clear hK K
     refine norm_ (a' := ?_) ?_ ?_
     rotate_left
     ·show Act.put _ (some 38) _ = _
      simp only [Act.put, List.setIfInBounds_toArray, List.set_cons_zero, List.set_cons_succ, i64_w, i32_w]
      rfl
     refine pu 2 (some 4) (bl 4 7) (h := ?_)
     refine one_ (i := 3) (N := none) #[true, true, true, true] rfl rfl (by kernel_rfl) (by decide) (fun K hK => ?_)
     have hs28 : w26.cell? ⟨gb260, 0, none⟩ = some (.int .u64 0) := (blk_cell BK260.out 0).trans rfl
     have hfs28 := blk_frozen BK260.out 0
     have hns28_0 := NB259_260.out
     have hns28_2 := NB265_260.out
     have hms28_0 := NB260_259.out
     have hms28_2 := NB260_265.out
     have hs29 : w26.cell? ⟨gb260, 1, none⟩ = some (.int .i64 0) := (blk_cell BK260.out 1).trans rfl
     have hfs29 := blk_frozen BK260.out 1
     have hs30 : w26.cell? ⟨gb260, 2, none⟩ = some (.int .i64 0) := (blk_cell BK260.out 2).trans rfl
     have hfs30 := blk_frozen BK260.out 2
     refine skip_ (w1 := ?_) (by rfl) rfl ?_ ?_
     rotate_left
     ·go_simp
      rfl
     refine hK.out _ _ (ks hHeld) (fun hHeld => ?_)
     clear hK K
     refine done_ (by kernel_rfl) ?_
     try go_wp2
     refine bodyPost_ret (results_tc rfl _ _ gb260 27 #[.int .u64 a1, .int .i64 a0_1, .int .i64 a0_2] (0, 0) _ rfl (kb BK260) Tryd.underlying27 rfl (by kernel_rfl)) rfl ?_
     exact ⟨_, by first | rfl | (simp [errW_none, errW_some] <;> rfl) | (simp [*, errW_none, errW_some] <;> rfl), by (with_reducible repeat (first | apply Kd.R_alloc | apply Kd.R_drewN | apply Kd.R_drew)); exact Kd.R_mono (Kd.R_far (p := ⟨gb260, 2, none⟩) (Kd.R_far (p := ⟨gb260, 1, none⟩) (Kd.R_far (p := ⟨gb260, 0, none⟩) (Kd.R_types HO268.out BK260.out (by decide)) (fun _ hk => hk.2) (.int .u64 a1)) (fun _ hk => hk.2) (.int .i64 a0_1)) (fun _ hk => hk.2) (.int .i64 a0_2)) (fun _ hk => trivial), by repeat (first | (with_reducible first | exact HB.out | apply below_alloc | apply pw_below_drewN | apply below_drew1 | refine below_set ?_ GE259.out | refine below_set ?_ GE260.out | refine below_set ?_ GE265.out) | exact HB.out)⟩
    ·rw [if_neg c17] at H
     have c17b0 : decide (x7_1 < 0) = false := decide_eq_false c17
     clear c17
     have HC31 := Aside0.mk H
     clear H
     have hnb32 := NB259_260.out
     have hnc32 := NB260_259.out
     obtain ⟨hcz33_0, hcz33_1, hcz33_2⟩ := kc3 BK259
     obtain ⟨hfz33_0, hfz33_1, hfz33_2⟩ := kf3 BK259
     go_upto_region 14 with (first | ((with_reducible refine gate_dst (N := 10) rfl ?_); refine box_event ?hg (N := 10) ?hd (cs := #[.int .u64 0, .int .i64 0, .int .i64 0]) (t := 27) ?hr ?_; (case hd => rfl); (case hg => rfl); (case hr => first | (go_simp; done) | (go_simp; rfl)); intro gb265 hg w34 hbox hb; replace HO_6 := Aside0.mk (Kd.R_below (kr HO_6) hb); have BK265 := Aside0.mk (hbox); have GW265 := kG hg HB; have GE265 := kG hg HB; replace HB := kH HB hb; obtain ⟨NB259_265, NB265_259⟩ := kN hg BK259; replace BK259 := kB BK259 hb; obtain ⟨NB260_265, NB265_260⟩ := kN hg BK260; replace BK260 := kB BK260 hb; clear hb hbox hg; have hnb35 := NB265_259.out; have hnc35 := NB259_265.out; have hnb36 := NB265_260.out; have hnc36 := NB260_265.out; have hcz37_0 : w34.cell? ⟨gb265, 0, none⟩ = some (.int .u64 0) := (blk_cell BK265.out 0).trans rfl; have hcz37_1 : w34.cell? ⟨gb265, 1, none⟩ = some (.int .i64 0) := (blk_cell BK265.out 1).trans rfl; have hcz37_2 : w34.cell? ⟨gb265, 2, none⟩ = some (.int .i64 0) := (blk_cell BK265.out 2).trans rfl; have hfz37_0 := blk_frozen BK265.out 0; have hfz37_1 := blk_frozen BK265.out 1; have hfz37_2 := blk_frozen BK265.out 2))
     (try simp only [Act.put, List.setIfInBounds_toArray, List.set_cons_zero, List.set_cons_succ])
     go_cut [57] (fun v57 wc => ∃ (kq : Nat) (x57_30 : Bool), v57 = .bool x57_30 ∧ Aside0 (gaiterref01_Code.j1 kq t261 x7_1 x8_1 x57_30 a0_0 a0_1 a0_2 a1 a0_1 a0_2 = some (r1, r2, r3, r4)) ∧ Aside0 (kq ≤ k1) ∧ Aside0 (Kd.R (Kd.int .u8) 5 wc w.heap.size (fun _ => True) v262 t261) ∧ Aside0 (wc.heap[gb259]? = some (.cells #[.int .u64 a0_0, .int .i64 a0_1, .int .i64 a0_2] 27 (0, 0))) ∧ Aside0 (wc.heap[gb260]? = some (.cells #[.int .u64 0, .int .i64 0, .int .i64 0] 27 (0, 0))) ∧ Aside0 (wc.heap[gb265]? = some (.cells #[.int .u64 a1, .int .i64 a0_1, .int .i64 a0_2] 27 (0, 0))) ∧ Aside0 (Below w.heap.size w wc))
     case first =>
      have H := HC31.out
      clear HC31
      by_cases c38 : a0_2 > 0
      ·rw [if_pos c38] at H
       have c38b0 : decide (0 < a0_2) = true := decide_eq_true c38
       clear c38
       (first | rw [c38b0] | (simp only [i64_w, i32_w]; rw [c38b0]) | skip)
       by_cases c39 : x7_1 ≥ a0_1
       ·rw [if_pos c39] at H
        have c39b0 : decide (a0_1 ≤ x7_1) = true := decide_eq_true c39
        clear c39
        have H' := Aside0.mk H
        clear H
        have hnb40 := NB259_260.out
        have hnc40 := NB260_259.out
        have hnb41 := NB259_265.out
        have hnc41 := NB265_259.out
        obtain ⟨hcz42_0, hcz42_1, hcz42_2⟩ := kc3 BK259
        obtain ⟨hfz42_0, hfz42_1, hfz42_2⟩ := kf3 BK259
        go_wp2
        go_meet
        case rel => exact ⟨_, (decide (x8_1 < (wrap64 (a0_1 + a0_2)))), (by first | rfl | (simp; done) | (simp [*]; done)), H', ⟨by have := HK1.out; first | omega | exact Nat.le_refl _⟩, ⟨by (with_reducible repeat (first | apply Kd.R_alloc | apply Kd.R_drewN | apply Kd.R_drew)); exact Kd.R_mono (Kd.R_far (p := ⟨gb265, 2, none⟩) (Kd.R_far (p := ⟨gb265, 1, none⟩) (Kd.R_far (p := ⟨gb265, 0, none⟩) (Kd.R_types HO_6.out BK265.out (by decide)) (fun _ hk => hk.2) (.int .u64 a1)) (fun _ hk => hk.2) (.int .i64 a0_1)) (fun _ hk => hk.2) (.int .i64 a0_2)) (fun _ hk => trivial)⟩, ⟨by (with_reducible repeat (first | refine blk_drewN ?_ _ | refine blk_drew ?_ | refine blk_alloc ?_ _)); refine blk_far ?_ NB259_265.out _; (with_reducible repeat (first | refine blk_drewN ?_ _ | refine blk_drew ?_ | refine blk_alloc ?_ _)); refine blk_far ?_ NB259_265.out _; (with_reducible repeat (first | refine blk_drewN ?_ _ | refine blk_drew ?_ | refine blk_alloc ?_ _)); refine blk_far ?_ NB259_265.out _; (with_reducible repeat (first | refine blk_drewN ?_ _ | refine blk_drew ?_ | refine blk_alloc ?_ _)); exact BK259.out⟩, ⟨by (with_reducible repeat (first | refine blk_drewN ?_ _ | refine blk_drew ?_ | refine blk_alloc ?_ _)); refine blk_far ?_ NB260_265.out _; (with_reducible repeat (first | refine blk_drewN ?_ _ | refine blk_drew ?_ | refine blk_alloc ?_ _)); refine blk_far ?_ NB260_265.out _; (with_reducible repeat (first | refine blk_drewN ?_ _ | refine blk_drew ?_ | refine blk_alloc ?_ _)); refine blk_far ?_ NB260_265.out _; (with_reducible repeat (first | refine blk_drewN ?_ _ | refine blk_drew ?_ | refine blk_alloc ?_ _)); exact BK260.out⟩, ⟨by (with_reducible repeat (first | refine blk_drewN ?_ _ | refine blk_drew ?_ | refine blk_alloc ?_ _)); refine blk_put (cs := #[.int .u64 a1, .int .i64 a0_1, .int .i64 0]) ?_ 2 _ rfl; (with_reducible repeat (first | refine blk_drewN ?_ _ | refine blk_drew ?_ | refine blk_alloc ?_ _)); refine blk_put (cs := #[.int .u64 a1, .int .i64 0, .int .i64 0]) ?_ 1 _ rfl; (with_reducible repeat (first | refine blk_drewN ?_ _ | refine blk_drew ?_ | refine blk_alloc ?_ _)); refine blk_put (cs := #[.int .u64 0, .int .i64 0, .int .i64 0]) ?_ 0 _ rfl; (with_reducible repeat (first | refine blk_drewN ?_ _ | refine blk_drew ?_ | refine blk_alloc ?_ _)); exact BK265.out⟩, ⟨by repeat (first | (with_reducible first | exact HB.out | apply below_alloc | apply pw_below_drewN | apply below_drew1 | refine below_set ?_ GE259.out | refine below_set ?_ GE260.out | refine below_set ?_ GE265.out) | exact HB.out)⟩⟩
       ·rw [if_neg c39] at H
        have c39b0 : decide (a0_1 ≤ x7_1) = false := decide_eq_false c39
        clear c39
        have H' := Aside0.mk H
        clear H
        have hnb43 := NB259_260.out
        have hnc43 := NB260_259.out
        have hnb44 := NB259_265.out
        have hnc44 := NB265_259.out
        obtain ⟨hcz45_0, hcz45_1, hcz45_2⟩ := kc3 BK259
        obtain ⟨hfz45_0, hfz45_1, hfz45_2⟩ := kf3 BK259
        go_wp2
        go_meet
        case rel => exact ⟨_, (false), (by first | rfl | (simp; done) | (simp [*]; done)), H', ⟨by have := HK1.out; first | omega | exact Nat.le_refl _⟩, ⟨by (with_reducible repeat (first | apply Kd.R_alloc | apply Kd.R_drewN | apply Kd.R_drew)); exact Kd.R_mono (Kd.R_far (p := ⟨gb265, 2, none⟩) (Kd.R_far (p := ⟨gb265, 1, none⟩) (Kd.R_far (p := ⟨gb265, 0, none⟩) (Kd.R_types HO_6.out BK265.out (by decide)) (fun _ hk => hk.2) (.int .u64 a1)) (fun _ hk => hk.2) (.int .i64 a0_1)) (fun _ hk => hk.2) (.int .i64 a0_2)) (fun _ hk => trivial)⟩, ⟨by (with_reducible repeat (first | refine blk_drewN ?_ _ | refine blk_drew ?_ | refine blk_alloc ?_ _)); refine blk_far ?_ NB259_265.out _; (with_reducible repeat (first | refine blk_drewN ?_ _ | refine blk_drew ?_ | refine blk_alloc ?_ _)); refine blk_far ?_ NB259_265.out _; (with_reducible repeat (first | refine blk_drewN ?_ _ | refine blk_drew ?_ | refine blk_alloc ?_ _)); refine blk_far ?_ NB259_265.out _; (with_reducible repeat (first | refine blk_drewN ?_ _ | refine blk_drew ?_ | refine blk_alloc ?_ _)); exact BK259.out⟩, ⟨by (with_reducible repeat (first | refine blk_drewN ?_ _ | refine blk_drew ?_ | refine blk_alloc ?_ _)); refine blk_far ?_ NB260_265.out _; (with_reducible repeat (first | refine blk_drewN ?_ _ | refine blk_drew ?_ | refine blk_alloc ?_ _)); refine blk_far ?_ NB260_265.out _; (with_reducible repeat (first | refine blk_drewN ?_ _ | refine blk_drew ?_ | refine blk_alloc ?_ _)); refine blk_far ?_ NB260_265.out _; (with_reducible repeat (first | refine blk_drewN ?_ _ | refine blk_drew ?_ | refine blk_alloc ?_ _)); exact BK260.out⟩, ⟨by (with_reducible repeat (first | refine blk_drewN ?_ _ | refine blk_drew ?_ | refine blk_alloc ?_ _)); refine blk_put (cs := #[.int .u64 a1, .int .i64 a0_1, .int .i64 0]) ?_ 2 _ rfl; (with_reducible repeat (first | refine blk_drewN ?_ _ | refine blk_drew ?_ | refine blk_alloc ?_ _)); refine blk_put (cs := #[.int .u64 a1, .int .i64 0, .int .i64 0]) ?_ 1 _ rfl; (with_reducible repeat (first | refine blk_drewN ?_ _ | refine blk_drew ?_ | refine blk_alloc ?_ _)); refine blk_put (cs := #[.int .u64 0, .int .i64 0, .int .i64 0]) ?_ 0 _ rfl; (with_reducible repeat (first | refine blk_drewN ?_ _ | refine blk_drew ?_ | refine blk_alloc ?_ _)); exact BK265.out⟩, ⟨by repeat (first | (with_reducible first | exact HB.out | apply below_alloc | apply pw_below_drewN | apply below_drew1 | refine below_set ?_ GE259.out | refine below_set ?_ GE260.out | refine below_set ?_ GE265.out) | exact HB.out)⟩⟩
      ·rw [if_neg c38] at H
       have c38b0 : decide (0 < a0_2) = false := decide_eq_false c38
       clear c38
       (first | rw [c38b0] | (simp only [i64_w, i32_w]; rw [c38b0]) | skip)
       have H' := Aside0.mk H
       clear H
       have hnb46 := NB259_260.out
       have hnc46 := NB260_259.out
       have hnb47 := NB259_265.out
       have hnc47 := NB265_259.out
       obtain ⟨hcz48_0, hcz48_1, hcz48_2⟩ := kc3 BK259
       obtain ⟨hfz48_0, hfz48_1, hfz48_2⟩ := kf3 BK259
       go_wp2
       go_meet
       case rel => exact ⟨_, (false), (by first | rfl | (simp; done) | (simp [*]; done)), H', ⟨by have := HK1.out; first | omega | exact Nat.le_refl _⟩, ⟨by (with_reducible repeat (first | apply Kd.R_alloc | apply Kd.R_drewN | apply Kd.R_drew)); exact Kd.R_mono (Kd.R_far (p := ⟨gb265, 2, none⟩) (Kd.R_far (p := ⟨gb265, 1, none⟩) (Kd.R_far (p := ⟨gb265, 0, none⟩) (Kd.R_types HO_6.out BK265.out (by decide)) (fun _ hk => hk.2) (.int .u64 a1)) (fun _ hk => hk.2) (.int .i64 a0_1)) (fun _ hk => hk.2) (.int .i64 a0_2)) (fun _ hk => trivial)⟩, ⟨by (with_reducible repeat (first | refine blk_drewN ?_ _ | refine blk_drew ?_ | refine blk_alloc ?_ _)); refine blk_far ?_ NB259_265.out _; (with_reducible repeat (first | refine blk_drewN ?_ _ | refine blk_drew ?_ | refine blk_alloc ?_ _)); refine blk_far ?_ NB259_265.out _; (with_reducible repeat (first | refine blk_drewN ?_ _ | refine blk_drew ?_ | refine blk_alloc ?_ _)); refine blk_far ?_ NB259_265.out _; (with_reducible repeat (first | refine blk_drewN ?_ _ | refine blk_drew ?_ | refine blk_alloc ?_ _)); exact BK259.out⟩, ⟨by (with_reducible repeat (first | refine blk_drewN ?_ _ | refine blk_drew ?_ | refine blk_alloc ?_ _)); refine blk_far ?_ NB260_265.out _; (with_reducible repeat (first | refine blk_drewN ?_ _ | refine blk_drew ?_ | refine blk_alloc ?_ _)); refine blk_far ?_ NB260_265.out _; (with_reducible repeat (first | refine blk_drewN ?_ _ | refine blk_drew ?_ | refine blk_alloc ?_ _)); refine blk_far ?_ NB260_265.out _; (with_reducible repeat (first | refine blk_drewN ?_ _ | refine blk_drew ?_ | refine blk_alloc ?_ _)); exact BK260.out⟩, ⟨by (with_reducible repeat (first | refine blk_drewN ?_ _ | refine blk_drew ?_ | refine blk_alloc ?_ _)); refine blk_put (cs := #[.int .u64 a1, .int .i64 a0_1, .int .i64 0]) ?_ 2 _ rfl; (with_reducible repeat (first | refine blk_drewN ?_ _ | refine blk_drew ?_ | refine blk_alloc ?_ _)); refine blk_put (cs := #[.int .u64 a1, .int .i64 0, .int .i64 0]) ?_ 1 _ rfl; (with_reducible repeat (first | refine blk_drewN ?_ _ | refine blk_drew ?_ | refine blk_alloc ?_ _)); refine blk_put (cs := #[.int .u64 0, .int .i64 0, .int .i64 0]) ?_ 0 _ rfl; (with_reducible repeat (first | refine blk_drewN ?_ _ | refine blk_drew ?_ | refine blk_alloc ?_ _)); exact BK265.out⟩, ⟨by repeat (first | (with_reducible first | exact HB.out | apply below_alloc | apply pw_below_drewN | apply below_drew1 | refine below_set ?_ GE259.out | refine below_set ?_ GE260.out | refine below_set ?_ GE265.out) | exact HB.out)⟩⟩
     case rest =>
      clear HC31
      try clear c1
      try clear c2
      try clear p2
      try clear q2
      try clear hx2
      try clear c3
      try clear c4
      try clear c6
      try clear p6
      try clear c9
      try clear c9b0
      try clear c10
      try clear c10b0
      try clear c11
      try clear c11b0
      try clear c12
      try clear c12b0
      try clear c12b1
      try clear c13
      try clear c13b0
      try clear c15
      try clear c17
      try clear c17b0
      try clear c18
      try clear c21
      try clear c22
      try clear p26
      try clear q26
      try clear hx26
      try clear c32
      try clear c35
      try clear c36
      try clear c38
      try clear c38b0
      try clear c39
      try clear c39b0
      try clear c40
      try clear c41
      try clear c43
      try clear c44
      try clear c46
      try clear c47
      try clear hcz19_0
      try clear hcz19_1
      try clear hcz19_2
      try clear hcz23_0
      try clear hcz23_1
      try clear hcz23_2
      try clear hcz33_0
      try clear hcz33_1
      try clear hcz33_2
      try clear hcz37_0
      try clear hcz37_1
      try clear hcz37_2
      try clear hcz42_0
      try clear hcz42_1
      try clear hcz42_2
      try clear hcz45_0
      try clear hcz45_1
      try clear hcz45_2
      try clear hcz48_0
      try clear hcz48_1
      try clear hcz48_2
      try clear hcz7_0
      try clear hcz7_1
      try clear hcz7_2
      try clear hfz19_0
      try clear hfz19_1
      try clear hfz19_2
      try clear hfz23_0
      try clear hfz23_1
      try clear hfz23_2
      try clear hfz33_0
      try clear hfz33_1
      try clear hfz33_2
      try clear hfz37_0
      try clear hfz37_1
      try clear hfz37_2
      try clear hfz42_0
      try clear hfz42_1
      try clear hfz42_2
      try clear hfz45_0
      try clear hfz45_1
      try clear hfz45_2
      try clear hfz48_0
      try clear hfz48_1
      try clear hfz48_2
      try clear hfz7_0
      try clear hfz7_1
      try clear hfz7_2
      try clear hx264_0
      try clear p2
      try clear p264
      try clear q264
      obtain ⟨kq, x57_30, rfl, HA, HJ30, HO_6, BK259, BK260, BK265, HB⟩ := hcut
      cases kq with
      | zero => exact absurd HA.out (by simp [gaiterref01_Code.j1])
      | succ kj30 =>
       have H := HA.out
       clear HA
       simp only [gaiterref01_Code.j1] at H
       by_cases c49 : x57_30 = true
       ·subst c49
        have H1 : ((some (([1, 0] : List Int) : List Int)).bind fun y269 => (if 0 ≤ a0_1 then (if a0_1 ≤ (wrap64 (a0_1 + a0_2)) then (if (wrap64 (a0_1 + a0_2)) ≤ (t261.length : Int) then ((some ((t261.take ((wrap64 (a0_1 + a0_2)) : Int).toNat).drop (a0_1 : Int).toNat : List Int)).bind fun y272 => (if y269.length + y272.length < 140737488355328 then (some ((y269 ++ y272), a1, a0_1, a0_2)) else (none))) else (none)) else (none)) else (none))) = some (r1, r2, r3, r4) := by rw [if_pos rfl] at H; exact H
        clear H
        have H := H1
        clear H1
        obtain ⟨y269, hy269⟩ : ∃ y_ : List Int, y_ = (([1, 0] : List Int)) := ⟨_, rfl⟩
        replace H : (if 0 ≤ a0_1 then (if a0_1 ≤ (wrap64 (a0_1 + a0_2)) then (if (wrap64 (a0_1 + a0_2)) ≤ (t261.length : Int) then ((some ((t261.take ((wrap64 (a0_1 + a0_2)) : Int).toNat).drop (a0_1 : Int).toNat : List Int)).bind fun y272 => (if y269.length + y272.length < 140737488355328 then (some ((y269 ++ y272), a1, a0_1, a0_2)) else (none))) else (none)) else (none)) else (none)) = some (r1, r2, r3, r4) := by first | (rw [hy269]; with_reducible exact H) | (have H2_ := (Option.bind_some _ _).symm.trans H; rw [hy269]; with_reducible exact H2_) | (have H2_ := (Option.bind_some _ _).symm.trans H; with_reducible exact H2_) | with_reducible exact H | (rw [hy269]; exact H) | exact H
        have Ny269 := Aside0.mk hy269
        clear hy269
        by_cases c50 : 0 ≤ a0_1
        ·rw [if_pos c50] at H
         have c50b0 := eq_true c50
         have c50b1 : decide (0 ≤ a0_1) = true := decide_eq_true c50
         clear c50
         by_cases c51 : a0_1 ≤ (wrap64 (a0_1 + a0_2))
         ·rw [if_pos c51] at H
          have c51b0 := eq_true c51
          have c51b1 : decide (a0_1 ≤ (wrap64 (a0_1 + a0_2))) = true := decide_eq_true c51
          by_cases c52 : (wrap64 (a0_1 + a0_2)) ≤ (t261.length : Int)
          ·rw [if_pos c52] at H
           have c52b0 := eq_true c52
           have c52b1 : decide ((wrap64 (a0_1 + a0_2)) ≤ (t261.length : Int)) = true := decide_eq_true c52
           obtain ⟨y272, hy272⟩ : ∃ y_ : List Int, y_ = ((t261.take ((wrap64 (a0_1 + a0_2)) : Int).toNat).drop (a0_1 : Int).toNat) := ⟨_, rfl⟩
           replace H : (if y269.length + y272.length < 140737488355328 then (some ((y269 ++ y272), a1, a0_1, a0_2)) else (none)) = some (r1, r2, r3, r4) := by first | (rw [hy272]; with_reducible exact H) | (have H2_ := (Option.bind_some _ _).symm.trans H; rw [hy272]; with_reducible exact H2_) | (have H2_ := (Option.bind_some _ _).symm.trans H; with_reducible exact H2_) | with_reducible exact H | (rw [hy272]; exact H) | exact H
           have Ny272 := Aside0.mk hy272
           clear hy272
           by_cases c53 : y269.length + y272.length < 140737488355328
           ·rw [if_pos c53] at H
            have LMc53 := Aside0.mk c53
            clear c53
            obtain ⟨y276, hy276⟩ : ∃ y_ : List Int, y_ = (y269 ++ y272) := ⟨_, rfl⟩
            replace H : (some (y276, a1, a0_1, a0_2)) = some (r1, r2, r3, r4) := by first | (rw [hy276]; with_reducible exact H) | (have H2_ := (Option.bind_some _ _).symm.trans H; rw [hy276]; with_reducible exact H2_) | (have H2_ := (Option.bind_some _ _).symm.trans H; with_reducible exact H2_) | with_reducible exact H | (rw [hy276]; exact H) | exact H
            have Ny276 := Aside0.mk hy276
            clear hy276
            simp only [Option.some.injEq, Prod.mk.injEq] at H
            obtain ⟨rfl, rfl, rfl, rfl⟩ := H
            try go_wp2
            replace HO_6 := Aside0.mk (Kd.R_drew HO_6.out)
            replace BK259 := Aside0.mk (blk_drew BK259.out)
            replace BK260 := Aside0.mk (blk_drew BK260.out)
            replace BK265 := Aside0.mk (blk_drew BK265.out)
            replace HB := Aside0.mk (below_drew1 HB.out)
            obtain ⟨Ao56, co56, eo56⟩ := Kd.R_slice HO_6.out
            (first | subst eo56 | (injection eo56 with f1_ f2_ f3_; have f4_ := f1_.symm; have f5_ := f3_.symm; clear f1_ f2_ f3_; subst f4_; subst f5_))
            have q55 : ((wrap64 (a0_1 + a0_2)) : Int) ≤ ((t261.length : Int) : Int) := of_decide_eq_true (by first | (with_reducible assumption) | assumption)
            obtain ⟨i055, hi055, _, hsz55, _⟩ := info_parts info5
            have hroom55 : t261.length ≤ co56 := (Kd.R_reads' HO_6.out).2.1
            have hC55 : Kd.C (Kd.int .u8) _ Ao56 t261.length t261 := (Kd.R_reads' HO_6.out).2.2
            have ql55 : (a0_1 : Int) ≤ ((wrap64 (a0_1 + a0_2)) : Int) := of_decide_eq_true (by first | (with_reducible assumption) | assumption)
            have q055 : (0 : Int) ≤ (a0_1 : Int) := of_decide_eq_true (by first | (with_reducible assumption) | assumption)
            have hcut55 := cut_mid (P := Tryd.prog) 25 5 .i64 .i64 Tryd.underlying25 hi055 1 hsz55 Ao56 t261.length co56 a0_1 (wrap64 (a0_1 + a0_2)) q055 ql55 q55 hroom55
            have hr55 := Kd.C_mid (lo := (a0_1 : Int).toNat) (hi := ((wrap64 (a0_1 + a0_2)) : Int).toNat) (c := co56) hC55 (by omega) (by omega) hroom55
            obtain ⟨A55, hA55⟩ : ∃ A1, A1 = (if co56 = (a0_1 : Int).toNat then Ao56 else (Ao56 : Option Addr).map (·.add ((a0_1 : Int).toNat * 1))) := ⟨_, rfl⟩
            obtain ⟨c55, hc55⟩ : ∃ c1, c1 = co56 - (a0_1 : Int).toNat := ⟨_, rfl⟩
            have hy55 : y272.length = ((wrap64 (a0_1 + a0_2)) : Int).toNat - (a0_1 : Int).toNat := (by rw [Ny272.out, List.length_drop, List.length_take] <;> omega)
            rw [show ((t261).take ((wrap64 (a0_1 + a0_2)) : Int).toNat).drop (a0_1 : Int).toNat = y272 from Ny272.out.symm] at hr55
            replace hr55 : Kd.C (Kd.int .u8) _ A55 y272.length y272 := (by rw [hA55]; exact hr55)
            rw [← hy55, ← hA55, ← hc55] at hcut55
            have HR275 := Aside0.mk hr55
            have HC275 := Aside0.mk (show y272.length ≤ c55 from by rw [hy55, hc55]; exact Nat.sub_le_sub_right (Nat.le_trans (by omega) hroom55) _)
            clear hr55 hC55 hroom55 hi055 hsz55 hc55
            have KY55 := Aside0.mk hy55
            have KA55 := Aside0.mk hA55
            clear hy55 hA55
            have KL55 := Aside0.mk (show ((wrap64 (a0_1 + a0_2)) : Int).toNat ≤ t261.length from by omega)
            have KM55 := Aside0.mk (show (a0_1 : Int).toNat ≤ ((wrap64 (a0_1 + a0_2)) : Int).toNat from by omega)
            (try (have q55s := q55; simp only [List.length_drop, List.length_take] at q55s; replace q55s := eq_true q55s)); replace q55 := eq_true q55
            refine start_ (n := 14) (S := fun w' => w'.cell? ⟨gb259, 0, none⟩ = some (.int .u64 a0_0) ∧ w'.cell? ⟨gb259, 1, none⟩ = some (.int .i64 a0_1) ∧ w'.cell? ⟨gb259, 2, none⟩ = some (.int .i64 a0_2) ∧ w'.cell? ⟨gb265, 0, none⟩ = some (.int .u64 a1) ∧ w'.cell? ⟨gb265, 1, none⟩ = some (.int .i64 a0_1) ∧ w'.cell? ⟨gb265, 2, none⟩ = some (.int .i64 a0_2)) (ds := []) (bl 14 0) (by kernel_rfl) rfl rfl kz (fun hHeld => ?_); refine with_tabW gaiterref01_Code.tab15 gaiterref01_Code.bits15 (fun HT_ HW_ => ?_)
            generalize wc.drew = w54 at HO_6 BK259 BK260 BK265 HB HR275 hHeld ⊢
            refine pu 1 (some 59) (bl 14 2) (h := ?_)
            refine pu 2 (some 60) (bl 14 6) (h := ?_)
            refine pu 4 (some 62) (bl 14 22) (h := ?_)
            refine pu 6 (some 64) (bl 14 86) (h := ?_)
            refine ta 3 (some 61) (bl 14 94) (h := ?_)
            refine ta 5 (some 63) (bl 14 126) (h := ?_)
            refine ta 7 (some 65) (bl 14 254) (h := ?_)
            refine pu 8 (some 66) (bl 14 510) (h := ?_)
            refine pu 9 (some 67) (bl 14 1022) (h := ?_)
            refine ta 11 (some 69) (bl 14 3070) (h := ?_)
            refine one_ (i := 0) (N := some 58) #[true, true, true, true, true, true, true, true, true, true, false, true, false, false] rfl rfl (one_of HT_.out (by kernel_rfl)) (by decide) (fun K hK => ?_)
            refine Kd.R_lit_step (Kd.int .u8) _ 5 ?hg (N := 58) ?hd (xs := ([1, 0] : List Int)) (inner := [.int .u8 1, .int .u8 0]) (ok := fun _ => True) (okp := fun _ => True) ?hr ?hp (fun _ hk => hk) trivial (Below.refl _ _) (Nat.le_refl _) (by simp) ?_; (case hd => rfl); (case hg => rfl); (case hr => first | (go_simp; done) | (go_simp; rfl)); (case hp => exact (Reps.one (show Kd.M (Kd.int .u8) _ _ _ 1 [.int .u8 1] from rfl) (Reps.one (show Kd.M (Kd.int .u8) _ _ _ 0 [.int .u8 0] from rfl) (Reps.none _ _))))
            intro v270 w57 ho58 hb hg_ hnew_
            clear hg_ hnew_
            (first | rw [← Ny269.out] at ho58 | (simp only [Int.reduceToNat] at ho58; rw [← Ny269.out] at ho58))
            have HO271 := Aside0.mk (Kd.R_lower (Kd.R_new' ho58 (Kd.R_lt (kr HO_6))) (below_size (kl HB)))
            replace HO_6 := Aside0.mk (Kd.R_elder' (kr HO_6) (Kd.R_base ho58) hb)
            replace BK259 := kB BK259 hb
            replace BK260 := kB BK260 hb
            replace BK265 := kB BK265 hb
            replace HR275 := Aside0.mk (Kd.C_below (by repeat (first | (with_reducible exact HR275.out) | (with_reducible refine Kd.C_alloc ?_ _) | (with_reducible refine Kd.C_drewN ?_ _) | (with_reducible refine Kd.C_drew ?_) | exact HR275.out)) hb)
            replace HB := kH HB hb
            clear hb ho58
            refine hK.out _ _ kz (fun hHeld => ?_)
            clear hK K
            refine norm_ (a' := ?_) ?_ ?_
            rotate_left
            ·show Act.put _ (some 58) _ = _
             simp only [Act.put, List.setIfInBounds_toArray, List.set_cons_zero, List.set_cons_succ, i64_w, i32_w]
             rfl
            refine one_ (i := 10) (N := some 68) #[true, true, true, true, true, true, true, true, true, true, true, true, false, false] rfl rfl (one_of HT_.out (by kernel_rfl)) (by decide) (fun K hK => ?_)
            refine Kd.R_append_rows_step (Kd.int .u8) (w0 := w) w.heap.size (by rfl) (.tmp 58) (.tmp 67) 25 5 (.int .u8 0) 1 rfl Tryd.underlying25 info5 rfl (by decide) (by omega) v270 y269 y272 _ _ _ (fun k_ => some k_ ≠ (.slice Ao56 t261.length co56 : Value).ownBlock) (fun _ => False) rfl rfl ?aO ?aR (fun _ _ h => h) (fun _ h => h.elim) ?aF ?aB ?aS ?aL ?_
            (case aR => repeat (first | exact (by repeat (first | (with_reducible exact HR275.out) | (with_reducible refine Kd.C_alloc ?_ _) | (with_reducible refine Kd.C_drewN ?_ _) | (with_reducible refine Kd.C_drew ?_) | exact HR275.out)) | (with_reducible refine Kd.C_alloc ?_ _) | (with_reducible refine Kd.C_drewN ?_ _) | (with_reducible refine Kd.C_drew ?_)))
            (case aB => exact (kl HB))
            (case aF => exact (fun k_ hk => Kd.fresh' (Kd.R_lt (kr HO_6)) k_ hk))
            (case aO => exact (by (with_reducible repeat (first | apply Kd.R_alloc | apply Kd.R_drewN | apply Kd.R_drew)); exact Kd.R_mono HO271.out (fun _ hk => hk.2)))
            (case aS => exact (below_size (kl HB)))
            (case aL => have := LMc53.out; omega)
            intro v277 w59 ho hb hg hat
            rw [← Ny276.out] at ho
            have n0_ := Aside0.mk (Kd.R_after (ok := (fun _ => True)) (kr HO_6) hg hat)
            have n1_ := Aside0.mk (blk_grown (g := gb259) (o := .cells #[.int .u64 a0_0, .int .i64 a0_1, .int .i64 a0_2] 27 (0, 0)) (kb BK259) hg (Kd.R_ne HO271.out BK259.out (by decide)))
            have n2_ := Aside0.mk (blk_grown (g := gb260) (o := .cells #[.int .u64 0, .int .i64 0, .int .i64 0] 27 (0, 0)) (kb BK260) hg (Kd.R_ne HO271.out BK260.out (by decide)))
            have n3_ := Aside0.mk (blk_grown (g := gb265) (o := .cells #[.int .u64 a1, .int .i64 a0_1, .int .i64 a0_2] 27 (0, 0)) (kb BK265) hg (Kd.R_ne HO271.out BK265.out (by decide)))
            have n4_ := Aside0.mk (hb)
            have n5_ := Aside0.mk ((show Kd.C (Kd.int .u8) w59 A55 y272.length y272 from by rw [Ny272.out, KA55.out]; exact Kd.C_mid (lo := (a0_1 : Int).toNat) (hi := ((wrap64 (a0_1 + a0_2)) : Int).toNat) (c := co56) ((Kd.R_reads' (Kd.R_after (ok := (fun _ => True)) (kr HO_6) hg hat)).2.2) KM55.out KL55.out ((Kd.R_reads' (Kd.R_after (ok := (fun _ => True)) (kr HO_6) hg hat)).2.1)))
            have n6_ := Aside0.mk (ho)
            clear HO_6
            clear BK259
            clear BK260
            clear BK265
            clear HB
            clear HR275
            clear HO271
            have HO_6 := n0_
            have BK259 := n1_
            have BK260 := n2_
            have BK265 := n3_
            have HB := n4_
            have HR275 := n5_
            have HO278 := n6_
            clear n0_ n1_ n2_ n3_ n4_ n5_ n6_
            clear ho hb hg hat
            refine hK.out _ _ kz (fun hHeld => ?_)
            clear hK K
            refine norm_ (a' := ?_) ?_ ?_
            rotate_left
            ·show Act.put _ (some 68) _ = _
             simp only [Act.put, List.setIfInBounds_toArray, List.set_cons_zero, List.set_cons_succ, i64_w, i32_w]
             rfl
            refine pu 12 (some 4) (bl 14 8191) (h := ?_)
            refine one_ (i := 13) (N := none) #[true, true, true, true, true, true, true, true, true, true, true, true, true, true] rfl rfl (one_of HT_.out (by kernel_rfl)) (by decide) (fun K hK => ?_)
            have hs60 : w59.cell? ⟨gb260, 0, none⟩ = some (.int .u64 0) := (blk_cell BK260.out 0).trans rfl
            have hfs60 := blk_frozen BK260.out 0
            have hns60_0 := NB259_260.out
            have hns60_2 := NB265_260.out
            have hms60_0 := NB260_259.out
            have hms60_2 := NB260_265.out
            have hs61 : w59.cell? ⟨gb260, 1, none⟩ = some (.int .i64 0) := (blk_cell BK260.out 1).trans rfl
            have hfs61 := blk_frozen BK260.out 1
            have hs62 : w59.cell? ⟨gb260, 2, none⟩ = some (.int .i64 0) := (blk_cell BK260.out 2).trans rfl
            have hfs62 := blk_frozen BK260.out 2
            refine skip_ (w1 := ?_) (by rfl) rfl ?_ ?_
            rotate_left
            ·go_simp
             rfl
            refine hK.out _ _ (ks hHeld) (fun hHeld => ?_)
            clear hK K
            refine done_ (done_of HT_.out (by kernel_rfl)) ?_
            try go_wp2
            refine bodyPost_ret (results_tc rfl _ _ gb260 27 #[.int .u64 a1, .int .i64 a0_1, .int .i64 a0_2] (0, 0) _ rfl (kb BK260) Tryd.underlying27 rfl (by kernel_rfl)) rfl ?_
            exact ⟨_, by first | rfl | (simp [errW_none, errW_some] <;> rfl) | (simp [*, errW_none, errW_some] <;> rfl), by (with_reducible repeat (first | apply Kd.R_alloc | apply Kd.R_drewN | apply Kd.R_drew)); exact Kd.R_mono (Kd.R_far (p := ⟨gb260, 2, none⟩) (Kd.R_far (p := ⟨gb260, 1, none⟩) (Kd.R_far (p := ⟨gb260, 0, none⟩) (Kd.R_types HO278.out BK260.out (by decide)) (fun _ hk => hk.2) (.int .u64 a1)) (fun _ hk => hk.2) (.int .i64 a0_1)) (fun _ hk => hk.2) (.int .i64 a0_2)) (fun _ hk => trivial), by repeat (first | (with_reducible first | exact HB.out | apply below_alloc | apply pw_below_drewN | apply below_drew1 | refine below_set ?_ GE259.out | refine below_set ?_ GE260.out | refine below_set ?_ GE265.out) | exact HB.out)⟩
           ·rw [if_neg c53] at H
            exact absurd H (by simp)
          ·rw [if_neg c52] at H
           exact absurd H (by simp)
         ·rw [if_neg c51] at H
          exact absurd H (by simp)
        ·rw [if_neg c50] at H
         exact absurd H (by simp)
       ·replace c49 := Bool.eq_false_iff.mpr c49
        subst c49
        have H1 : ((some (([1, 1] : List Int) : List Int)).bind fun y279 => ((gaiterref01_Low.f kj30 (IntKind.u64.wrap (x7_1)) 6).bind fun t282 => (if y279.length + t282.length < 140737488355328 then ((some (y279 ++ t282 : List Int)).bind fun y285 => ((gaiterref01_Low.f kj30 (IntKind.u64.wrap (wrap64 ((wrap64 ((wrap64 (x8_1 - x7_1)) + 1)) - 1))) 6).bind fun t288 => (if y285.length + t288.length < 140737488355328 then ((some (y285 ++ t288 : List Int)).bind fun y291 => (if 0 ≤ x7_1 then (if x7_1 ≤ (wrap64 (x8_1 + 1)) then (if (wrap64 (x8_1 + 1)) ≤ (t261.length : Int) then ((some ((t261.take ((wrap64 (x8_1 + 1)) : Int).toNat).drop (x7_1 : Int).toNat : List Int)).bind fun y294 => (if y291.length + y294.length < 140737488355328 then (some ((y291 ++ y294), a1, x7_1, wrap64 ((wrap64 (x8_1 - x7_1)) + 1))) else (none))) else (none)) else (none)) else (none))) else (none)))) else (none)))) = some (r1, r2, r3, r4) := by rw [if_neg (show ¬ (false = true) by decide)] at H; exact H
        clear H
        have H := H1
        clear H1
        obtain ⟨y279, hy279⟩ : ∃ y_ : List Int, y_ = (([1, 1] : List Int)) := ⟨_, rfl⟩
        replace H : ((gaiterref01_Low.f kj30 (IntKind.u64.wrap (x7_1)) 6).bind fun t282 => (if y279.length + t282.length < 140737488355328 then ((some (y279 ++ t282 : List Int)).bind fun y285 => ((gaiterref01_Low.f kj30 (IntKind.u64.wrap (wrap64 ((wrap64 ((wrap64 (x8_1 - x7_1)) + 1)) - 1))) 6).bind fun t288 => (if y285.length + t288.length < 140737488355328 then ((some (y285 ++ t288 : List Int)).bind fun y291 => (if 0 ≤ x7_1 then (if x7_1 ≤ (wrap64 (x8_1 + 1)) then (if (wrap64 (x8_1 + 1)) ≤ (t261.length : Int) then ((some ((t261.take ((wrap64 (x8_1 + 1)) : Int).toNat).drop (x7_1 : Int).toNat : List Int)).bind fun y294 => (if y291.length + y294.length < 140737488355328 then (some ((y291 ++ y294), a1, x7_1, wrap64 ((wrap64 (x8_1 - x7_1)) + 1))) else (none))) else (none)) else (none)) else (none))) else (none)))) else (none))) = some (r1, r2, r3, r4) := by first | (rw [hy279]; with_reducible exact H) | (have H2_ := (Option.bind_some _ _).symm.trans H; rw [hy279]; with_reducible exact H2_) | (have H2_ := (Option.bind_some _ _).symm.trans H; with_reducible exact H2_) | with_reducible exact H | (rw [hy279]; exact H) | exact H
        have Ny279 := Aside0.mk hy279
        clear hy279
        replace H := Option.bind_eq_some_iff.mp H
        obtain ⟨t282, A630, H⟩ := H
        replace H : (if y279.length + t282.length < 140737488355328 then ((some (y279 ++ t282 : List Int)).bind fun y285 => ((gaiterref01_Low.f kj30 (IntKind.u64.wrap (wrap64 ((wrap64 ((wrap64 (x8_1 - x7_1)) + 1)) - 1))) 6).bind fun t288 => (if y285.length + t288.length < 140737488355328 then ((some (y285 ++ t288 : List Int)).bind fun y291 => (if 0 ≤ x7_1 then (if x7_1 ≤ (wrap64 (x8_1 + 1)) then (if (wrap64 (x8_1 + 1)) ≤ (t261.length : Int) then ((some ((t261.take ((wrap64 (x8_1 + 1)) : Int).toNat).drop (x7_1 : Int).toNat : List Int)).bind fun y294 => (if y291.length + y294.length < 140737488355328 then (some ((y291 ++ y294), a1, x7_1, wrap64 ((wrap64 (x8_1 - x7_1)) + 1))) else (none))) else (none)) else (none)) else (none))) else (none)))) else (none)) = some (r1, r2, r3, r4) := H
        have A63 := Aside0.mk A630
        clear A630
        by_cases c64 : y279.length + t282.length < 140737488355328
        ·rw [if_pos c64] at H
         have LMc64 := Aside0.mk c64
         clear c64
         obtain ⟨y285, hy285⟩ : ∃ y_ : List Int, y_ = (y279 ++ t282) := ⟨_, rfl⟩
         replace H : ((gaiterref01_Low.f kj30 (IntKind.u64.wrap (wrap64 ((wrap64 ((wrap64 (x8_1 - x7_1)) + 1)) - 1))) 6).bind fun t288 => (if y285.length + t288.length < 140737488355328 then ((some (y285 ++ t288 : List Int)).bind fun y291 => (if 0 ≤ x7_1 then (if x7_1 ≤ (wrap64 (x8_1 + 1)) then (if (wrap64 (x8_1 + 1)) ≤ (t261.length : Int) then ((some ((t261.take ((wrap64 (x8_1 + 1)) : Int).toNat).drop (x7_1 : Int).toNat : List Int)).bind fun y294 => (if y291.length + y294.length < 140737488355328 then (some ((y291 ++ y294), a1, x7_1, wrap64 ((wrap64 (x8_1 - x7_1)) + 1))) else (none))) else (none)) else (none)) else (none))) else (none))) = some (r1, r2, r3, r4) := by first | (rw [hy285]; with_reducible exact H) | (have H2_ := (Option.bind_some _ _).symm.trans H; rw [hy285]; with_reducible exact H2_) | (have H2_ := (Option.bind_some _ _).symm.trans H; with_reducible exact H2_) | with_reducible exact H | (rw [hy285]; exact H) | exact H
         have Ny285 := Aside0.mk hy285
         clear hy285
         replace H := Option.bind_eq_some_iff.mp H
         obtain ⟨t288, A650, H⟩ := H
         replace H : (if y285.length + t288.length < 140737488355328 then ((some (y285 ++ t288 : List Int)).bind fun y291 => (if 0 ≤ x7_1 then (if x7_1 ≤ (wrap64 (x8_1 + 1)) then (if (wrap64 (x8_1 + 1)) ≤ (t261.length : Int) then ((some ((t261.take ((wrap64 (x8_1 + 1)) : Int).toNat).drop (x7_1 : Int).toNat : List Int)).bind fun y294 => (if y291.length + y294.length < 140737488355328 then (some ((y291 ++ y294), a1, x7_1, wrap64 ((wrap64 (x8_1 - x7_1)) + 1))) else (none))) else (none)) else (none)) else (none))) else (none)) = some (r1, r2, r3, r4) := H
         have A65 := Aside0.mk A650
         clear A650
         by_cases c66 : y285.length + t288.length < 140737488355328
         ·rw [if_pos c66] at H
          have LMc66 := Aside0.mk c66
          clear c66
          obtain ⟨y291, hy291⟩ : ∃ y_ : List Int, y_ = (y285 ++ t288) := ⟨_, rfl⟩
          replace H : (if 0 ≤ x7_1 then (if x7_1 ≤ (wrap64 (x8_1 + 1)) then (if (wrap64 (x8_1 + 1)) ≤ (t261.length : Int) then ((some ((t261.take ((wrap64 (x8_1 + 1)) : Int).toNat).drop (x7_1 : Int).toNat : List Int)).bind fun y294 => (if y291.length + y294.length < 140737488355328 then (some ((y291 ++ y294), a1, x7_1, wrap64 ((wrap64 (x8_1 - x7_1)) + 1))) else (none))) else (none)) else (none)) else (none)) = some (r1, r2, r3, r4) := by first | (rw [hy291]; with_reducible exact H) | (have H2_ := (Option.bind_some _ _).symm.trans H; rw [hy291]; with_reducible exact H2_) | (have H2_ := (Option.bind_some _ _).symm.trans H; with_reducible exact H2_) | with_reducible exact H | (rw [hy291]; exact H) | exact H
          have Ny291 := Aside0.mk hy291
          clear hy291
          by_cases c67 : 0 ≤ x7_1
          ·rw [if_pos c67] at H
           have c67b0 := eq_true c67
           have c67b1 : decide (0 ≤ x7_1) = true := decide_eq_true c67
           clear c67
           by_cases c68 : x7_1 ≤ (wrap64 (x8_1 + 1))
           ·rw [if_pos c68] at H
            have c68b0 := eq_true c68
            have c68b1 : decide (x7_1 ≤ (wrap64 (x8_1 + 1))) = true := decide_eq_true c68
            by_cases c69 : (wrap64 (x8_1 + 1)) ≤ (t261.length : Int)
            ·rw [if_pos c69] at H
             have c69b0 := eq_true c69
             have c69b1 : decide ((wrap64 (x8_1 + 1)) ≤ (t261.length : Int)) = true := decide_eq_true c69
             obtain ⟨y294, hy294⟩ : ∃ y_ : List Int, y_ = ((t261.take ((wrap64 (x8_1 + 1)) : Int).toNat).drop (x7_1 : Int).toNat) := ⟨_, rfl⟩
             replace H : (if y291.length + y294.length < 140737488355328 then (some ((y291 ++ y294), a1, x7_1, wrap64 ((wrap64 (x8_1 - x7_1)) + 1))) else (none)) = some (r1, r2, r3, r4) := by first | (rw [hy294]; with_reducible exact H) | (have H2_ := (Option.bind_some _ _).symm.trans H; rw [hy294]; with_reducible exact H2_) | (have H2_ := (Option.bind_some _ _).symm.trans H; with_reducible exact H2_) | with_reducible exact H | (rw [hy294]; exact H) | exact H
             have Ny294 := Aside0.mk hy294
             clear hy294
             by_cases c70 : y291.length + y294.length < 140737488355328
             ·rw [if_pos c70] at H
              have LMc70 := Aside0.mk c70
              clear c70
              obtain ⟨y298, hy298⟩ : ∃ y_ : List Int, y_ = (y291 ++ y294) := ⟨_, rfl⟩
              replace H : (some (y298, a1, x7_1, wrap64 ((wrap64 (x8_1 - x7_1)) + 1))) = some (r1, r2, r3, r4) := by first | (rw [hy298]; with_reducible exact H) | (have H2_ := (Option.bind_some _ _).symm.trans H; rw [hy298]; with_reducible exact H2_) | (have H2_ := (Option.bind_some _ _).symm.trans H; with_reducible exact H2_) | with_reducible exact H | (rw [hy298]; exact H) | exact H
              have Ny298 := Aside0.mk hy298
              clear hy298
              simp only [Option.some.injEq, Prod.mk.injEq] at H
              obtain ⟨rfl, rfl, rfl, rfl⟩ := H
              have hnb71 := NB265_259.out
              have hnc71 := NB259_265.out
              have hnb72 := NB265_260.out
              have hnc72 := NB260_265.out
              obtain ⟨hcz73_0, hcz73_1, hcz73_2⟩ := kc3 BK265
              obtain ⟨hfz73_0, hfz73_1, hfz73_2⟩ := kf3 BK265
              try go_wp2_with (first | ((with_reducible refine gate_dst (N := 77) rfl ?_); refine Kd.R_lit (Kd.int .u8) _ 5 ?hg (N := 77) ?hd (xs := ([1, 1] : List Int)) (inner := [.int .u8 1, .int .u8 1]) (ok := fun _ => True) (okp := fun _ => True) ?hr ?hp (fun _ hk => hk) trivial (Below.refl _ _) (Nat.le_refl _) (by simp) ?_; (case hd => rfl); (case hg => rfl); (case hr => first | (go_simp; done) | (go_simp; rfl)); (case hp => exact (Reps.one (show Kd.M (Kd.int .u8) _ _ _ 1 [.int .u8 1] from rfl) (Reps.one (show Kd.M (Kd.int .u8) _ _ _ 1 [.int .u8 1] from rfl) (Reps.none _ _)))); intro v280 w74 ho75 hb hg_ hnew_; clear hg_ hnew_; (first | rw [← Ny279.out] at ho75 | (simp only [Int.reduceToNat] at ho75; rw [← Ny279.out] at ho75)); have HO281 := Aside0.mk (Kd.R_lower (Kd.R_new' ho75 (Kd.R_lt (by (with_reducible repeat (first | apply Kd.R_alloc | apply Kd.R_drewN | apply Kd.R_drew)); exact (Kd.R_mono (Kd.R_far (p := ⟨gb265, 2, none⟩) (Kd.R_far (p := ⟨gb265, 1, none⟩) (Kd.R_types HO_6.out BK265.out (by decide)) (fun _ hk => hk.2) (.int .i64 x7_1)) (fun _ hk => hk.2) (.int .i64 (wrap64 ((wrap64 (x8_1 - x7_1)) + 1)))) (fun _ h_ => h_.1))))) (below_size (kl HB))); replace HO_6 := Aside0.mk (Kd.R_elder' (by (with_reducible repeat (first | apply Kd.R_alloc | apply Kd.R_drewN | apply Kd.R_drew)); exact (Kd.R_mono (Kd.R_far (p := ⟨gb265, 2, none⟩) (Kd.R_far (p := ⟨gb265, 1, none⟩) (Kd.R_types HO_6.out BK265.out (by decide)) (fun _ hk => hk.2) (.int .i64 x7_1)) (fun _ hk => hk.2) (.int .i64 (wrap64 ((wrap64 (x8_1 - x7_1)) + 1)))) (fun _ h_ => h_.1))) (Kd.R_base ho75) hb); replace BK259 := Aside0.mk (blk_below (g := gb259) (o := .cells #[.int .u64 a0_0, .int .i64 a0_1, .int .i64 a0_2] 27 (0, 0)) (kb BK259) hb); replace BK260 := Aside0.mk (blk_below (g := gb260) (o := .cells #[.int .u64 0, .int .i64 0, .int .i64 0] 27 (0, 0)) (kb BK260) hb); replace BK265 := Aside0.mk (blk_below (g := gb265) (o := .cells #[.int .u64 a1, .int .i64 x7_1, .int .i64 (wrap64 ((wrap64 (x8_1 - x7_1)) + 1))] 27 (0, 0)) (kb BK265) hb); replace HB := kH HB hb; clear hb ho75) | ((with_reducible refine gate_callee (f := 46) rfl ?_); refine goesL_ (some 80) rfl rfl Tryd.func46 (by kernel_rfl) rfl #[.int .u64 (IntKind.u64.wrap (x7_1)), .int .i64 6] rfl km ?_; (with_reducible refine (gaiterref01_Low.calls kj30 (IntKind.u64.wrap (x7_1)) 6 t282 _ A63.out).mono ?_); rintro e w76 ⟨v283, rfl, ho0, hb⟩; refine ⟨_, rfl, ?_⟩; have HO284 := Aside0.mk (Kd.R_lower (Kd.R_new' (Kd.R_new' ho0 (Kd.R_lt (kr HO_6))) (Kd.R_lt (kr HO281))) (below_size (kl HB))); replace HO_6 := Aside0.mk (Kd.R_elder' (kr HO_6) (Kd.R_base ho0) hb); replace HO281 := Aside0.mk (Kd.R_elder' (kr HO281) (Kd.R_base ho0) hb); replace BK259 := kB BK259 hb; replace BK260 := kB BK260 hb; replace BK265 := kB BK265 hb; replace HB := kH HB hb; (try clear hb); (try clear hb2); (try clear hk); (try clear hi); (try clear ho0); obtain ⟨Ao78, co78, eo78⟩ := Kd.R_slice HO284.out; subst eo78) | ((with_reducible refine gate_builtin (b := .append) (xs := #[.tmp 77, .tmp 80]) rfl ?_); at_builtin; refine Kd.R_append_rows (Kd.int .u8) (w0 := w) w.heap.size rfl (.tmp 77) (.tmp 80) 25 5 (.int .u8 0) 1 rfl Tryd.underlying25 info5 rfl (by decide) (by omega) v280 y279 t282 _ _ _ (fun k_ => some k_ ≠ (v262 : Value).ownBlock ∧ some k_ ≠ (.slice Ao78 t282.length co78 : Value).ownBlock) (fun _ => False) rfl rfl ?aO ?aR (fun _ _ h => h) (fun _ h => h.elim) ?aF ?aB ?aS ?aL ?_; (case aR => repeat (first | exact (Kd.R_reads' HO284.out).2.2 | (with_reducible refine Kd.C_alloc ?_ _) | (with_reducible refine Kd.C_drewN ?_ _) | (with_reducible refine Kd.C_drew ?_))); (case aB => exact (kl HB)); (case aF => exact (fun k_ hk => ⟨Kd.fresh' (Kd.R_lt (kr HO_6)) k_ hk, Kd.fresh' (Kd.R_lt (kr HO284)) k_ hk⟩)); (case aO => exact (by (with_reducible repeat (first | apply Kd.R_alloc | apply Kd.R_drewN | apply Kd.R_drew)); exact Kd.R_mono HO281.out (fun _ hk => ⟨hk.1.2, hk.2⟩))); (case aS => exact (below_size (kl HB))); (case aL => have := LMc64.out; omega); intro v286 w77 ho hb hg hat; rw [← Ny285.out] at ho; have n0_ := Aside0.mk (Kd.R_after (ok := (fun k_ => some k_ ≠ (.slice Ao78 t282.length co78 : Value).ownBlock)) (by (with_reducible repeat (first | apply Kd.R_alloc | apply Kd.R_drewN | apply Kd.R_drew)); exact Kd.R_mono HO_6.out (fun _ hk => ⟨hk.2, hk.1.2⟩)) hg hat); have n1_ := Aside0.mk (blk_grown (g := gb259) (o := .cells #[.int .u64 a0_0, .int .i64 a0_1, .int .i64 a0_2] 27 (0, 0)) (kb BK259) hg (Kd.R_ne HO281.out BK259.out (by decide))); have n2_ := Aside0.mk (blk_grown (g := gb260) (o := .cells #[.int .u64 0, .int .i64 0, .int .i64 0] 27 (0, 0)) (kb BK260) hg (Kd.R_ne HO281.out BK260.out (by decide))); have n3_ := Aside0.mk (blk_grown (g := gb265) (o := .cells #[.int .u64 a1, .int .i64 x7_1, .int .i64 (wrap64 ((wrap64 (x8_1 - x7_1)) + 1))] 27 (0, 0)) (kb BK265) hg (Kd.R_ne HO281.out BK265.out (by decide))); have n4_ := Aside0.mk (Kd.R_after (ok := (fun k_ => some k_ ≠ (v262 : Value).ownBlock)) (by (with_reducible repeat (first | apply Kd.R_alloc | apply Kd.R_drewN | apply Kd.R_drew)); exact Kd.R_mono HO284.out (fun _ hk => ⟨hk.1.2, hk.2⟩)) hg hat); have n5_ := Aside0.mk (hb); have n6_ := Aside0.mk (ho); clear HO_6; clear BK259; clear BK260; clear BK265; clear HO284; clear HB; clear HO281; have HO_6 := n0_; have BK259 := n1_; have BK260 := n2_; have BK265 := n3_; have HO284 := n4_; have HB := n5_; have HO287 := n6_; clear n0_ n1_ n2_ n3_ n4_ n5_ n6_; clear ho hb hg hat; have hcz79_0 : w77.cell? ⟨gb265, 0, none⟩ = some (.int .u64 a1) := (blk_cell BK265.out 0).trans rfl; have hcz79_1 : w77.cell? ⟨gb265, 1, none⟩ = some (.int .i64 x7_1) := (blk_cell BK265.out 1).trans rfl; have hcz79_2 : w77.cell? ⟨gb265, 2, none⟩ = some (.int .i64 (wrap64 ((wrap64 (x8_1 - x7_1)) + 1))) := (blk_cell BK265.out 2).trans rfl; have hfz79_0 := blk_frozen BK265.out 0; have hfz79_1 := blk_frozen BK265.out 1; have hfz79_2 := blk_frozen BK265.out 2) | ((with_reducible refine gate_callee (f := 46) rfl ?_); refine goesL_ (some 87) rfl rfl Tryd.func46 (by kernel_rfl) rfl #[.int .u64 (IntKind.u64.wrap (wrap64 ((wrap64 ((wrap64 (x8_1 - x7_1)) + 1)) - 1))), .int .i64 6] rfl km ?_; (with_reducible refine (gaiterref01_Low.calls kj30 (IntKind.u64.wrap (wrap64 ((wrap64 ((wrap64 (x8_1 - x7_1)) + 1)) - 1))) 6 t288 _ A65.out).mono ?_); rintro e w80 ⟨v289, rfl, ho0, hb⟩; refine ⟨_, rfl, ?_⟩; have HO290 := Aside0.mk (Kd.R_lower (Kd.R_new' (Kd.R_new' (Kd.R_new' ho0 (Kd.R_lt (kr HO_6))) (Kd.R_lt (kr HO284))) (Kd.R_lt (kr HO287))) (below_size (kl HB))); replace HO_6 := Aside0.mk (Kd.R_elder' (kr HO_6) (Kd.R_base ho0) hb); replace HO284 := Aside0.mk (Kd.R_elder' (kr HO284) (Kd.R_base ho0) hb); replace HO287 := Aside0.mk (Kd.R_elder' (kr HO287) (Kd.R_base ho0) hb); replace BK259 := kB BK259 hb; replace BK260 := kB BK260 hb; replace BK265 := kB BK265 hb; replace HB := kH HB hb; (try clear hb); (try clear hb2); (try clear hk); (try clear hi); (try clear ho0); obtain ⟨Ao82, co82, eo82⟩ := Kd.R_slice HO290.out; subst eo82) | ((with_reducible refine gate_builtin (b := .append) (xs := #[.tmp 82, .tmp 87]) rfl ?_); at_builtin; refine Kd.R_append_rows (Kd.int .u8) (w0 := w) w.heap.size rfl (.tmp 82) (.tmp 87) 25 5 (.int .u8 0) 1 rfl Tryd.underlying25 info5 rfl (by decide) (by omega) v286 y285 t288 _ _ _ (fun k_ => some k_ ≠ (v262 : Value).ownBlock ∧ some k_ ≠ (.slice Ao78 t282.length co78 : Value).ownBlock ∧ some k_ ≠ (.slice Ao82 t288.length co82 : Value).ownBlock) (fun _ => False) rfl rfl ?aO ?aR (fun _ _ h => h) (fun _ h => h.elim) ?aF ?aB ?aS ?aL ?_; (case aR => repeat (first | exact (Kd.R_reads' HO290.out).2.2 | (with_reducible refine Kd.C_alloc ?_ _) | (with_reducible refine Kd.C_drewN ?_ _) | (with_reducible refine Kd.C_drew ?_))); (case aB => exact (kl HB)); (case aF => exact (fun k_ hk => ⟨Kd.fresh' (Kd.R_lt (kr HO_6)) k_ hk, Kd.fresh' (Kd.R_lt (kr HO284)) k_ hk, Kd.fresh' (Kd.R_lt (kr HO290)) k_ hk⟩)); (case aO => exact (by (with_reducible repeat (first | apply Kd.R_alloc | apply Kd.R_drewN | apply Kd.R_drew)); exact Kd.R_mono HO287.out (fun _ hk => ⟨hk.1.1, ⟨hk.1.2, hk.2⟩⟩))); (case aS => exact (below_size (kl HB))); (case aL => have := LMc66.out; omega); intro v292 w81 ho hb hg hat; rw [← Ny291.out] at ho; have n0_ := Aside0.mk (Kd.R_after (ok := (fun k_ => some k_ ≠ (.slice Ao78 t282.length co78 : Value).ownBlock ∧ some k_ ≠ (.slice Ao82 t288.length co82 : Value).ownBlock)) (by (with_reducible repeat (first | apply Kd.R_alloc | apply Kd.R_drewN | apply Kd.R_drew)); exact Kd.R_mono HO_6.out (fun _ hk => ⟨⟨hk.1.1, hk.2⟩, hk.1.2⟩)) hg hat); have n1_ := Aside0.mk (blk_grown (g := gb259) (o := .cells #[.int .u64 a0_0, .int .i64 a0_1, .int .i64 a0_2] 27 (0, 0)) (kb BK259) hg (Kd.R_ne HO287.out BK259.out (by decide))); have n2_ := Aside0.mk (blk_grown (g := gb260) (o := .cells #[.int .u64 0, .int .i64 0, .int .i64 0] 27 (0, 0)) (kb BK260) hg (Kd.R_ne HO287.out BK260.out (by decide))); have n3_ := Aside0.mk (blk_grown (g := gb265) (o := .cells #[.int .u64 a1, .int .i64 x7_1, .int .i64 (wrap64 ((wrap64 (x8_1 - x7_1)) + 1))] 27 (0, 0)) (kb BK265) hg (Kd.R_ne HO287.out BK265.out (by decide))); have n4_ := Aside0.mk (Kd.R_after (ok := (fun k_ => some k_ ≠ (v262 : Value).ownBlock ∧ some k_ ≠ (.slice Ao82 t288.length co82 : Value).ownBlock)) (by (with_reducible repeat (first | apply Kd.R_alloc | apply Kd.R_drewN | apply Kd.R_drew)); exact Kd.R_mono HO284.out (fun _ hk => ⟨⟨hk.1.1, hk.2⟩, hk.1.2⟩)) hg hat); have n5_ := Aside0.mk (Kd.R_after (ok := (fun k_ => some k_ ≠ (v262 : Value).ownBlock ∧ some k_ ≠ (.slice Ao78 t282.length co78 : Value).ownBlock)) (by (with_reducible repeat (first | apply Kd.R_alloc | apply Kd.R_drewN | apply Kd.R_drew)); exact Kd.R_mono HO290.out (fun _ hk => ⟨⟨hk.1.1.2, hk.1.2⟩, hk.2⟩)) hg hat); have n6_ := Aside0.mk (hb); have n7_ := Aside0.mk (ho); clear HO_6; clear BK259; clear BK260; clear BK265; clear HO284; clear HO290; clear HB; clear HO287; have HO_6 := n0_; have BK259 := n1_; have BK260 := n2_; have BK265 := n3_; have HO284 := n4_; have HO290 := n5_; have HB := n6_; have HO293 := n7_; clear n0_ n1_ n2_ n3_ n4_ n5_ n6_ n7_; clear ho hb hg hat))
              replace HO_6 := Aside0.mk (Kd.R_drew HO_6.out)
              replace HO284 := Aside0.mk (Kd.R_drew HO284.out)
              replace HO290 := Aside0.mk (Kd.R_drew HO290.out)
              replace HO293 := Aside0.mk (Kd.R_drew HO293.out)
              replace BK259 := Aside0.mk (blk_drew BK259.out)
              replace BK260 := Aside0.mk (blk_drew BK260.out)
              replace BK265 := Aside0.mk (blk_drew BK265.out)
              replace HB := Aside0.mk (below_drew1 HB.out)
              obtain ⟨Ao85, co85, eo85⟩ := Kd.R_slice HO_6.out
              (first | subst eo85 | (injection eo85 with f1_ f2_ f3_; have f4_ := f1_.symm; have f5_ := f3_.symm; clear f1_ f2_ f3_; subst f4_; subst f5_))
              have q84 : ((wrap64 (x8_1 + 1)) : Int) ≤ ((t261.length : Int) : Int) := of_decide_eq_true (by first | (with_reducible assumption) | assumption)
              obtain ⟨i084, hi084, _, hsz84, _⟩ := info_parts info5
              have hroom84 : t261.length ≤ co85 := (Kd.R_reads' HO_6.out).2.1
              have hC84 : Kd.C (Kd.int .u8) _ Ao85 t261.length t261 := (Kd.R_reads' HO_6.out).2.2
              have ql84 : (x7_1 : Int) ≤ ((wrap64 (x8_1 + 1)) : Int) := of_decide_eq_true (by first | (with_reducible assumption) | assumption)
              have q084 : (0 : Int) ≤ (x7_1 : Int) := of_decide_eq_true (by first | (with_reducible assumption) | assumption)
              have hcut84 := cut_mid (P := Tryd.prog) 25 5 .i64 .i64 Tryd.underlying25 hi084 1 hsz84 Ao85 t261.length co85 x7_1 (wrap64 (x8_1 + 1)) q084 ql84 q84 hroom84
              have hr84 := Kd.C_mid (lo := (x7_1 : Int).toNat) (hi := ((wrap64 (x8_1 + 1)) : Int).toNat) (c := co85) hC84 (by omega) (by omega) hroom84
              obtain ⟨A84, hA84⟩ : ∃ A1, A1 = (if co85 = (x7_1 : Int).toNat then Ao85 else (Ao85 : Option Addr).map (·.add ((x7_1 : Int).toNat * 1))) := ⟨_, rfl⟩
              obtain ⟨c84, hc84⟩ : ∃ c1, c1 = co85 - (x7_1 : Int).toNat := ⟨_, rfl⟩
              have hy84 : y294.length = ((wrap64 (x8_1 + 1)) : Int).toNat - (x7_1 : Int).toNat := (by rw [Ny294.out, List.length_drop, List.length_take] <;> omega)
              rw [show ((t261).take ((wrap64 (x8_1 + 1)) : Int).toNat).drop (x7_1 : Int).toNat = y294 from Ny294.out.symm] at hr84
              replace hr84 : Kd.C (Kd.int .u8) _ A84 y294.length y294 := (by rw [hA84]; exact hr84)
              rw [← hy84, ← hA84, ← hc84] at hcut84
              have HR297 := Aside0.mk hr84
              have HC297 := Aside0.mk (show y294.length ≤ c84 from by rw [hy84, hc84]; exact Nat.sub_le_sub_right (Nat.le_trans (by omega) hroom84) _)
              clear hr84 hC84 hroom84 hi084 hsz84 hc84
              have KY84 := Aside0.mk hy84
              have KA84 := Aside0.mk hA84
              clear hy84 hA84
              have KL84 := Aside0.mk (show ((wrap64 (x8_1 + 1)) : Int).toNat ≤ t261.length from by omega)
              have KM84 := Aside0.mk (show (x7_1 : Int).toNat ≤ ((wrap64 (x8_1 + 1)) : Int).toNat from by omega)
              (try (have q84s := q84; simp only [List.length_drop, List.length_take] at q84s; replace q84s := eq_true q84s)); replace q84 := eq_true q84
              refine start_ (n := 10) (S := fun w' => w'.cell? ⟨gb265, 0, none⟩ = some (.int .u64 a1) ∧ w'.cell? ⟨gb265, 1, none⟩ = some (.int .i64 x7_1) ∧ w'.cell? ⟨gb265, 2, none⟩ = some (.int .i64 (wrap64 ((wrap64 (x8_1 - x7_1)) + 1)))) (ds := []) (bl 10 0) (by kernel_rfl) rfl rfl kz (fun hHeld => ?_); refine with_tabW gaiterref01_Code.tab20 gaiterref01_Code.bits20 (fun HT_ HW_ => ?_)
              generalize w81.drew = w83 at HO_6 HO284 HO290 HO293 BK259 BK260 BK265 HB HR297 hHeld ⊢
              refine pu 0 (some 89) (bl 10 1) (h := ?_)
              refine pu 1 (some 90) (bl 10 3) (h := ?_)
              refine pu 2 (some 91) (bl 10 7) (h := ?_)
              refine pu 3 (some 92) (bl 10 15) (h := ?_)
              refine pu 4 (some 93) (bl 10 31) (h := ?_)
              refine pu 5 (some 94) (bl 10 63) (h := ?_)
              refine ta 7 (some 96) (bl 10 191) (h := ?_)
              refine one_ (i := 6) (N := some 95) #[true, true, true, true, true, true, true, true, false, false] rfl rfl (one_of HT_.out (by kernel_rfl)) (by decide) (fun K hK => ?_)
              refine Kd.R_append_rows_step (Kd.int .u8) (w0 := w) w.heap.size (by rfl) (.tmp 89) (.tmp 94) 25 5 (.int .u8 0) 1 rfl Tryd.underlying25 info5 rfl (by decide) (by omega) v292 y291 y294 _ _ _ (fun k_ => some k_ ≠ (.slice Ao85 t261.length co85 : Value).ownBlock ∧ some k_ ≠ (.slice Ao78 t282.length co78 : Value).ownBlock ∧ some k_ ≠ (.slice Ao82 t288.length co82 : Value).ownBlock) (fun _ => False) rfl rfl ?aO ?aR (fun _ _ h => h) (fun _ h => h.elim) ?aF ?aB ?aS ?aL ?_
              (case aR => repeat (first | exact (by repeat (first | (with_reducible exact HR297.out) | (with_reducible refine Kd.C_alloc ?_ _) | (with_reducible refine Kd.C_drewN ?_ _) | (with_reducible refine Kd.C_drew ?_) | exact HR297.out)) | (with_reducible refine Kd.C_alloc ?_ _) | (with_reducible refine Kd.C_drewN ?_ _) | (with_reducible refine Kd.C_drew ?_)))
              (case aB => exact (kl HB))
              (case aF => exact (fun k_ hk => ⟨Kd.fresh' (Kd.R_lt (kr HO_6)) k_ hk, Kd.fresh' (Kd.R_lt (kr HO284)) k_ hk, Kd.fresh' (Kd.R_lt (kr HO290)) k_ hk⟩))
              (case aO => exact (kr HO293))
              (case aS => exact (below_size (kl HB)))
              (case aL => have := LMc70.out; omega)
              intro v299 w86 ho hb hg hat
              rw [← Ny298.out] at ho
              have n0_ := Aside0.mk (Kd.R_after (ok := (fun k_ => some k_ ≠ (.slice Ao78 t282.length co78 : Value).ownBlock ∧ some k_ ≠ (.slice Ao82 t288.length co82 : Value).ownBlock)) (kr HO_6) hg hat)
              have n1_ := Aside0.mk (blk_grown (g := gb259) (o := .cells #[.int .u64 a0_0, .int .i64 a0_1, .int .i64 a0_2] 27 (0, 0)) (kb BK259) hg (Kd.R_ne HO293.out BK259.out (by decide)))
              have n2_ := Aside0.mk (blk_grown (g := gb260) (o := .cells #[.int .u64 0, .int .i64 0, .int .i64 0] 27 (0, 0)) (kb BK260) hg (Kd.R_ne HO293.out BK260.out (by decide)))
              have n3_ := Aside0.mk (blk_grown (g := gb265) (o := .cells #[.int .u64 a1, .int .i64 x7_1, .int .i64 (wrap64 ((wrap64 (x8_1 - x7_1)) + 1))] 27 (0, 0)) (kb BK265) hg (Kd.R_ne HO293.out BK265.out (by decide)))
              have n4_ := Aside0.mk (Kd.R_after (ok := (fun k_ => some k_ ≠ (.slice Ao85 t261.length co85 : Value).ownBlock ∧ some k_ ≠ (.slice Ao82 t288.length co82 : Value).ownBlock)) (kr HO284) hg hat)
              have n5_ := Aside0.mk (Kd.R_after (ok := (fun k_ => some k_ ≠ (.slice Ao85 t261.length co85 : Value).ownBlock ∧ some k_ ≠ (.slice Ao78 t282.length co78 : Value).ownBlock)) (kr HO290) hg hat)
              have n6_ := Aside0.mk (hb)
              have n7_ := Aside0.mk ((show Kd.C (Kd.int .u8) w86 A84 y294.length y294 from by rw [Ny294.out, KA84.out]; exact Kd.C_mid (lo := (x7_1 : Int).toNat) (hi := ((wrap64 (x8_1 + 1)) : Int).toNat) (c := co85) ((Kd.R_reads' (Kd.R_after (ok := (fun k_ => some k_ ≠ (.slice Ao78 t282.length co78 : Value).ownBlock ∧ some k_ ≠ (.slice Ao82 t288.length co82 : Value).ownBlock)) (kr HO_6) hg hat)).2.2) KM84.out KL84.out ((Kd.R_reads' (Kd.R_after (ok := (fun k_ => some k_ ≠ (.slice Ao78 t282.length co78 : Value).ownBlock ∧ some k_ ≠ (.slice Ao82 t288.length co82 : Value).ownBlock)) (kr HO_6) hg hat)).2.1)))
              have n8_ := Aside0.mk (ho)
              clear HO_6
              clear BK259
              clear BK260
              clear BK265
              clear HO284
              clear HO290
              clear HB
              clear HR297
              clear HO293
              have HO_6 := n0_
              have BK259 := n1_
              have BK260 := n2_
              have BK265 := n3_
              have HO284 := n4_
              have HO290 := n5_
              have HB := n6_
              have HR297 := n7_
              have HO300 := n8_
              clear n0_ n1_ n2_ n3_ n4_ n5_ n6_ n7_ n8_
              clear ho hb hg hat
              refine hK.out _ _ kz (fun hHeld => ?_)
              clear hK K
              refine norm_ (a' := ?_) ?_ ?_
              rotate_left
              ·show Act.put _ (some 95) _ = _
               simp only [Act.put, List.setIfInBounds_toArray, List.set_cons_zero, List.set_cons_succ, i64_w, i32_w]
               rfl
              refine pu 8 (some 4) (bl 10 511) (h := ?_)
              refine one_ (i := 9) (N := none) #[true, true, true, true, true, true, true, true, true, true] rfl rfl (one_of HT_.out (by kernel_rfl)) (by decide) (fun K hK => ?_)
              have hs87 : w86.cell? ⟨gb260, 0, none⟩ = some (.int .u64 0) := (blk_cell BK260.out 0).trans rfl
              have hfs87 := blk_frozen BK260.out 0
              have hns87_0 := NB259_260.out
              have hns87_2 := NB265_260.out
              have hms87_0 := NB260_259.out
              have hms87_2 := NB260_265.out
              have hs88 : w86.cell? ⟨gb260, 1, none⟩ = some (.int .i64 0) := (blk_cell BK260.out 1).trans rfl
              have hfs88 := blk_frozen BK260.out 1
              have hs89 : w86.cell? ⟨gb260, 2, none⟩ = some (.int .i64 0) := (blk_cell BK260.out 2).trans rfl
              have hfs89 := blk_frozen BK260.out 2
              refine skip_ (w1 := ?_) (by rfl) rfl ?_ ?_
              rotate_left
              ·go_simp
               rfl
              refine hK.out _ _ (ks hHeld) (fun hHeld => ?_)
              clear hK K
              refine done_ (done_of HT_.out (by kernel_rfl)) ?_
              try go_wp2
              refine bodyPost_ret (results_tc rfl _ _ gb260 27 #[.int .u64 a1, .int .i64 x7_1, .int .i64 (wrap64 ((wrap64 (x8_1 - x7_1)) + 1))] (0, 0) _ rfl (kb BK260) Tryd.underlying27 rfl (by kernel_rfl)) rfl ?_
              exact ⟨_, by first | rfl | (simp [errW_none, errW_some] <;> rfl) | (simp [*, errW_none, errW_some] <;> rfl), by (with_reducible repeat (first | apply Kd.R_alloc | apply Kd.R_drewN | apply Kd.R_drew)); exact Kd.R_mono (Kd.R_far (p := ⟨gb260, 2, none⟩) (Kd.R_far (p := ⟨gb260, 1, none⟩) (Kd.R_far (p := ⟨gb260, 0, none⟩) (Kd.R_types HO300.out BK260.out (by decide)) (fun _ hk => hk.2) (.int .u64 a1)) (fun _ hk => hk.2) (.int .i64 x7_1)) (fun _ hk => hk.2) (.int .i64 (wrap64 ((wrap64 (x8_1 - x7_1)) + 1)))) (fun _ hk => trivial), by repeat (first | (with_reducible first | exact HB.out | apply below_alloc | apply pw_below_drewN | apply below_drew1 | refine below_set ?_ GE259.out | refine below_set ?_ GE260.out | refine below_set ?_ GE265.out) | exact HB.out)⟩
             ·rw [if_neg c70] at H
              exact absurd H (by simp)
            ·rw [if_neg c69] at H
             exact absurd H (by simp)
           ·rw [if_neg c68] at H
            exact absurd H (by simp)
          ·rw [if_neg c67] at H
           exact absurd H (by simp)
         ·rw [if_neg c66] at H
          exact absurd H (by simp)
        ·rw [if_neg c64] at H
         exact absurd H (by simp)

end Go.Proofs.YtiahbcaoikoogaaDoor.All
