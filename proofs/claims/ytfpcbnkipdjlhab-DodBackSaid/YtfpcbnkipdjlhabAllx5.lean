-- written by a program of the session out of the translation; Lean checks it
import Derived.Test.YtfpcbnkipdjlhabAllx0
namespace Go.Proofs.Ytfpcbnkipdjlhab.All
open Go.RowKit Go.Proofs.YtfpcbnkipdjlhabW.PrintWords Go.Proofs.YtfpcbnkipdjlhabW.PrintLast Go.Proofs.YtfpcbnkipdjlhabW.PrintMore
attribute [local go_sem] max2_int min2_int max_two min_two max_three min_three max_four min_four   -- for this text's walks alone
set_option linter.unusedVariables false
set_option linter.unusedSimpArgs false

/-! ### bits_Put: function 21 -/
mutual
def bits_Put.j0 : Nat → Int → Int → Bool → List Int → Int → Option (List Int × Int)
 | 0, _, _, _, _, _ => none
 | k + 1, x1, x2, x17, x111000, x111001 => if x17 = true then (some (x111000, x111001)) else (bits_Put.l0 k x1 (wrap64 (x2 - 1)) x111000 x111001)
def bits_Put.l0 : Nat → Int → Int → List Int → Int → Option (List Int × Int)
 | 0, _, _, _, _ => none
 | k + 1, x1, x7, x111000, x111001 => if x7 ≥ 0 then (if (Int.tmod x111001 8) = 0 then (if x111000.length < 140737488355328 then ((some (x111000 ++ [0] : List Int)).bind fun y115 => (if 0 ≤ (wrap64 (Int.tdiv x111001 8)) then (if (wrap64 (Int.tdiv x111001 8)) < (y115.length : Int) then (if 0 ≤ x7 then (if 0 ≤ (wrap64 (7 - (Int.tmod x111001 8))) then (bits_Put.l0 k x1 (wrap64 (x7 - 1)) (y115.set ((wrap64 (Int.tdiv x111001 8)) : Int).toNat (Go.bits .or .u8 (rd y115 (wrap64 (Int.tdiv x111001 8))) (shl .u8 ((Go.bits .and .u64 (shr .u64 x1 x7) 1) % 256) (wrap64 (7 - (Int.tmod x111001 8)))))) (wrap64 (x111001 + 1))) else (none)) else (none)) else (none)) else (none))) else (none)) else (if 0 ≤ (wrap64 (Int.tdiv x111001 8)) then (if (wrap64 (Int.tdiv x111001 8)) < (x111000.length : Int) then (if 0 ≤ x7 then (if 0 ≤ (wrap64 (7 - (Int.tmod x111001 8))) then (bits_Put.l0 k x1 (wrap64 (x7 - 1)) (x111000.set ((wrap64 (Int.tdiv x111001 8)) : Int).toNat (Go.bits .or .u8 (rd x111000 (wrap64 (Int.tdiv x111001 8))) (shl .u8 ((Go.bits .and .u64 (shr .u64 x1 x7) 1) % 256) (wrap64 (7 - (Int.tmod x111001 8)))))) (wrap64 (x111001 + 1))) else (none)) else (none)) else (none)) else (none))) else (some (x111000, x111001))
end
def bits_Put.f (k : Nat) (l0_0 : List Int) (a0_1 : Int) (a1 : Int) (a2 : Int) : Option (List Int × Int) := (slices_Clone_byte_byte.f l0_0).bind fun t112 => (if a2 < 0 then (bits_Put.j0 k a1 a2 true t112 a0_1) else (bits_Put.j0 k a1 a2 (decide (a2 > 64)) t112 a0_1))
theorem bits_Put.mono_l : ∀ k, (∀ y0 y1 y2 y3 y4, LeO (bits_Put.j0 k y0 y1 y2 y3 y4) (bits_Put.j0 (k + 1) y0 y1 y2 y3 y4)) ∧ (∀ y0 y1 y2 y3, LeO (bits_Put.l0 k y0 y1 y2 y3) (bits_Put.l0 (k + 1) y0 y1 y2 y3))
 | 0 => ⟨fun _ _ _ _ _ r h => by simp [bits_Put.j0] at h, fun _ _ _ _ r h => by simp [bits_Put.l0] at h⟩
 | k + 1 => by
  obtain ⟨ih0, ih1⟩ := bits_Put.mono_l k
  refine ⟨?_, ?_⟩
  ·intro y0 y1 y2 y3 y4
   unfold bits_Put.j0
   repeat' first
   | (with_reducible exact ih0 _ _ _ _ _)
   | (with_reducible exact ih1 _ _ _ _)
   | (with_reducible exact LeO.refl _)
   | (with_reducible exact LeO.none _)
   | (with_reducible refine LeO.ite ?_ ?_)
   | (with_reducible refine LeO.bind ?_ (fun _ => ?_))
   | exact ih0 _ _ _ _ _
   | exact ih1 _ _ _ _
   | exact LeO.none _
   | refine LeO.ite ?_ ?_
   | refine LeO.bind ?_ (fun _ => ?_)
  ·intro y0 y1 y2 y3
   unfold bits_Put.l0
   repeat' first
   | (with_reducible exact ih0 _ _ _ _ _)
   | (with_reducible exact ih1 _ _ _ _)
   | (with_reducible exact LeO.refl _)
   | (with_reducible exact LeO.none _)
   | (with_reducible refine LeO.ite ?_ ?_)
   | (with_reducible refine LeO.bind ?_ (fun _ => ?_))
   | exact ih0 _ _ _ _ _
   | exact ih1 _ _ _ _
   | exact LeO.none _
   | refine LeO.ite ?_ ?_
   | refine LeO.bind ?_ (fun _ => ?_)
theorem bits_Put.mono : ∀ a0 a1 a2 a3 k, LeO (bits_Put.f k a0 a1 a2 a3) (bits_Put.f (k + 1) a0 a1 a2 a3) := by
 intro a0 a1 a2 a3 k
 obtain ⟨ih0, ih1⟩ := bits_Put.mono_l k
 unfold bits_Put.f
 repeat' first
   | (with_reducible exact ih0 _ _ _ _ _)
   | (with_reducible exact ih1 _ _ _ _)
   | (with_reducible exact LeO.refl _)
   | (with_reducible exact LeO.none _)
   | (with_reducible refine LeO.ite ?_ ?_)
   | (with_reducible refine LeO.bind ?_ (fun _ => ?_))
   | exact ih0 _ _ _ _ _
   | exact ih1 _ _ _ _
   | exact LeO.none _
   | refine LeO.ite ?_ ?_
   | refine LeO.bind ?_ (fun _ => ?_)
def bits_Put.T9 : Bool × List (List Nat × List Nat) := (true, [([], []), ([0], [0]), ([], []), ([2], [2]), ([3], [3]), ([1, 4], [1, 4]), ([5], [5]), ([], []), ([], []), ([7, 8], [7, 8]), ([9], [9]), ([10], [10]), ([], []), ([12], [12]), ([13], [13]), ([14], [14]), ([11, 15], [11, 15]), ([6, 16], [6, 16]), ([1, 4, 0, 1, 2, 3, 4, 5, 6, 7, 8, 9, 10, 11, 12, 13, 14, 15, 16, 17], [1, 4]), ([18, 17, 0, 1, 2, 3, 4, 5, 6, 7, 8, 9, 10, 11, 12, 13, 14, 15, 16, 17], [17, 18])])
def bits_Put.B9 : List Nat := [0, 1, 0, 4, 12, 31, 63, 0, 0, 384, 896, 1920, 0, 4096, 12288, 28672, 65408, 131071, 262143, 524287]
theorem bits_Put.tab9 : rtab .any (opsOf Try.f21 9) = bits_Put.T9 := by kernel_rfl
theorem bits_Put.bits9 : waitsOk bits_Put.T9.2 bits_Put.B9 = true := by kernel_rfl
set_option maxHeartbeats 8000000 in
set_option maxRecDepth 100000 in
theorem bits_Put.calls (k : Nat) (A0_0 : Option Addr) (c0_0 : Nat) (l0_0 : List Int) (a0_1 : Int) (a1 : Int) (a2 : Int) (r1 : List Int) (r2 : Int) (w : World) (hr0_0 : Kd.C (Kd.int .u8) w A0_0 l0_0.length l0_0) (hc0_0 : l0_0.length ≤ c0_0) (h : bits_Put.f k l0_0 a0_1 a1 a2 = some (r1, r2)) :
  Calls Try.prog 21 #[.agg #[.slice A0_0 l0_0.length c0_0, .int .i64 a0_1], .int .u64 a1, .int .i64 a2] w fun e w' => ∃ v0_ : Value, e = .returned (.agg #[v0_, .int .i64 r2]) ∧ Kd.R (Kd.int .u8) 5 w' w.heap.size (fun _ => True) v0_ r1 ∧ Below w.heap.size w w' := by
 have hu33 := Try.underlying33
 have HR0_0 := Aside0.mk hr0_0
 have HC0_0 := Aside0.mk hc0_0
 clear hr0_0 hc0_0
 have HB := Aside0.mk (Below.refl w.heap.size w)
 have H : ((slices_Clone_byte_byte.f l0_0).bind fun t112 => (if a2 < 0 then (bits_Put.j0 k a1 a2 true t112 a0_1) else (bits_Put.j0 k a1 a2 (decide (a2 > 64)) t112 a0_1))) = some (r1, r2) := h
 clear h
 replace H := Option.bind_eq_some_iff.mp H
 obtain ⟨t112, A40, H⟩ := H
 replace H : (if a2 < 0 then (bits_Put.j0 k a1 a2 true t112 a0_1) else (bits_Put.j0 k a1 a2 (decide (a2 > 64)) t112 a0_1)) = some (r1, r2) := H
 have A4 := Aside0.mk A40
 clear A40
 have HC5 := Aside0.mk H
 clear H
 go_enter Try.func21, Try.ntmps21
 go_upto_region 2 with (first | ((with_reducible refine gate_dst (N := 3) rfl ?_); refine box_event ?hg (N := 3) ?hd (cs := #[.slice A0_0 l0_0.length c0_0, .int .i64 a0_1]) (t := 33) ?hr ?_; (case hd => rfl); (case hg => rfl); (case hr => first | (go_simp; done) | (go_simp; rfl)); intro gb110 hg w6 hbox hb; have n0_ := Aside0.mk (below_step (by repeat (first | (with_reducible first | exact HB.out | apply below_alloc | apply pw_below_drewN | apply below_drew1) | exact HB.out)) hb); have n1_ := Aside0.mk (hbox); have n2_ := Aside0.mk ((by rw [hg]; exact (below_size (by repeat (first | (with_reducible first | exact HB.out | apply below_alloc | apply pw_below_drewN | apply below_drew1) | exact HB.out))) : w.heap.size ≤ gb110)); have n3_ := Aside0.mk ((by rw [hg]; exact (below_size (by repeat (first | (with_reducible first | exact HB.out | apply below_alloc | apply pw_below_drewN | apply below_drew1) | exact HB.out))) : w.heap.size ≤ gb110)); clear HB; have HB := n0_; have BK110 := n1_; have GW110 := n2_; have GE110 := n3_; clear n0_ n1_ n2_ n3_; clear hb hbox hg) | ((with_reducible refine gate_dst (N := 6) rfl ?_); refine box_event ?hg (N := 6) ?hd (cs := #[.slice none 0 0, .int .i64 0]) (t := 33) ?hr ?_; (case hd => rfl); (case hg => rfl); (case hr => first | (go_simp; done) | (go_simp; rfl)); intro gb111 hg w7 hbox hb; have n0_ := Aside0.mk (blk_below (g := gb110) (o := .cells #[.slice A0_0 l0_0.length c0_0, .int .i64 a0_1] 33 (0, 0)) (by (with_reducible repeat (first | refine blk_drewN ?_ _ | refine blk_drew ?_ | refine blk_alloc ?_ _)); exact BK110.out) hb); have n1_ := Aside0.mk (below_step (by repeat (first | (with_reducible first | exact HB.out | apply below_alloc | apply pw_below_drewN | apply below_drew1 | refine below_set ?_ GE110.out) | exact HB.out)) hb); have n2_ := Aside0.mk (hbox); have n3_ := Aside0.mk ((by rw [hg]; exact (below_size (by repeat (first | (with_reducible first | exact HB.out | apply below_alloc | apply pw_below_drewN | apply below_drew1 | refine below_set ?_ GE110.out) | exact HB.out))) : w.heap.size ≤ gb111)); have n4_ := Aside0.mk ((by rw [hg]; exact (below_size (by repeat (first | (with_reducible first | exact HB.out | apply below_alloc | apply pw_below_drewN | apply below_drew1 | refine below_set ?_ GE110.out) | exact HB.out))) : w.heap.size ≤ gb111)); have n5_ := Aside0.mk ((by rw [hg]; exact Nat.ne_of_lt (blk_lt (g := gb110) (o := .cells #[.slice A0_0 l0_0.length c0_0, .int .i64 a0_1] 33 (0, 0)) (by (with_reducible repeat (first | refine blk_drewN ?_ _ | refine blk_drew ?_ | refine blk_alloc ?_ _)); exact BK110.out)) : gb110 ≠ gb111)); have n6_ := Aside0.mk ((by rw [hg]; exact Nat.ne_of_gt (blk_lt (g := gb110) (o := .cells #[.slice A0_0 l0_0.length c0_0, .int .i64 a0_1] 33 (0, 0)) (by (with_reducible repeat (first | refine blk_drewN ?_ _ | refine blk_drew ?_ | refine blk_alloc ?_ _)); exact BK110.out)) : gb111 ≠ gb110)); clear BK110; clear HB; have BK110 := n0_; have HB := n1_; have BK111 := n2_; have GW111 := n3_; have GE111 := n4_; have NB110_111 := n5_; have NB111_110 := n6_; clear n0_ n1_ n2_ n3_ n4_ n5_ n6_; clear hb hbox hg; have hnb8 := NB110_111.out; have hnc8 := NB111_110.out; have hcz9_0 : w7.cell? ⟨gb110, 0, none⟩ = some (.slice A0_0 l0_0.length c0_0) := (blk_cell BK110.out 0).trans rfl; have hcz9_1 : w7.cell? ⟨gb110, 1, none⟩ = some (.int .i64 a0_1) := (blk_cell BK110.out 1).trans rfl; have hfz9_0 := blk_frozen BK110.out 0; have hfz9_1 := blk_frozen BK110.out 1) | ((with_reducible refine gate_callee (f := 48) rfl ?_); refine goesL_ (some 10) rfl rfl Try.func48 (by kernel_rfl) rfl #[.slice A0_0 l0_0.length c0_0] rfl (by (try simp only [List.map_toArray, List.map_cons, List.map_nil]); first | done | rfl | (simp only [List.length_drop, List.length_take]; rfl)) ?_; (with_reducible refine (slices_Clone_byte_byte.calls _ _ l0_0 t112 _ ?side1 ?side2 A4.out).mono ?_); (case side1 => repeat (first | exact (Kd.C_below HR0_0.out HB.out) | (with_reducible refine Kd.C_alloc ?_ _) | (with_reducible refine Kd.C_drewN ?_ _) | (with_reducible refine Kd.C_drew ?_))); (case side2 => exact HC0_0.out); rintro e w10 ⟨v113, rfl, ho0, hb⟩; refine ⟨_, rfl, ?_⟩; have n0_ := Aside0.mk (Kd.R_lower ho0 (below_size (by repeat (first | (with_reducible first | exact HB.out | apply below_alloc | apply pw_below_drewN | apply below_drew1 | refine below_set ?_ GE110.out | refine below_set ?_ GE111.out) | exact HB.out)))); have n1_ := Aside0.mk (blk_below (g := gb110) (o := .cells #[.slice A0_0 l0_0.length c0_0, .int .i64 a0_1] 33 (0, 0)) (by (with_reducible repeat (first | refine blk_drewN ?_ _ | refine blk_drew ?_ | refine blk_alloc ?_ _)); exact BK110.out) hb); have n2_ := Aside0.mk (blk_below (g := gb111) (o := .cells #[.slice none 0 0, .int .i64 0] 33 (0, 0)) (by (with_reducible repeat (first | refine blk_drewN ?_ _ | refine blk_drew ?_ | refine blk_alloc ?_ _)); exact BK111.out) hb); have n3_ := Aside0.mk (below_step (by repeat (first | (with_reducible first | exact HB.out | apply below_alloc | apply pw_below_drewN | apply below_drew1 | refine below_set ?_ GE110.out | refine below_set ?_ GE111.out) | exact HB.out)) hb); clear BK110; clear BK111; clear HB; have HO114 := n0_; have BK110 := n1_; have BK111 := n2_; have HB := n3_; clear n0_ n1_ n2_ n3_; (try clear hb); (try clear hb2); (try clear hk); (try clear hi); (try clear ho0); obtain ⟨Ao11, co11, eo11⟩ := Kd.R_slice HO114.out; subst eo11; have hcz12_0 : w10.cell? ⟨gb110, 0, none⟩ = some (.slice A0_0 l0_0.length c0_0) := (blk_cell BK110.out 0).trans rfl; have hcz12_1 : w10.cell? ⟨gb110, 1, none⟩ = some (.int .i64 a0_1) := (blk_cell BK110.out 1).trans rfl; have hfz12_0 := blk_frozen BK110.out 0; have hfz12_1 := blk_frozen BK110.out 1))
 (try simp only [Act.put, List.setIfInBounds_toArray, List.set_cons_zero, List.set_cons_succ])
 go_cut [17] (fun v17 wc => ∃ (kq : Nat) (x17_4 : Bool), v17 = .bool x17_4 ∧ Aside0 (bits_Put.j0 kq a1 a2 x17_4 t112 a0_1 = some (r1, r2)) ∧ Aside0 (kq ≤ k) ∧ Aside0 (Kd.R (Kd.int .u8) 5 wc w.heap.size (fun _ => True) (.slice Ao11 t112.length co11) t112) ∧ Aside0 (wc.heap[gb110]? = some (.cells #[(.slice Ao11 t112.length co11), .int .i64 a0_1] 33 (0, 0))) ∧ Aside0 (wc.heap[gb111]? = some (.cells #[(.slice none 0 0), .int .i64 0] 33 (0, 0))) ∧ Aside0 (Below w.heap.size w wc))
 case first =>
  have H := HC5.out
  clear HC5
  by_cases c13 : a2 < 0
  ·rw [if_pos c13] at H
   have c13b0 : decide (a2 < 0) = true := decide_eq_true c13
   clear c13
   (first | rw [c13b0] | (simp only [i64_w, i32_w]; rw [c13b0]) | skip)
   have H' := Aside0.mk H
   clear H
   go_wp2
   go_meet
   case rel => exact ⟨_, (true), (by first | rfl | (simp; done) | (simp [*]; done)), H', ⟨by first | omega | exact Nat.le_refl _⟩, ⟨by (with_reducible repeat (first | apply Kd.R_alloc | apply Kd.R_drewN | apply Kd.R_drew)); exact Kd.R_mono (Kd.R_far (p := ⟨gb110, 0, none⟩) (Kd.R_types HO114.out BK110.out (by decide)) (fun _ hk => hk.2) (.slice Ao11 t112.length co11)) (fun _ hk => trivial)⟩, ⟨by (with_reducible repeat (first | refine blk_drewN ?_ _ | refine blk_drew ?_ | refine blk_alloc ?_ _)); refine blk_put (cs := #[.slice A0_0 l0_0.length c0_0, .int .i64 a0_1]) ?_ 0 _ rfl; (with_reducible repeat (first | refine blk_drewN ?_ _ | refine blk_drew ?_ | refine blk_alloc ?_ _)); exact BK110.out⟩, ⟨by (with_reducible repeat (first | refine blk_drewN ?_ _ | refine blk_drew ?_ | refine blk_alloc ?_ _)); refine blk_far ?_ NB111_110.out _; (with_reducible repeat (first | refine blk_drewN ?_ _ | refine blk_drew ?_ | refine blk_alloc ?_ _)); exact BK111.out⟩, ⟨by repeat (first | (with_reducible first | exact HB.out | apply below_alloc | apply pw_below_drewN | apply below_drew1 | refine below_set ?_ GE110.out | refine below_set ?_ GE111.out) | exact HB.out)⟩⟩
  ·rw [if_neg c13] at H
   have c13b0 : decide (a2 < 0) = false := decide_eq_false c13
   clear c13
   (first | rw [c13b0] | (simp only [i64_w, i32_w]; rw [c13b0]) | skip)
   have H' := Aside0.mk H
   clear H
   go_wp2
   go_meet
   case rel => exact ⟨_, (decide (a2 > 64)), (by first | rfl | (simp; done) | (simp [*]; done)), H', ⟨by first | omega | exact Nat.le_refl _⟩, ⟨by (with_reducible repeat (first | apply Kd.R_alloc | apply Kd.R_drewN | apply Kd.R_drew)); exact Kd.R_mono (Kd.R_far (p := ⟨gb110, 0, none⟩) (Kd.R_types HO114.out BK110.out (by decide)) (fun _ hk => hk.2) (.slice Ao11 t112.length co11)) (fun _ hk => trivial)⟩, ⟨by (with_reducible repeat (first | refine blk_drewN ?_ _ | refine blk_drew ?_ | refine blk_alloc ?_ _)); refine blk_put (cs := #[.slice A0_0 l0_0.length c0_0, .int .i64 a0_1]) ?_ 0 _ rfl; (with_reducible repeat (first | refine blk_drewN ?_ _ | refine blk_drew ?_ | refine blk_alloc ?_ _)); exact BK110.out⟩, ⟨by (with_reducible repeat (first | refine blk_drewN ?_ _ | refine blk_drew ?_ | refine blk_alloc ?_ _)); refine blk_far ?_ NB111_110.out _; (with_reducible repeat (first | refine blk_drewN ?_ _ | refine blk_drew ?_ | refine blk_alloc ?_ _)); exact BK111.out⟩, ⟨by repeat (first | (with_reducible first | exact HB.out | apply below_alloc | apply pw_below_drewN | apply below_drew1 | refine below_set ?_ GE110.out | refine below_set ?_ GE111.out) | exact HB.out)⟩⟩
 case rest =>
  clear HC5
  try clear c1
  try clear c2
  try clear p2
  try clear c4
  try clear c8
  try clear c13
  try clear c13b0
  try clear hcz12_0
  try clear hcz12_1
  try clear hcz9_0
  try clear hcz9_1
  try clear hfz12_0
  try clear hfz12_1
  try clear hfz9_0
  try clear hfz9_1
  obtain ⟨kq, x17_4, rfl, HA, HJ4, HO_111000, BK110, BK111, HB⟩ := hcut
  cases kq with
  | zero => exact absurd HA.out (by simp [bits_Put.j0])
  | succ kj4 =>
   have H := HA.out
   clear HA
   simp only [bits_Put.j0] at H
   by_cases c14 : x17_4 = true
   ·subst c14
    have H1 : (some (t112, a0_1)) = some (r1, r2) := by rw [if_pos rfl] at H; exact H
    clear H
    have H := H1
    clear H1
    simp only [Option.some.injEq, Prod.mk.injEq] at H
    obtain ⟨rfl, rfl⟩ := H
    have hnb15 := NB110_111.out
    have hnc15 := NB111_110.out
    have hcz16_0 : wc.cell? ⟨gb110, 0, none⟩ = some (.slice Ao11 t112.length co11) := (blk_cell BK110.out 0).trans rfl
    have hcz16_1 : wc.cell? ⟨gb110, 1, none⟩ = some (.int .i64 a0_1) := (blk_cell BK110.out 1).trans rfl
    have hfz16_0 := blk_frozen BK110.out 0
    have hfz16_1 := blk_frozen BK110.out 1
    have hcz17_0 : wc.cell? ⟨gb111, 0, none⟩ = some (.slice none 0 0) := (blk_cell BK111.out 0).trans rfl
    have hcz17_1 : wc.cell? ⟨gb111, 1, none⟩ = some (.int .i64 0) := (blk_cell BK111.out 1).trans rfl
    have hfz17_0 := blk_frozen BK111.out 0
    have hfz17_1 := blk_frozen BK111.out 1
    go_wp2
    refine bodyPost_ret (results_cell_row rfl _ _ gb111 33 #[.slice Ao11 t112.length co11, .int .i64 a0_1] (0, 0) _ rfl (by (with_reducible repeat (first | refine blk_drewN ?_ _ | refine blk_drew ?_ | refine blk_alloc ?_ _)); refine blk_put (cs := #[.slice Ao11 t112.length co11, .int .i64 0]) ?_ 1 _ rfl; (with_reducible repeat (first | refine blk_drewN ?_ _ | refine blk_drew ?_ | refine blk_alloc ?_ _)); refine blk_put (cs := #[.slice none 0 0, .int .i64 0]) ?_ 0 _ rfl; (with_reducible repeat (first | refine blk_drewN ?_ _ | refine blk_drew ?_ | refine blk_alloc ?_ _)); exact BK111.out) Try.underlying33 rfl (by kernel_rfl)) rfl ?_
    exact ⟨_, by first | rfl | (simp [errW_none, errW_some] <;> rfl) | (simp [*, errW_none, errW_some] <;> rfl), by (with_reducible repeat (first | apply Kd.R_alloc | apply Kd.R_drewN | apply Kd.R_drew)); exact Kd.R_mono (Kd.R_far (p := ⟨gb111, 1, none⟩) (Kd.R_far (p := ⟨gb111, 0, none⟩) (Kd.R_types HO_111000.out BK111.out (by decide)) (fun _ hk => hk.2) (.slice Ao11 t112.length co11)) (fun _ hk => hk.2) (.int .i64 a0_1)) (fun _ hk => trivial), by repeat (first | (with_reducible first | exact HB.out | apply below_alloc | apply pw_below_drewN | apply below_drew1 | refine below_set ?_ GE110.out | refine below_set ?_ GE111.out) | exact HB.out)⟩
   ·replace c14 := Bool.eq_false_iff.mpr c14
    subst c14
    have H1 : (bits_Put.l0 kj4 a1 (wrap64 (a2 - 1)) t112 a0_1) = some (r1, r2) := by rw [if_neg (show ¬ (false = true) by decide)] at H; exact H
    clear H
    have H := H1
    clear H1
    have H' := Aside0.mk H
    clear H
    go_wp2
    go_loopg [7] kj4 (fun kq v7 w' => ∃ (x7_2 : Int) (x111000_2 : List Int) (x111001_2 : Int) (u111000 : Value), v7 = .int .i64 x7_2 ∧ Aside0 (bits_Put.l0 kq a1 x7_2 x111000_2 x111001_2 = some (r1, r2)) ∧ Aside0 (kq ≤ kj4) ∧ Aside0 (Kd.R (Kd.int .u8) 5 w' w.heap.size (fun _ => True) u111000 x111000_2) ∧ Aside0 (w'.heap[gb110]? = some (.cells #[u111000, .int .i64 x111001_2] 33 (0, 0))) ∧ Aside0 (w'.heap[gb111]? = some (.cells #[(.slice none 0 0), .int .i64 0] 33 (0, 0))) ∧ Aside0 (Below w.heap.size w w'))
    case atStart => exact ⟨(wrap64 (a2 - 1)), (t112), (a0_1), (.slice Ao11 t112.length co11), (by first | rfl | (simp; done) | (simp [*]; done)), H', ⟨Nat.le_refl _⟩, ⟨by (with_reducible repeat (first | apply Kd.R_alloc | apply Kd.R_drewN | apply Kd.R_drew)); exact HO_111000.out⟩, ⟨by (with_reducible repeat (first | refine blk_drewN ?_ _ | refine blk_drew ?_ | refine blk_alloc ?_ _)); exact BK110.out⟩, ⟨by (with_reducible repeat (first | refine blk_drewN ?_ _ | refine blk_drew ?_ | refine blk_alloc ?_ _)); exact BK111.out⟩, ⟨by repeat (first | (with_reducible first | exact HB.out | apply below_alloc | apply pw_below_drewN | apply below_drew1 | refine below_set ?_ GE110.out | refine below_set ?_ GE111.out) | exact HB.out)⟩⟩
    case round =>
     clear H'
     try clear c1
     try clear c2
     try clear p2
     try clear c4
     try clear p6
     try clear c8
     try clear c13
     try clear c13b0
     try clear c14
     try clear c15
     try clear hcz12_0
     try clear hcz12_1
     try clear hcz16_0
     try clear hcz16_1
     try clear hcz17_0
     try clear hcz17_1
     try clear hcz9_0
     try clear hcz9_1
     try clear hfz12_0
     try clear hfz12_1
     try clear hfz16_0
     try clear hfz16_1
     try clear hfz17_0
     try clear hfz17_1
     try clear hfz9_0
     try clear hfz9_1
     try clear p2
     obtain ⟨x7_2, x111000_2, x111001_2, u111000, rfl, HA, HK2, HO_111000, BK110, BK111, HB⟩ := hrel
     cases gk with
     | zero => exact absurd HA.out (by simp [bits_Put.l0])
     | succ k2 =>
      have H := HA.out
      clear HA
      simp only [bits_Put.l0] at H
      by_cases c18 : x7_2 ≥ 0
      ·rw [if_pos c18] at H
       have c18b0 : decide (0 ≤ x7_2) = true := decide_eq_true c18
       clear c18
       by_cases c19 : (Int.tmod x111001_2 8) = 0
       ·rw [if_pos c19] at H
        have c19b0 : ((Int.tmod x111001_2 8) == 0) = true := beq_iff_eq.mpr c19
        have c19b1 : ((Int.tmod x111001_2 8) != 0) = false := bne_eq_false_iff_eq.mpr c19
        clear c19
        by_cases c20 : x111000_2.length < 140737488355328
        ·rw [if_pos c20] at H
         have LMc20 := Aside0.mk c20
         clear c20
         obtain ⟨y115, hy115⟩ : ∃ y_ : List Int, y_ = (x111000_2 ++ [0]) := ⟨_, rfl⟩
         replace H : (if 0 ≤ (wrap64 (Int.tdiv x111001_2 8)) then (if (wrap64 (Int.tdiv x111001_2 8)) < (y115.length : Int) then (if 0 ≤ x7_2 then (if 0 ≤ (wrap64 (7 - (Int.tmod x111001_2 8))) then (bits_Put.l0 k2 a1 (wrap64 (x7_2 - 1)) (y115.set ((wrap64 (Int.tdiv x111001_2 8)) : Int).toNat (Go.bits .or .u8 (rd y115 (wrap64 (Int.tdiv x111001_2 8))) (shl .u8 ((Go.bits .and .u64 (shr .u64 a1 x7_2) 1) % 256) (wrap64 (7 - (Int.tmod x111001_2 8)))))) (wrap64 (x111001_2 + 1))) else (none)) else (none)) else (none)) else (none)) = some (r1, r2) := by first | (rw [hy115]; with_reducible exact H) | (have H2_ := (Option.bind_some _ _).symm.trans H; rw [hy115]; with_reducible exact H2_) | (have H2_ := (Option.bind_some _ _).symm.trans H; with_reducible exact H2_) | with_reducible exact H | (rw [hy115]; exact H) | exact H
         have Ny115 := Aside0.mk hy115
         clear hy115
         obtain ⟨ji21, hji21⟩ : ∃ j_ : Int, (wrap64 (Int.tdiv x111001_2 8)) = j_ := ⟨_, rfl⟩
         replace H : (if 0 ≤ (ji21) then (if (ji21) < (y115.length : Int) then (if 0 ≤ x7_2 then (if 0 ≤ (wrap64 (7 - (Int.tmod x111001_2 8))) then (bits_Put.l0 k2 a1 (wrap64 (x7_2 - 1)) (y115.set ((ji21) : Int).toNat (Go.bits .or .u8 (rd y115 (ji21)) (shl .u8 ((Go.bits .and .u64 (shr .u64 a1 x7_2) 1) % 256) (wrap64 (7 - (Int.tmod x111001_2 8)))))) (wrap64 (x111001_2 + 1))) else (none)) else (none)) else (none)) else (none)) = some (r1, r2) := by first | (rw [hji21] at H; exact H) | (simp only [hji21] at H ⊢; exact H)
         have hji21w : (IntKind.i64.wrap (Int.tdiv x111001_2 8)) = ji21 := (i64_w _).trans hji21
         by_cases c22 : 0 ≤ (ji21)
         ·rw [if_pos c22] at H
          have c22b0 : decide (0 ≤ (ji21)) = true := decide_eq_true c22
          clear c22
          by_cases c23 : (ji21) < (y115.length : Int)
          ·rw [if_pos c23] at H
           have c23b0 : decide ((ji21) < (y115.length : Int)) = true := decide_eq_true c23
           clear c23
           by_cases c24 : 0 ≤ x7_2
           ·rw [if_pos c24] at H
            have c24b0 := eq_true c24
            have c24b1 : decide (0 ≤ x7_2) = true := decide_eq_true c24
            clear c24
            obtain ⟨ji25, hji25⟩ : ∃ j_ : Int, (shr .u64 a1 x7_2) = j_ := ⟨_, rfl⟩
            replace H : (if 0 ≤ (wrap64 (7 - (Int.tmod x111001_2 8))) then (bits_Put.l0 k2 a1 (wrap64 (x7_2 - 1)) (y115.set ((ji21) : Int).toNat (Go.bits .or .u8 (rd y115 (ji21)) (shl .u8 ((Go.bits .and .u64 (ji25) 1) % 256) (wrap64 (7 - (Int.tmod x111001_2 8)))))) (wrap64 (x111001_2 + 1))) else (none)) = some (r1, r2) := by first | (rw [hji25] at H; exact H) | (simp only [hji25] at H ⊢; exact H)
            have hji25_ : (a1 / 2 ^ min x7_2.toNat 64) = ji25 := hji25
            have hji25z : x7_2 ≤ 64 → (a1 / 2 ^ x7_2.toNat) = ji25 := shr_small hji25
            obtain ⟨ji26, hji26⟩ : ∃ j_ : Int, (wrap64 (7 - (Int.tmod x111001_2 8))) = j_ := ⟨_, rfl⟩
            replace H : (if 0 ≤ (ji26) then (bits_Put.l0 k2 a1 (wrap64 (x7_2 - 1)) (y115.set ((ji21) : Int).toNat (Go.bits .or .u8 (rd y115 (ji21)) (shl .u8 ((Go.bits .and .u64 (ji25) 1) % 256) (ji26)))) (wrap64 (x111001_2 + 1))) else (none)) = some (r1, r2) := by first | (rw [hji26] at H; exact H) | (simp only [hji26] at H ⊢; exact H)
            have hji26w : (IntKind.i64.wrap (7 - (Int.tmod x111001_2 8))) = ji26 := (i64_w _).trans hji26
            by_cases c27 : 0 ≤ (ji26)
            ·rw [if_pos c27] at H
             have c27b0 := eq_true c27
             have c27b1 : decide (0 ≤ (ji26)) = true := decide_eq_true c27
             clear c27
             obtain ⟨ji28, hji28⟩ : ∃ j_ : Int, (shl .u8 ((Go.bits .and .u64 (ji25) 1) % 256) (ji26)) = j_ := ⟨_, rfl⟩
             replace H : (bits_Put.l0 k2 a1 (wrap64 (x7_2 - 1)) (y115.set ((ji21) : Int).toNat (Go.bits .or .u8 (rd y115 (ji21)) (ji28))) (wrap64 (x111001_2 + 1))) = some (r1, r2) := by first | (rw [hji28] at H; exact H) | (simp only [hji28] at H ⊢; exact H)
             have hji28_ : (IntKind.u8.wrap (((Go.bits .and .u64 (ji25) 1) % 256) * 2 ^ min (ji26).toNat 8)) = ji28 := hji28
             have hji28z : (ji26) ≤ 8 → (IntKind.u8.wrap (((Go.bits .and .u64 (ji25) 1) % 256) * 2 ^ (ji26).toNat)) = ji28 := shl_small hji28
             have hji28m : (((Go.bits .and .u64 (ji25) 1) % 256) * 2 ^ min (ji26).toNat 8) % 256 = ji28 := (IntKind.wrap_u8 _).symm.trans hji28_
             have hji28n : (ji26) ≤ 8 → (((Go.bits .and .u64 (ji25) 1) % 256) * 2 ^ (ji26).toNat) % 256 = ji28 := fun h_ => (IntKind.wrap_u8 _).symm.trans (hji28z h_)
             have hji28k : IntKind.u8.wrap (IntKind.u8.wrap (Go.bits .and .u64 (ji25) 1) * 2 ^ min (ji26).toNat 8) = ji28 := by rw [IntKind.wrap_u8, IntKind.wrap_u8]; exact hji28m
             have hji28l : (ji26) ≤ 8 → IntKind.u8.wrap (IntKind.u8.wrap (Go.bits .and .u64 (ji25) 1) * 2 ^ (ji26).toNat) = ji28 := fun h_ => by rw [IntKind.wrap_u8, IntKind.wrap_u8]; exact hji28n h_
             obtain ⟨y119, hy119⟩ : ∃ y_ : List Int, y_ = (y115.set ((ji21) : Int).toNat (Go.bits .or .u8 (rd y115 (ji21)) (ji28))) := ⟨_, rfl⟩
             replace H : (bits_Put.l0 k2 a1 (wrap64 (x7_2 - 1)) y119 (wrap64 (x111001_2 + 1))) = some (r1, r2) := by first | (rw [hy119]; with_reducible exact H) | (have H2_ := (Option.bind_some _ _).symm.trans H; rw [hy119]; with_reducible exact H2_) | (have H2_ := (Option.bind_some _ _).symm.trans H; with_reducible exact H2_) | with_reducible exact H | (rw [hy119]; exact H) | exact H
             have Ny119 := Aside0.mk hy119
             clear hy119
             have H' := Aside0.mk H
             clear H
             have hnb30 := NB110_111.out
             have hnc30 := NB111_110.out
             have hcz31_0 : wr.cell? ⟨gb110, 0, none⟩ = some (u111000) := (blk_cell BK110.out 0).trans rfl
             have hcz31_1 : wr.cell? ⟨gb110, 1, none⟩ = some (.int .i64 x111001_2) := (blk_cell BK110.out 1).trans rfl
             have hfz31_0 := blk_frozen BK110.out 0
             have hfz31_1 := blk_frozen BK110.out 1
             try go_wp2_with (first | ((with_reducible refine gate_builtin (b := .append) (xs := #[.tmp 30, .tmp 31]) rfl ?_); at_builtin; refine Kd.R_append (Kd.int .u8) (w0 := w) w.heap.size rfl (.tmp 30) (.tmp 31) 22 5 (.int .u8 0) 1 rfl Try.underlying22 info5 rfl (by decide) (by omega) u111000 x111000_2 0 [.int .u8 0] (fun _ => True) (fun _ => False) rfl rfl ?aP (fun _ hk => hk.elim) ?aF ?aO ?aB ?aS ?aL ?_; (case aP => exact rfl); (case aB => exact (by repeat (first | (with_reducible first | exact HB.out | apply below_alloc | apply pw_below_drewN | apply below_drew1 | refine below_set ?_ GE110.out | refine below_set ?_ GE111.out) | exact HB.out))); (case aF => exact (fun _ _ => trivial)); (case aO => exact (by (with_reducible repeat (first | apply Kd.R_alloc | apply Kd.R_drewN | apply Kd.R_drew)); exact HO_111000.out)); (case aS => exact (below_size (by repeat (first | (with_reducible first | exact HB.out | apply below_alloc | apply pw_below_drewN | apply below_drew1 | refine below_set ?_ GE110.out | refine below_set ?_ GE111.out) | exact HB.out)))); (case aL => have := LMc20.out; omega); intro v116 w32 ho hb hg hat; rw [← Ny115.out] at ho; have n0_ := Aside0.mk (blk_grown (g := gb110) (o := .cells #[u111000, .int .i64 x111001_2] 33 (0, 0)) (by (with_reducible repeat (first | refine blk_drewN ?_ _ | refine blk_drew ?_ | refine blk_alloc ?_ _)); exact BK110.out) hg (Kd.R_ne HO_111000.out BK110.out (by decide))); have n1_ := Aside0.mk (blk_grown (g := gb111) (o := .cells #[.slice none 0 0, .int .i64 0] 33 (0, 0)) (by (with_reducible repeat (first | refine blk_drewN ?_ _ | refine blk_drew ?_ | refine blk_alloc ?_ _)); exact BK111.out) hg (Kd.R_ne HO_111000.out BK111.out (by decide))); have n2_ := Aside0.mk (hb); have n3_ := Aside0.mk (ho); clear BK110; clear BK111; clear HB; clear HO_111000; have BK110 := n0_; have BK111 := n1_; have HB := n2_; have HO117 := n3_; clear n0_ n1_ n2_ n3_; clear ho hb hg hat; obtain ⟨Ao33, co33, eo33⟩ := Kd.R_slice HO117.out; subst eo33; have hcz34_0 : w32.cell? ⟨gb110, 0, none⟩ = some (u111000) := (blk_cell BK110.out 0).trans rfl; have hcz34_1 : w32.cell? ⟨gb110, 1, none⟩ = some (.int .i64 x111001_2) := (blk_cell BK110.out 1).trans rfl; have hfz34_0 := blk_frozen BK110.out 0; have hfz34_1 := blk_frozen BK110.out 1))
             have n0_ : Aside0 (Kd.R (Kd.int .u8) 5 (w32.setCell ⟨gb110, 0, none⟩ (.slice Ao33 y115.length co33)) w.heap.size (fun _ => True) (.slice Ao33 y115.length co33) y115) := ⟨by (with_reducible repeat (first | apply Kd.R_alloc | apply Kd.R_drewN | apply Kd.R_drew)); exact Kd.R_mono (Kd.R_far (p := ⟨gb110, 0, none⟩) (Kd.R_types HO117.out BK110.out (by decide)) (fun _ hk => hk.2) (.slice Ao33 y115.length co33)) (fun _ hk => trivial)⟩
             have n1_ : Aside0 ((w32.setCell ⟨gb110, 0, none⟩ (.slice Ao33 y115.length co33)).heap[gb110]? = some (.cells #[.slice Ao33 y115.length co33, .int .i64 x111001_2] 33 (0, 0))) := ⟨by (with_reducible repeat (first | refine blk_drewN ?_ _ | refine blk_drew ?_ | refine blk_alloc ?_ _)); refine blk_put (cs := #[u111000, .int .i64 x111001_2]) ?_ 0 _ rfl; (with_reducible repeat (first | refine blk_drewN ?_ _ | refine blk_drew ?_ | refine blk_alloc ?_ _)); exact BK110.out⟩
             have n2_ : Aside0 ((w32.setCell ⟨gb110, 0, none⟩ (.slice Ao33 y115.length co33)).heap[gb111]? = some (.cells #[.slice none 0 0, .int .i64 0] 33 (0, 0))) := ⟨by (with_reducible repeat (first | refine blk_drewN ?_ _ | refine blk_drew ?_ | refine blk_alloc ?_ _)); refine blk_far ?_ NB111_110.out _; (with_reducible repeat (first | refine blk_drewN ?_ _ | refine blk_drew ?_ | refine blk_alloc ?_ _)); exact BK111.out⟩
             have n3_ : Aside0 (Below w.heap.size w (w32.setCell ⟨gb110, 0, none⟩ (.slice Ao33 y115.length co33))) := ⟨by repeat (first | (with_reducible first | exact HB.out | apply below_alloc | apply pw_below_drewN | apply below_drew1 | refine below_set ?_ GE110.out | refine below_set ?_ GE111.out) | exact HB.out)⟩
             (try clear HO117)
             (try clear BK110)
             (try clear BK111)
             (try clear HB)
             generalize (w32.setCell ⟨gb110, 0, none⟩ (.slice Ao33 y115.length co33)) = w35 at n0_ n1_ n2_ n3_ ⊢
             have HO117 := n0_
             have BK110 := n1_
             have BK111 := n2_
             have HB := n3_
             clear n0_ n1_ n2_ n3_
             have n0_ := Aside0.mk (Kd.R_drew HO117.out)
             have n1_ := Aside0.mk (blk_drew BK110.out)
             have n2_ := Aside0.mk (blk_drew BK111.out)
             have n3_ := Aside0.mk (below_drew1 HB.out)
             clear HO117
             clear BK110
             clear BK111
             clear HB
             have HO117 := n0_
             have BK110 := n1_
             have BK111 := n2_
             have HB := n3_
             clear n0_ n1_ n2_ n3_
             have p118 : 0 ≤ ((ji21) : Int) := of_decide_eq_true (by first | (with_reducible assumption) | assumption)
             have q118 : (ji21) < (y115.length : Int) := of_decide_eq_true (by first | (with_reducible assumption) | assumption)
             obtain ⟨ad118, e118, hx118_0⟩ := Kd.at_int (Kd.R_reads' HO117.out).2.2 (ji21) p118 q118
             cases e118
             replace p118 := eq_true p118
             (try (have q118s := q118; simp only [List.length_drop, List.length_take] at q118s; replace q118s := eq_true q118s)); replace q118 := eq_true q118
             have p29 : 0 ≤ ((ji21) : Int) := of_decide_eq_true (by first | (with_reducible assumption) | assumption)
             have q29 : ((ji21) : Int) < ((y115.length : Int) : Int) := of_decide_eq_true (by first | (with_reducible assumption) | assumption)
             obtain ⟨go29, co29, eo29, gb29, gl29, cl29, HG29⟩ := Kd.R_form HO117.out (by omega)
             (first | cases eo29 | (injection eo29 with ea_ en_ ec_; (first | subst ea_ | (injection ea_ with ea_; subst ea_)); subst ec_; clear en_))
             have GB29 := Aside0.mk gb29
             have GG29 := Aside0.mk HG29
             clear gb29 gl29 HG29
             (first | simp only [add_plain] at hx118_0 | skip)
             obtain ⟨hx29_0, hf29_0⟩ := Kd.R_celln 0 HO117.out ((ji21) : Int) p29 q29
             replace p29 := eq_true p29
             (try (have q29s := q29; simp only [List.length_drop, List.length_take] at q29s; replace q29s := eq_true q29s)); replace q29 := eq_true q29
             have HP37 := Kd.R_putn HO117.out ((ji21) : Int) (Go.bits .or .u8 (rd y115 (ji21)) (ji28))
             rw [← Ny119.out] at HP37
             have HQ37 := Aside0.mk HP37
             clear HP37
             refine start_ (n := 20) (S := fun w' => w'.cell? ⟨gb110, 0, none⟩ = some (.slice (some ⟨go29, 0, none⟩) y115.length co33) ∧ w'.cell? ⟨gb110, 1, none⟩ = some (.int .i64 x111001_2) ∧ w'.cell? ⟨go29, ((ji21)).toNat, none⟩ = some (.int .u8 (rd y115 (ji21)))) (ds := [19]) #[false, false, false, false, false, false, false, false, false, false, false, false, false, false, false, false, false, false, false, false] (by kernel_rfl) rfl rfl ⟨(blk_cell BK110.out 0).trans rfl, (blk_cell BK110.out 1).trans rfl, hx118_0⟩ (fun hHeld => ?_); refine with_tabW bits_Put.tab9 bits_Put.bits9 (fun HT_ HW_ => ?_)
             generalize w35.drew = w36 at HO117 BK110 BK111 HB GG29 HQ37 hf29_0 hx118_0 hx29_0 hHeld ⊢
             refine pure_ (i := 0) (N := some 34) (v := ?_) (a' := ?_) #[true, false, false, false, false, false, false, false, false, false, false, false, false, false, false, false, false, false, false, false] rfl rfl (any_of HT_.out (by kernel_rfl)) (fun _ _ _ h => h) (Or.inl ⟨by rfl, ?_⟩) ?_ ?_
             rotate_left
             ·intro w'
              go_simp
              with_reducible rfl
             rotate_left
             ·simp only [Act.put, List.setIfInBounds_toArray, List.set_cons_zero, List.set_cons_succ, i64_w, i32_w]
              rfl
             refine pure_ (i := 2) (N := some 36) (v := ?_) (a' := ?_) #[true, false, true, false, false, false, false, false, false, false, false, false, false, false, false, false, false, false, false, false] rfl rfl (any_of HT_.out (by kernel_rfl)) (fun _ _ _ h => h) (Or.inl ⟨by rfl, ?_⟩) ?_ ?_
             rotate_left
             ·intro w'
              go_simp
              with_reducible rfl
             rotate_left
             ·simp only [Act.put, List.setIfInBounds_toArray, List.set_cons_zero, List.set_cons_succ, i64_w, i32_w]
              rfl
             refine pure_ (i := 7) (N := some 41) (v := ?_) (a' := ?_) #[true, false, true, false, false, false, false, true, false, false, false, false, false, false, false, false, false, false, false, false] rfl rfl (any_of HT_.out (by kernel_rfl)) (fun _ _ _ h => h) (Or.inl ⟨by rfl, ?_⟩) ?_ ?_
             rotate_left
             ·intro w'
              go_simp
              with_reducible rfl
             rotate_left
             ·simp only [Act.put, List.setIfInBounds_toArray, List.set_cons_zero, List.set_cons_succ, i64_w, i32_w]
              rfl
             refine pure_ (i := 8) (N := some 42) (v := ?_) (a' := ?_) #[true, false, true, false, false, false, false, true, true, false, false, false, false, false, false, false, false, false, false, false] rfl rfl (any_of HT_.out (by kernel_rfl)) (fun _ _ _ h => h) (Or.inl ⟨by rfl, ?_⟩) ?_ ?_
             rotate_left
             ·intro w'
              go_simp
              with_reducible rfl
             rotate_left
             ·simp only [Act.put, List.setIfInBounds_toArray, List.set_cons_zero, List.set_cons_succ, i64_w, i32_w]
              rfl
             refine pure_ (i := 9) (N := some 43) (v := ?_) (a' := ?_) #[true, false, true, false, false, false, false, true, true, true, false, false, false, false, false, false, false, false, false, false] rfl rfl (any_of HT_.out (by kernel_rfl)) (fun _ _ _ h => h) (Or.inl ⟨by rfl, ?_⟩) ?_ ?_
             rotate_left
             ·intro w'
              go_simp
              with_reducible rfl
             rotate_left
             ·simp only [Act.put, List.setIfInBounds_toArray, List.set_cons_zero, List.set_cons_succ, i64_w, i32_w]
              rfl
             refine pure_ (i := 10) (N := some 44) (v := ?_) (a' := ?_) #[true, false, true, false, false, false, false, true, true, true, true, false, false, false, false, false, false, false, false, false] rfl rfl (any_of HT_.out (by kernel_rfl)) (fun _ _ _ h => h) (Or.inl ⟨by rfl, ?_⟩) ?_ ?_
             rotate_left
             ·intro w'
              go_simp
              with_reducible rfl
             rotate_left
             ·simp only [Act.put, List.setIfInBounds_toArray, List.set_cons_zero, List.set_cons_succ, i64_w, i32_w]
              rfl
             refine pure_ (i := 11) (N := some 45) (v := ?_) (a' := ?_) #[true, false, true, false, false, false, false, true, true, true, true, true, false, false, false, false, false, false, false, false] rfl rfl (any_of HT_.out (by kernel_rfl)) (fun _ _ _ h => h) (Or.inl ⟨by rfl, ?_⟩) ?_ ?_
             rotate_left
             ·intro w'
              go_simp
              with_reducible rfl
             rotate_left
             ·simp only [Act.put, List.setIfInBounds_toArray, List.set_cons_zero, List.set_cons_succ, i64_w, i32_w]
              rfl
             refine pure_ (i := 12) (N := some 46) (v := ?_) (a' := ?_) #[true, false, true, false, false, false, false, true, true, true, true, true, true, false, false, false, false, false, false, false] rfl rfl (any_of HT_.out (by kernel_rfl)) (fun _ _ _ h => h) (Or.inl ⟨by rfl, ?_⟩) ?_ ?_
             rotate_left
             ·intro w'
              go_simp
              with_reducible rfl
             rotate_left
             ·simp only [Act.put, List.setIfInBounds_toArray, List.set_cons_zero, List.set_cons_succ, i64_w, i32_w]
              rfl
             refine take_ (i := 1) (N := some 35) (v := ?_) (a' := ?_) #[true, true, true, false, false, false, false, true, true, true, true, true, true, false, false, false, false, false, false, false] rfl rfl (take_ofW HT_.out HW_.out (by kernel_rfl)) (fun _ _ _ h => h) (Or.inl ⟨by rfl, ?_⟩) hHeld ?_ ?_
             rotate_left
             ·rintro w' ⟨s0, s1, s2⟩
              go_simp
              with_reducible rfl
             rotate_left
             ·simp only [Act.put, List.setIfInBounds_toArray, List.set_cons_zero, List.set_cons_succ, i64_w, i32_w]
              rfl
             refine take_ (i := 3) (N := some 37) (v := ?_) (a' := ?_) #[true, true, true, true, false, false, false, true, true, true, true, true, true, false, false, false, false, false, false, false] rfl rfl (take_ofW HT_.out HW_.out (by kernel_rfl)) (fun _ _ _ h => h) (Or.inl ⟨by rfl, ?_⟩) hHeld ?_ ?_
             rotate_left
             ·rintro w' ⟨s0, s1, s2⟩
              go_simp
              with_reducible rfl
             rotate_left
             ·simp only [Act.put, List.setIfInBounds_toArray, List.set_cons_zero, List.set_cons_succ, i64_w, i32_w]
              rfl
             refine pure_ (i := 4) (N := some 38) (v := ?_) (a' := ?_) #[true, true, true, true, true, false, false, true, true, true, true, true, true, false, false, false, false, false, false, false] rfl rfl (any_of HT_.out (by kernel_rfl)) (fun _ _ _ h => h) (Or.inl ⟨by rfl, ?_⟩) ?_ ?_
             rotate_left
             ·intro w'
              go_simp
              with_reducible rfl
             rotate_left
             ·simp only [Act.put, List.setIfInBounds_toArray, List.set_cons_zero, List.set_cons_succ, i64_w, i32_w]
              rfl
             refine pure_ (i := 5) (N := some 39) (v := ?_) (a' := ?_) #[true, true, true, true, true, true, false, true, true, true, true, true, true, false, false, false, false, false, false, false] rfl rfl (any_of HT_.out (by kernel_rfl)) (fun _ _ _ h => h) (Or.inl ⟨by rfl, ?_⟩) ?_ ?_
             rotate_left
             ·intro w'
              go_simp
              with_reducible rfl
             rotate_left
             ·simp only [Act.put, List.setIfInBounds_toArray, List.set_cons_zero, List.set_cons_succ, i64_w, i32_w]
              rfl
             refine take_ (i := 6) (N := some 40) (v := ?_) (a' := ?_) #[true, true, true, true, true, true, true, true, true, true, true, true, true, false, false, false, false, false, false, false] rfl rfl (take_ofW HT_.out HW_.out (by kernel_rfl)) (fun _ _ _ h => h) (Or.inl ⟨by rfl, ?_⟩) hHeld ?_ ?_
             rotate_left
             ·rintro w' ⟨s0, s1, s2⟩
              go_simp
              with_reducible rfl
             rotate_left
             ·simp only [Act.put, List.setIfInBounds_toArray, List.set_cons_zero, List.set_cons_succ, i64_w, i32_w]
              rfl
             refine take_ (i := 13) (N := some 47) (v := ?_) (a' := ?_) #[true, true, true, true, true, true, true, true, true, true, true, true, true, true, false, false, false, false, false, false] rfl rfl (take_ofW HT_.out HW_.out (by kernel_rfl)) (fun _ _ _ h => h) (Or.inl ⟨by rfl, ?_⟩) hHeld ?_ ?_
             rotate_left
             ·rintro w' ⟨s0, s1, s2⟩
              go_simp
              with_reducible rfl
             rotate_left
             ·simp only [Act.put, List.setIfInBounds_toArray, List.set_cons_zero, List.set_cons_succ, i64_w, i32_w]
              rfl
             refine pure_ (i := 14) (N := some 48) (v := ?_) (a' := ?_) #[true, true, true, true, true, true, true, true, true, true, true, true, true, true, true, false, false, false, false, false] rfl rfl (any_of HT_.out (by kernel_rfl)) (fun _ _ _ h => h) (Or.inl ⟨by rfl, ?_⟩) ?_ ?_
             rotate_left
             ·intro w'
              go_simp
              with_reducible rfl
             rotate_left
             ·simp only [Act.put, List.setIfInBounds_toArray, List.set_cons_zero, List.set_cons_succ, i64_w, i32_w]
              rfl
             refine pure_ (i := 15) (N := some 49) (v := ?_) (a' := ?_) #[true, true, true, true, true, true, true, true, true, true, true, true, true, true, true, true, false, false, false, false] rfl rfl (any_of HT_.out (by kernel_rfl)) (fun _ _ _ h => h) (Or.inl ⟨by rfl, ?_⟩) ?_ ?_
             rotate_left
             ·intro w'
              go_simp
              with_reducible rfl
             rotate_left
             ·simp only [Act.put, List.setIfInBounds_toArray, List.set_cons_zero, List.set_cons_succ, i64_w, i32_w]
              rfl
             refine pure_ (i := 16) (N := some 50) (v := ?_) (a' := ?_) #[true, true, true, true, true, true, true, true, true, true, true, true, true, true, true, true, true, false, false, false] rfl rfl (any_of HT_.out (by kernel_rfl)) (fun _ _ _ h => h) (Or.inl ⟨by rfl, ?_⟩) ?_ ?_
             rotate_left
             ·intro w'
              go_simp
              with_reducible rfl
             rotate_left
             ·simp only [Act.put, List.setIfInBounds_toArray, List.set_cons_zero, List.set_cons_succ, i64_w, i32_w]
              rfl
             refine pure_ (i := 17) (N := some 51) (v := ?_) (a' := ?_) #[true, true, true, true, true, true, true, true, true, true, true, true, true, true, true, true, true, true, false, false] rfl rfl (any_of HT_.out (by kernel_rfl)) (fun _ _ _ h => h) (Or.inl ⟨by rfl, ?_⟩) ?_ ?_
             rotate_left
             ·intro w'
              go_simp
              with_reducible rfl
             rotate_left
             ·simp only [Act.put, List.setIfInBounds_toArray, List.set_cons_zero, List.set_cons_succ, i64_w, i32_w]
              rfl
             refine pure_ (i := 18) (N := some 52) (v := ?_) (a' := ?_) #[true, true, true, true, true, true, true, true, true, true, true, true, true, true, true, true, true, true, true, false] rfl rfl (any_of HT_.out (by kernel_rfl)) (fun _ _ _ h => h) (Or.inl ⟨by rfl, ?_⟩) ?_ ?_
             rotate_left
             ·intro w'
              go_simp
              with_reducible rfl
             rotate_left
             ·simp only [Act.put, List.setIfInBounds_toArray, List.set_cons_zero, List.set_cons_succ, i64_w, i32_w]
              rfl
             refine last_ (i := 19) (N := none) #[true, true, true, true, true, true, true, true, true, true, true, true, true, true, true, true, true, true, true, true] rfl rfl (one_of HT_.out (by kernel_rfl)) (by decide) (fun K hK => ?_)
             refine skip_ (w1 := ?_) (by rfl) rfl ?_ ?_
             rotate_left
             ·go_simp
              rfl
             refine hK.out _ _ ?_
             clear hK K
             refine done_ (done_of HT_.out (by kernel_rfl)) ?_
             have n0_ : Aside0 (Kd.R (Kd.int .u8) 5 (w36.setCell ⟨go29, ((ji21) : Int).toNat, none⟩ (.int .u8 (Go.bits .or .u8 (rd y115 (ji21)) (ji28)))) w.heap.size (fun _ => True) (.slice (some ⟨go29, 0, none⟩) y115.length co33) y119) := ⟨by (with_reducible repeat (first | apply Kd.R_alloc | apply Kd.R_drewN | apply Kd.R_drew)); exact HQ37.out⟩
             have n1_ : Aside0 ((w36.setCell ⟨go29, ((ji21) : Int).toNat, none⟩ (.int .u8 (Go.bits .or .u8 (rd y115 (ji21)) (ji28)))).heap[gb110]? = some (.cells #[.slice (some ⟨go29, 0, none⟩) y115.length co33, .int .i64 x111001_2] 33 (0, 0))) := ⟨by (with_reducible repeat (first | refine blk_drewN ?_ _ | refine blk_drew ?_ | refine blk_alloc ?_ _)); refine blk_far ?_ (by have h_ := Kd.R_ne HO117.out BK110.out (by decide); intro e_; exact h_ (by rw [e_]; rfl)) _; (with_reducible repeat (first | refine blk_drewN ?_ _ | refine blk_drew ?_ | refine blk_alloc ?_ _)); exact BK110.out⟩
             have n2_ : Aside0 ((w36.setCell ⟨go29, ((ji21) : Int).toNat, none⟩ (.int .u8 (Go.bits .or .u8 (rd y115 (ji21)) (ji28)))).heap[gb111]? = some (.cells #[.slice none 0 0, .int .i64 0] 33 (0, 0))) := ⟨by (with_reducible repeat (first | refine blk_drewN ?_ _ | refine blk_drew ?_ | refine blk_alloc ?_ _)); refine blk_far ?_ (by have h_ := Kd.R_ne HO117.out BK111.out (by decide); intro e_; exact h_ (by rw [e_]; rfl)) _; (with_reducible repeat (first | refine blk_drewN ?_ _ | refine blk_drew ?_ | refine blk_alloc ?_ _)); exact BK111.out⟩
             have n3_ : Aside0 (Below w.heap.size w (w36.setCell ⟨go29, ((ji21) : Int).toNat, none⟩ (.int .u8 (Go.bits .or .u8 (rd y115 (ji21)) (ji28))))) := ⟨by repeat (first | (with_reducible first | exact HB.out | apply below_alloc | apply pw_below_drewN | apply below_drew1 | refine below_set ?_ GB29.out | refine below_set ?_ GE110.out | refine below_set ?_ GE111.out) | exact HB.out)⟩
             (try clear HO117)
             (try clear BK110)
             (try clear BK111)
             (try clear HB)
             generalize (w36.setCell ⟨go29, ((ji21) : Int).toNat, none⟩ (.int .u8 (Go.bits .or .u8 (rd y115 (ji21)) (ji28)))) = w38 at n0_ n1_ n2_ n3_ ⊢
             have HO117 := n0_
             have BK110 := n1_
             have BK111 := n2_
             have HB := n3_
             clear n0_ n1_ n2_ n3_
             have hcz39_0 : w38.cell? ⟨gb110, 0, none⟩ = some (.slice (some ⟨go29, 0, none⟩) y115.length co33) := (blk_cell BK110.out 0).trans rfl
             have hcz39_1 : w38.cell? ⟨gb110, 1, none⟩ = some (.int .i64 x111001_2) := (blk_cell BK110.out 1).trans rfl
             have hfz39_0 := blk_frozen BK110.out 0
             have hfz39_1 := blk_frozen BK110.out 1
             try go_wp2
             go_roundg k2
             case measure => have := HJ4.out; have := HK2.out; omega
             case rel => exact ⟨(wrap64 (x7_2 - 1)), (y119), (wrap64 (x111001_2 + 1)), (.slice (some ⟨go29, 0, none⟩) y115.length co33), (by first | rfl | (simp; done) | (simp [*]; done)), H', ⟨by have := HJ4.out; have := HK2.out; omega⟩, ⟨by (with_reducible repeat (first | apply Kd.R_alloc | apply Kd.R_drewN | apply Kd.R_drew)); exact Kd.R_mono (Kd.R_far (p := ⟨gb110, 1, none⟩) (Kd.R_types HO117.out BK110.out (by decide)) (fun _ hk => hk.2) (.int .i64 (wrap64 (x111001_2 + 1)))) (fun _ hk => trivial)⟩, ⟨by (with_reducible repeat (first | refine blk_drewN ?_ _ | refine blk_drew ?_ | refine blk_alloc ?_ _)); refine blk_put (cs := #[.slice (some ⟨go29, 0, none⟩) y115.length co33, .int .i64 x111001_2]) ?_ 1 _ rfl; (with_reducible repeat (first | refine blk_drewN ?_ _ | refine blk_drew ?_ | refine blk_alloc ?_ _)); exact BK110.out⟩, ⟨by (with_reducible repeat (first | refine blk_drewN ?_ _ | refine blk_drew ?_ | refine blk_alloc ?_ _)); refine blk_far ?_ NB111_110.out _; (with_reducible repeat (first | refine blk_drewN ?_ _ | refine blk_drew ?_ | refine blk_alloc ?_ _)); exact BK111.out⟩, ⟨by repeat (first | (with_reducible first | exact HB.out | apply below_alloc | apply pw_below_drewN | apply below_drew1 | refine below_set ?_ GE110.out | refine below_set ?_ GE111.out) | exact HB.out)⟩⟩
            ·rw [if_neg c27] at H
             exact absurd H (by simp)
           ·rw [if_neg c24] at H
            exact absurd H (by simp)
          ·rw [if_neg c23] at H
           exact absurd H (by simp)
         ·rw [if_neg c22] at H
          exact absurd H (by simp)
        ·rw [if_neg c20] at H
         exact absurd H (by simp)
       ·rw [if_neg c19] at H
        have c19b0 : ((Int.tmod x111001_2 8) == 0) = false := beq_eq_false_iff_ne.mpr c19
        have c19b1 : ((Int.tmod x111001_2 8) != 0) = true := bne_iff_ne.mpr c19
        obtain ⟨ji40, hji40⟩ : ∃ j_ : Int, (wrap64 (Int.tdiv x111001_2 8)) = j_ := ⟨_, rfl⟩
        replace H : (if 0 ≤ (ji40) then (if (ji40) < (x111000_2.length : Int) then (if 0 ≤ x7_2 then (if 0 ≤ (wrap64 (7 - (Int.tmod x111001_2 8))) then (bits_Put.l0 k2 a1 (wrap64 (x7_2 - 1)) (x111000_2.set ((ji40) : Int).toNat (Go.bits .or .u8 (rd x111000_2 (ji40)) (shl .u8 ((Go.bits .and .u64 (shr .u64 a1 x7_2) 1) % 256) (wrap64 (7 - (Int.tmod x111001_2 8)))))) (wrap64 (x111001_2 + 1))) else (none)) else (none)) else (none)) else (none)) = some (r1, r2) := by first | (rw [hji40] at H; exact H) | (simp only [hji40] at H ⊢; exact H)
        have hji40w : (IntKind.i64.wrap (Int.tdiv x111001_2 8)) = ji40 := (i64_w _).trans hji40
        by_cases c41 : 0 ≤ (ji40)
        ·rw [if_pos c41] at H
         have c41b0 : decide (0 ≤ (ji40)) = true := decide_eq_true c41
         clear c41
         by_cases c42 : (ji40) < (x111000_2.length : Int)
         ·rw [if_pos c42] at H
          have c42b0 : decide ((ji40) < (x111000_2.length : Int)) = true := decide_eq_true c42
          clear c42
          by_cases c43 : 0 ≤ x7_2
          ·rw [if_pos c43] at H
           have c43b0 := eq_true c43
           have c43b1 : decide (0 ≤ x7_2) = true := decide_eq_true c43
           clear c43
           obtain ⟨ji44, hji44⟩ : ∃ j_ : Int, (shr .u64 a1 x7_2) = j_ := ⟨_, rfl⟩
           replace H : (if 0 ≤ (wrap64 (7 - (Int.tmod x111001_2 8))) then (bits_Put.l0 k2 a1 (wrap64 (x7_2 - 1)) (x111000_2.set ((ji40) : Int).toNat (Go.bits .or .u8 (rd x111000_2 (ji40)) (shl .u8 ((Go.bits .and .u64 (ji44) 1) % 256) (wrap64 (7 - (Int.tmod x111001_2 8)))))) (wrap64 (x111001_2 + 1))) else (none)) = some (r1, r2) := by first | (rw [hji44] at H; exact H) | (simp only [hji44] at H ⊢; exact H)
           have hji44_ : (a1 / 2 ^ min x7_2.toNat 64) = ji44 := hji44
           have hji44z : x7_2 ≤ 64 → (a1 / 2 ^ x7_2.toNat) = ji44 := shr_small hji44
           obtain ⟨ji45, hji45⟩ : ∃ j_ : Int, (wrap64 (7 - (Int.tmod x111001_2 8))) = j_ := ⟨_, rfl⟩
           replace H : (if 0 ≤ (ji45) then (bits_Put.l0 k2 a1 (wrap64 (x7_2 - 1)) (x111000_2.set ((ji40) : Int).toNat (Go.bits .or .u8 (rd x111000_2 (ji40)) (shl .u8 ((Go.bits .and .u64 (ji44) 1) % 256) (ji45)))) (wrap64 (x111001_2 + 1))) else (none)) = some (r1, r2) := by first | (rw [hji45] at H; exact H) | (simp only [hji45] at H ⊢; exact H)
           have hji45w : (IntKind.i64.wrap (7 - (Int.tmod x111001_2 8))) = ji45 := (i64_w _).trans hji45
           by_cases c46 : 0 ≤ (ji45)
           ·rw [if_pos c46] at H
            have c46b0 := eq_true c46
            have c46b1 : decide (0 ≤ (ji45)) = true := decide_eq_true c46
            clear c46
            obtain ⟨ji47, hji47⟩ : ∃ j_ : Int, (shl .u8 ((Go.bits .and .u64 (ji44) 1) % 256) (ji45)) = j_ := ⟨_, rfl⟩
            replace H : (bits_Put.l0 k2 a1 (wrap64 (x7_2 - 1)) (x111000_2.set ((ji40) : Int).toNat (Go.bits .or .u8 (rd x111000_2 (ji40)) (ji47))) (wrap64 (x111001_2 + 1))) = some (r1, r2) := by first | (rw [hji47] at H; exact H) | (simp only [hji47] at H ⊢; exact H)
            have hji47_ : (IntKind.u8.wrap (((Go.bits .and .u64 (ji44) 1) % 256) * 2 ^ min (ji45).toNat 8)) = ji47 := hji47
            have hji47z : (ji45) ≤ 8 → (IntKind.u8.wrap (((Go.bits .and .u64 (ji44) 1) % 256) * 2 ^ (ji45).toNat)) = ji47 := shl_small hji47
            have hji47m : (((Go.bits .and .u64 (ji44) 1) % 256) * 2 ^ min (ji45).toNat 8) % 256 = ji47 := (IntKind.wrap_u8 _).symm.trans hji47_
            have hji47n : (ji45) ≤ 8 → (((Go.bits .and .u64 (ji44) 1) % 256) * 2 ^ (ji45).toNat) % 256 = ji47 := fun h_ => (IntKind.wrap_u8 _).symm.trans (hji47z h_)
            have hji47k : IntKind.u8.wrap (IntKind.u8.wrap (Go.bits .and .u64 (ji44) 1) * 2 ^ min (ji45).toNat 8) = ji47 := by rw [IntKind.wrap_u8, IntKind.wrap_u8]; exact hji47m
            have hji47l : (ji45) ≤ 8 → IntKind.u8.wrap (IntKind.u8.wrap (Go.bits .and .u64 (ji44) 1) * 2 ^ (ji45).toNat) = ji47 := fun h_ => by rw [IntKind.wrap_u8, IntKind.wrap_u8]; exact hji47n h_
            obtain ⟨y121, hy121⟩ : ∃ y_ : List Int, y_ = (x111000_2.set ((ji40) : Int).toNat (Go.bits .or .u8 (rd x111000_2 (ji40)) (ji47))) := ⟨_, rfl⟩
            replace H : (bits_Put.l0 k2 a1 (wrap64 (x7_2 - 1)) y121 (wrap64 (x111001_2 + 1))) = some (r1, r2) := by first | (rw [hy121]; with_reducible exact H) | (have H2_ := (Option.bind_some _ _).symm.trans H; rw [hy121]; with_reducible exact H2_) | (have H2_ := (Option.bind_some _ _).symm.trans H; with_reducible exact H2_) | with_reducible exact H | (rw [hy121]; exact H) | exact H
            have Ny121 := Aside0.mk hy121
            clear hy121
            have H' := Aside0.mk H
            clear H
            have hnb49 := NB110_111.out
            have hnc49 := NB111_110.out
            have hcz50_0 : wr.cell? ⟨gb110, 0, none⟩ = some (u111000) := (blk_cell BK110.out 0).trans rfl
            have hcz50_1 : wr.cell? ⟨gb110, 1, none⟩ = some (.int .i64 x111001_2) := (blk_cell BK110.out 1).trans rfl
            have hfz50_0 := blk_frozen BK110.out 0
            have hfz50_1 := blk_frozen BK110.out 1
            try go_wp2
            have n0_ := Aside0.mk (Kd.R_drew HO_111000.out)
            have n1_ := Aside0.mk (blk_drew BK110.out)
            have n2_ := Aside0.mk (blk_drew BK111.out)
            have n3_ := Aside0.mk (below_drew1 HB.out)
            clear HO_111000
            clear BK110
            clear BK111
            clear HB
            have HO_111000 := n0_
            have BK110 := n1_
            have BK111 := n2_
            have HB := n3_
            clear n0_ n1_ n2_ n3_
            obtain ⟨Ao52, co52, eo52⟩ := Kd.R_slice HO_111000.out
            (first | subst eo52 | (injection eo52 with f1_ f2_ f3_; have f4_ := f1_.symm; have f5_ := f3_.symm; clear f1_ f2_ f3_; subst f4_; subst f5_))
            have p120 : 0 ≤ ((ji40) : Int) := of_decide_eq_true (by first | (with_reducible assumption) | assumption)
            have q120 : (ji40) < (x111000_2.length : Int) := of_decide_eq_true (by first | (with_reducible assumption) | assumption)
            obtain ⟨ad120, e120, hx120_0⟩ := Kd.at_int (Kd.R_reads' HO_111000.out).2.2 (ji40) p120 q120
            cases e120
            replace p120 := eq_true p120
            (try (have q120s := q120; simp only [List.length_drop, List.length_take] at q120s; replace q120s := eq_true q120s)); replace q120 := eq_true q120
            have p48 : 0 ≤ ((ji40) : Int) := of_decide_eq_true (by first | (with_reducible assumption) | assumption)
            have q48 : ((ji40) : Int) < ((x111000_2.length : Int) : Int) := of_decide_eq_true (by first | (with_reducible assumption) | assumption)
            obtain ⟨go48, co48, eo48, gb48, gl48, cl48, HG48⟩ := Kd.R_form HO_111000.out (by omega)
            (first | cases eo48 | (injection eo48 with ea_ en_ ec_; (first | subst ea_ | (injection ea_ with ea_; subst ea_)); subst ec_; clear en_))
            have GB48 := Aside0.mk gb48
            have GG48 := Aside0.mk HG48
            clear gb48 gl48 HG48
            (first | simp only [add_plain] at hx120_0 | skip)
            obtain ⟨hx48_0, hf48_0⟩ := Kd.R_celln 0 HO_111000.out ((ji40) : Int) p48 q48
            replace p48 := eq_true p48
            (try (have q48s := q48; simp only [List.length_drop, List.length_take] at q48s; replace q48s := eq_true q48s)); replace q48 := eq_true q48
            have HP53 := Kd.R_putn HO_111000.out ((ji40) : Int) (Go.bits .or .u8 (rd x111000_2 (ji40)) (ji47))
            rw [← Ny121.out] at HP53
            have HQ53 := Aside0.mk HP53
            clear HP53
            refine start_ (n := 20) (S := fun w' => w'.cell? ⟨gb110, 0, none⟩ = some (.slice (some ⟨go48, 0, none⟩) x111000_2.length co52) ∧ w'.cell? ⟨gb110, 1, none⟩ = some (.int .i64 x111001_2) ∧ w'.cell? ⟨go48, ((ji40)).toNat, none⟩ = some (.int .u8 (rd x111000_2 (ji40)))) (ds := [19]) #[false, false, false, false, false, false, false, false, false, false, false, false, false, false, false, false, false, false, false, false] (by kernel_rfl) rfl rfl ⟨(blk_cell BK110.out 0).trans rfl, (blk_cell BK110.out 1).trans rfl, hx120_0⟩ (fun hHeld => ?_); refine with_tabW bits_Put.tab9 bits_Put.bits9 (fun HT_ HW_ => ?_)
            generalize wr.drew = w51 at HO_111000 BK110 BK111 HB GG48 HQ53 hf48_0 hx120_0 hx48_0 hHeld ⊢
            refine pure_ (i := 0) (N := some 34) (v := ?_) (a' := ?_) #[true, false, false, false, false, false, false, false, false, false, false, false, false, false, false, false, false, false, false, false] rfl rfl (any_of HT_.out (by kernel_rfl)) (fun _ _ _ h => h) (Or.inl ⟨by rfl, ?_⟩) ?_ ?_
            rotate_left
            ·intro w'
             go_simp
             with_reducible rfl
            rotate_left
            ·simp only [Act.put, List.setIfInBounds_toArray, List.set_cons_zero, List.set_cons_succ, i64_w, i32_w]
             rfl
            refine pure_ (i := 2) (N := some 36) (v := ?_) (a' := ?_) #[true, false, true, false, false, false, false, false, false, false, false, false, false, false, false, false, false, false, false, false] rfl rfl (any_of HT_.out (by kernel_rfl)) (fun _ _ _ h => h) (Or.inl ⟨by rfl, ?_⟩) ?_ ?_
            rotate_left
            ·intro w'
             go_simp
             with_reducible rfl
            rotate_left
            ·simp only [Act.put, List.setIfInBounds_toArray, List.set_cons_zero, List.set_cons_succ, i64_w, i32_w]
             rfl
            refine pure_ (i := 7) (N := some 41) (v := ?_) (a' := ?_) #[true, false, true, false, false, false, false, true, false, false, false, false, false, false, false, false, false, false, false, false] rfl rfl (any_of HT_.out (by kernel_rfl)) (fun _ _ _ h => h) (Or.inl ⟨by rfl, ?_⟩) ?_ ?_
            rotate_left
            ·intro w'
             go_simp
             with_reducible rfl
            rotate_left
            ·simp only [Act.put, List.setIfInBounds_toArray, List.set_cons_zero, List.set_cons_succ, i64_w, i32_w]
             rfl
            refine pure_ (i := 8) (N := some 42) (v := ?_) (a' := ?_) #[true, false, true, false, false, false, false, true, true, false, false, false, false, false, false, false, false, false, false, false] rfl rfl (any_of HT_.out (by kernel_rfl)) (fun _ _ _ h => h) (Or.inl ⟨by rfl, ?_⟩) ?_ ?_
            rotate_left
            ·intro w'
             go_simp
             with_reducible rfl
            rotate_left
            ·simp only [Act.put, List.setIfInBounds_toArray, List.set_cons_zero, List.set_cons_succ, i64_w, i32_w]
             rfl
            refine pure_ (i := 9) (N := some 43) (v := ?_) (a' := ?_) #[true, false, true, false, false, false, false, true, true, true, false, false, false, false, false, false, false, false, false, false] rfl rfl (any_of HT_.out (by kernel_rfl)) (fun _ _ _ h => h) (Or.inl ⟨by rfl, ?_⟩) ?_ ?_
            rotate_left
            ·intro w'
             go_simp
             with_reducible rfl
            rotate_left
            ·simp only [Act.put, List.setIfInBounds_toArray, List.set_cons_zero, List.set_cons_succ, i64_w, i32_w]
             rfl
            refine pure_ (i := 10) (N := some 44) (v := ?_) (a' := ?_) #[true, false, true, false, false, false, false, true, true, true, true, false, false, false, false, false, false, false, false, false] rfl rfl (any_of HT_.out (by kernel_rfl)) (fun _ _ _ h => h) (Or.inl ⟨by rfl, ?_⟩) ?_ ?_
            rotate_left
            ·intro w'
             go_simp
             with_reducible rfl
            rotate_left
            ·simp only [Act.put, List.setIfInBounds_toArray, List.set_cons_zero, List.set_cons_succ, i64_w, i32_w]
             rfl
            refine pure_ (i := 11) (N := some 45) (v := ?_) (a' := ?_) #[true, false, true, false, false, false, false, true, true, true, true, true, false, false, false, false, false, false, false, false] rfl rfl (any_of HT_.out (by kernel_rfl)) (fun _ _ _ h => h) (Or.inl ⟨by rfl, ?_⟩) ?_ ?_
            rotate_left
            ·intro w'
             go_simp
             with_reducible rfl
            rotate_left
            ·simp only [Act.put, List.setIfInBounds_toArray, List.set_cons_zero, List.set_cons_succ, i64_w, i32_w]
             rfl
            refine pure_ (i := 12) (N := some 46) (v := ?_) (a' := ?_) #[true, false, true, false, false, false, false, true, true, true, true, true, true, false, false, false, false, false, false, false] rfl rfl (any_of HT_.out (by kernel_rfl)) (fun _ _ _ h => h) (Or.inl ⟨by rfl, ?_⟩) ?_ ?_
            rotate_left
            ·intro w'
             go_simp
             with_reducible rfl
            rotate_left
            ·simp only [Act.put, List.setIfInBounds_toArray, List.set_cons_zero, List.set_cons_succ, i64_w, i32_w]
             rfl
            refine take_ (i := 1) (N := some 35) (v := ?_) (a' := ?_) #[true, true, true, false, false, false, false, true, true, true, true, true, true, false, false, false, false, false, false, false] rfl rfl (take_ofW HT_.out HW_.out (by kernel_rfl)) (fun _ _ _ h => h) (Or.inl ⟨by rfl, ?_⟩) hHeld ?_ ?_
            rotate_left
            ·rintro w' ⟨s0, s1, s2⟩
             go_simp
             with_reducible rfl
            rotate_left
            ·simp only [Act.put, List.setIfInBounds_toArray, List.set_cons_zero, List.set_cons_succ, i64_w, i32_w]
             rfl
            refine take_ (i := 3) (N := some 37) (v := ?_) (a' := ?_) #[true, true, true, true, false, false, false, true, true, true, true, true, true, false, false, false, false, false, false, false] rfl rfl (take_ofW HT_.out HW_.out (by kernel_rfl)) (fun _ _ _ h => h) (Or.inl ⟨by rfl, ?_⟩) hHeld ?_ ?_
            rotate_left
            ·rintro w' ⟨s0, s1, s2⟩
             go_simp
             with_reducible rfl
            rotate_left
            ·simp only [Act.put, List.setIfInBounds_toArray, List.set_cons_zero, List.set_cons_succ, i64_w, i32_w]
             rfl
            refine pure_ (i := 4) (N := some 38) (v := ?_) (a' := ?_) #[true, true, true, true, true, false, false, true, true, true, true, true, true, false, false, false, false, false, false, false] rfl rfl (any_of HT_.out (by kernel_rfl)) (fun _ _ _ h => h) (Or.inl ⟨by rfl, ?_⟩) ?_ ?_
            rotate_left
            ·intro w'
             go_simp
             with_reducible rfl
            rotate_left
            ·simp only [Act.put, List.setIfInBounds_toArray, List.set_cons_zero, List.set_cons_succ, i64_w, i32_w]
             rfl
            refine pure_ (i := 5) (N := some 39) (v := ?_) (a' := ?_) #[true, true, true, true, true, true, false, true, true, true, true, true, true, false, false, false, false, false, false, false] rfl rfl (any_of HT_.out (by kernel_rfl)) (fun _ _ _ h => h) (Or.inl ⟨by rfl, ?_⟩) ?_ ?_
            rotate_left
            ·intro w'
             go_simp
             with_reducible rfl
            rotate_left
            ·simp only [Act.put, List.setIfInBounds_toArray, List.set_cons_zero, List.set_cons_succ, i64_w, i32_w]
             rfl
            refine take_ (i := 6) (N := some 40) (v := ?_) (a' := ?_) #[true, true, true, true, true, true, true, true, true, true, true, true, true, false, false, false, false, false, false, false] rfl rfl (take_ofW HT_.out HW_.out (by kernel_rfl)) (fun _ _ _ h => h) (Or.inl ⟨by rfl, ?_⟩) hHeld ?_ ?_
            rotate_left
            ·rintro w' ⟨s0, s1, s2⟩
             go_simp
             with_reducible rfl
            rotate_left
            ·simp only [Act.put, List.setIfInBounds_toArray, List.set_cons_zero, List.set_cons_succ, i64_w, i32_w]
             rfl
            refine take_ (i := 13) (N := some 47) (v := ?_) (a' := ?_) #[true, true, true, true, true, true, true, true, true, true, true, true, true, true, false, false, false, false, false, false] rfl rfl (take_ofW HT_.out HW_.out (by kernel_rfl)) (fun _ _ _ h => h) (Or.inl ⟨by rfl, ?_⟩) hHeld ?_ ?_
            rotate_left
            ·rintro w' ⟨s0, s1, s2⟩
             go_simp
             with_reducible rfl
            rotate_left
            ·simp only [Act.put, List.setIfInBounds_toArray, List.set_cons_zero, List.set_cons_succ, i64_w, i32_w]
             rfl
            refine pure_ (i := 14) (N := some 48) (v := ?_) (a' := ?_) #[true, true, true, true, true, true, true, true, true, true, true, true, true, true, true, false, false, false, false, false] rfl rfl (any_of HT_.out (by kernel_rfl)) (fun _ _ _ h => h) (Or.inl ⟨by rfl, ?_⟩) ?_ ?_
            rotate_left
            ·intro w'
             go_simp
             with_reducible rfl
            rotate_left
            ·simp only [Act.put, List.setIfInBounds_toArray, List.set_cons_zero, List.set_cons_succ, i64_w, i32_w]
             rfl
            refine pure_ (i := 15) (N := some 49) (v := ?_) (a' := ?_) #[true, true, true, true, true, true, true, true, true, true, true, true, true, true, true, true, false, false, false, false] rfl rfl (any_of HT_.out (by kernel_rfl)) (fun _ _ _ h => h) (Or.inl ⟨by rfl, ?_⟩) ?_ ?_
            rotate_left
            ·intro w'
             go_simp
             with_reducible rfl
            rotate_left
            ·simp only [Act.put, List.setIfInBounds_toArray, List.set_cons_zero, List.set_cons_succ, i64_w, i32_w]
             rfl
            refine pure_ (i := 16) (N := some 50) (v := ?_) (a' := ?_) #[true, true, true, true, true, true, true, true, true, true, true, true, true, true, true, true, true, false, false, false] rfl rfl (any_of HT_.out (by kernel_rfl)) (fun _ _ _ h => h) (Or.inl ⟨by rfl, ?_⟩) ?_ ?_
            rotate_left
            ·intro w'
             go_simp
             with_reducible rfl
            rotate_left
            ·simp only [Act.put, List.setIfInBounds_toArray, List.set_cons_zero, List.set_cons_succ, i64_w, i32_w]
             rfl
            refine pure_ (i := 17) (N := some 51) (v := ?_) (a' := ?_) #[true, true, true, true, true, true, true, true, true, true, true, true, true, true, true, true, true, true, false, false] rfl rfl (any_of HT_.out (by kernel_rfl)) (fun _ _ _ h => h) (Or.inl ⟨by rfl, ?_⟩) ?_ ?_
            rotate_left
            ·intro w'
             go_simp
             with_reducible rfl
            rotate_left
            ·simp only [Act.put, List.setIfInBounds_toArray, List.set_cons_zero, List.set_cons_succ, i64_w, i32_w]
             rfl
            refine pure_ (i := 18) (N := some 52) (v := ?_) (a' := ?_) #[true, true, true, true, true, true, true, true, true, true, true, true, true, true, true, true, true, true, true, false] rfl rfl (any_of HT_.out (by kernel_rfl)) (fun _ _ _ h => h) (Or.inl ⟨by rfl, ?_⟩) ?_ ?_
            rotate_left
            ·intro w'
             go_simp
             with_reducible rfl
            rotate_left
            ·simp only [Act.put, List.setIfInBounds_toArray, List.set_cons_zero, List.set_cons_succ, i64_w, i32_w]
             rfl
            refine last_ (i := 19) (N := none) #[true, true, true, true, true, true, true, true, true, true, true, true, true, true, true, true, true, true, true, true] rfl rfl (one_of HT_.out (by kernel_rfl)) (by decide) (fun K hK => ?_)
            refine skip_ (w1 := ?_) (by rfl) rfl ?_ ?_
            rotate_left
            ·go_simp
             rfl
            refine hK.out _ _ ?_
            clear hK K
            refine done_ (done_of HT_.out (by kernel_rfl)) ?_
            have n0_ : Aside0 (Kd.R (Kd.int .u8) 5 (w51.setCell ⟨go48, ((ji40) : Int).toNat, none⟩ (.int .u8 (Go.bits .or .u8 (rd x111000_2 (ji40)) (ji47)))) w.heap.size (fun _ => True) (.slice (some ⟨go48, 0, none⟩) x111000_2.length co52) y121) := ⟨by (with_reducible repeat (first | apply Kd.R_alloc | apply Kd.R_drewN | apply Kd.R_drew)); exact HQ53.out⟩
            have n1_ : Aside0 ((w51.setCell ⟨go48, ((ji40) : Int).toNat, none⟩ (.int .u8 (Go.bits .or .u8 (rd x111000_2 (ji40)) (ji47)))).heap[gb110]? = some (.cells #[.slice (some ⟨go48, 0, none⟩) x111000_2.length co52, .int .i64 x111001_2] 33 (0, 0))) := ⟨by (with_reducible repeat (first | refine blk_drewN ?_ _ | refine blk_drew ?_ | refine blk_alloc ?_ _)); refine blk_far ?_ (by have h_ := Kd.R_ne HO_111000.out BK110.out (by decide); intro e_; exact h_ (by rw [e_]; rfl)) _; (with_reducible repeat (first | refine blk_drewN ?_ _ | refine blk_drew ?_ | refine blk_alloc ?_ _)); exact BK110.out⟩
            have n2_ : Aside0 ((w51.setCell ⟨go48, ((ji40) : Int).toNat, none⟩ (.int .u8 (Go.bits .or .u8 (rd x111000_2 (ji40)) (ji47)))).heap[gb111]? = some (.cells #[.slice none 0 0, .int .i64 0] 33 (0, 0))) := ⟨by (with_reducible repeat (first | refine blk_drewN ?_ _ | refine blk_drew ?_ | refine blk_alloc ?_ _)); refine blk_far ?_ (by have h_ := Kd.R_ne HO_111000.out BK111.out (by decide); intro e_; exact h_ (by rw [e_]; rfl)) _; (with_reducible repeat (first | refine blk_drewN ?_ _ | refine blk_drew ?_ | refine blk_alloc ?_ _)); exact BK111.out⟩
            have n3_ : Aside0 (Below w.heap.size w (w51.setCell ⟨go48, ((ji40) : Int).toNat, none⟩ (.int .u8 (Go.bits .or .u8 (rd x111000_2 (ji40)) (ji47))))) := ⟨by repeat (first | (with_reducible first | exact HB.out | apply below_alloc | apply pw_below_drewN | apply below_drew1 | refine below_set ?_ GB48.out | refine below_set ?_ GE110.out | refine below_set ?_ GE111.out) | exact HB.out)⟩
            (try clear HO_111000)
            (try clear BK110)
            (try clear BK111)
            (try clear HB)
            generalize (w51.setCell ⟨go48, ((ji40) : Int).toNat, none⟩ (.int .u8 (Go.bits .or .u8 (rd x111000_2 (ji40)) (ji47)))) = w54 at n0_ n1_ n2_ n3_ ⊢
            have HO_111000 := n0_
            have BK110 := n1_
            have BK111 := n2_
            have HB := n3_
            clear n0_ n1_ n2_ n3_
            have hcz55_0 : w54.cell? ⟨gb110, 0, none⟩ = some (.slice (some ⟨go48, 0, none⟩) x111000_2.length co52) := (blk_cell BK110.out 0).trans rfl
            have hcz55_1 : w54.cell? ⟨gb110, 1, none⟩ = some (.int .i64 x111001_2) := (blk_cell BK110.out 1).trans rfl
            have hfz55_0 := blk_frozen BK110.out 0
            have hfz55_1 := blk_frozen BK110.out 1
            try go_wp2
            go_roundg k2
            case measure => have := HJ4.out; have := HK2.out; omega
            case rel => exact ⟨(wrap64 (x7_2 - 1)), (y121), (wrap64 (x111001_2 + 1)), (.slice (some ⟨go48, 0, none⟩) x111000_2.length co52), (by first | rfl | (simp; done) | (simp [*]; done)), H', ⟨by have := HJ4.out; have := HK2.out; omega⟩, ⟨by (with_reducible repeat (first | apply Kd.R_alloc | apply Kd.R_drewN | apply Kd.R_drew)); exact Kd.R_mono (Kd.R_far (p := ⟨gb110, 1, none⟩) (Kd.R_types HO_111000.out BK110.out (by decide)) (fun _ hk => hk.2) (.int .i64 (wrap64 (x111001_2 + 1)))) (fun _ hk => trivial)⟩, ⟨by (with_reducible repeat (first | refine blk_drewN ?_ _ | refine blk_drew ?_ | refine blk_alloc ?_ _)); refine blk_put (cs := #[.slice (some ⟨go48, 0, none⟩) x111000_2.length co52, .int .i64 x111001_2]) ?_ 1 _ rfl; (with_reducible repeat (first | refine blk_drewN ?_ _ | refine blk_drew ?_ | refine blk_alloc ?_ _)); exact BK110.out⟩, ⟨by (with_reducible repeat (first | refine blk_drewN ?_ _ | refine blk_drew ?_ | refine blk_alloc ?_ _)); refine blk_far ?_ NB111_110.out _; (with_reducible repeat (first | refine blk_drewN ?_ _ | refine blk_drew ?_ | refine blk_alloc ?_ _)); exact BK111.out⟩, ⟨by repeat (first | (with_reducible first | exact HB.out | apply below_alloc | apply pw_below_drewN | apply below_drew1 | refine below_set ?_ GE110.out | refine below_set ?_ GE111.out) | exact HB.out)⟩⟩
           ·rw [if_neg c46] at H
            exact absurd H (by simp)
          ·rw [if_neg c43] at H
           exact absurd H (by simp)
         ·rw [if_neg c42] at H
          exact absurd H (by simp)
        ·rw [if_neg c41] at H
         exact absurd H (by simp)
      ·rw [if_neg c18] at H
       have c18b0 : decide (0 ≤ x7_2) = false := decide_eq_false c18
       clear c18
       simp only [Option.some.injEq, Prod.mk.injEq] at H
       obtain ⟨rfl, rfl⟩ := H
       have hnb56 := NB110_111.out
       have hnc56 := NB111_110.out
       have hcz57_0 : wr.cell? ⟨gb110, 0, none⟩ = some (u111000) := (blk_cell BK110.out 0).trans rfl
       have hcz57_1 : wr.cell? ⟨gb110, 1, none⟩ = some (.int .i64 x111001_2) := (blk_cell BK110.out 1).trans rfl
       have hfz57_0 := blk_frozen BK110.out 0
       have hfz57_1 := blk_frozen BK110.out 1
       obtain ⟨Ao58, co58, eo58⟩ := Kd.R_slice HO_111000.out
       subst eo58
       have hcz59_0 : wr.cell? ⟨gb111, 0, none⟩ = some (.slice none 0 0) := (blk_cell BK111.out 0).trans rfl
       have hcz59_1 : wr.cell? ⟨gb111, 1, none⟩ = some (.int .i64 0) := (blk_cell BK111.out 1).trans rfl
       have hfz59_0 := blk_frozen BK111.out 0
       have hfz59_1 := blk_frozen BK111.out 1
       go_wp2
       refine bodyPost_ret (results_cell_row rfl _ _ gb111 33 #[.slice Ao58 x111000_2.length co58, .int .i64 x111001_2] (0, 0) _ rfl (by (with_reducible repeat (first | refine blk_drewN ?_ _ | refine blk_drew ?_ | refine blk_alloc ?_ _)); refine blk_put (cs := #[.slice Ao58 x111000_2.length co58, .int .i64 0]) ?_ 1 _ rfl; (with_reducible repeat (first | refine blk_drewN ?_ _ | refine blk_drew ?_ | refine blk_alloc ?_ _)); refine blk_put (cs := #[.slice none 0 0, .int .i64 0]) ?_ 0 _ rfl; (with_reducible repeat (first | refine blk_drewN ?_ _ | refine blk_drew ?_ | refine blk_alloc ?_ _)); exact BK111.out) Try.underlying33 rfl (by kernel_rfl)) rfl ?_
       exact ⟨_, by first | rfl | (simp [errW_none, errW_some] <;> rfl) | (simp [*, errW_none, errW_some] <;> rfl), by (with_reducible repeat (first | apply Kd.R_alloc | apply Kd.R_drewN | apply Kd.R_drew)); exact Kd.R_mono (Kd.R_far (p := ⟨gb111, 1, none⟩) (Kd.R_far (p := ⟨gb111, 0, none⟩) (Kd.R_types HO_111000.out BK111.out (by decide)) (fun _ hk => hk.2) (.slice Ao58 x111000_2.length co58)) (fun _ hk => hk.2) (.int .i64 x111001_2)) (fun _ hk => trivial), by repeat (first | (with_reducible first | exact HB.out | apply below_alloc | apply pw_below_drewN | apply below_drew1 | refine below_set ?_ GE110.out | refine below_set ?_ GE111.out) | exact HB.out)⟩

end Go.Proofs.Ytfpcbnkipdjlhab.All
