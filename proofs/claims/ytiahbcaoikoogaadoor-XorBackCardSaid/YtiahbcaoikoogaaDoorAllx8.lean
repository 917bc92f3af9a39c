-- written by a program of the session out of the translation; Lean checks it
import Derived.Test.YtiahbcaoikoogaaDoorAllx0
import Derived.Test.YtiahbcaoikoogaaDoorAllx6
import Derived.Test.YtiahbcaoikoogaaDoorAllx7
namespace Go.Proofs.YtiahbcaoikoogaaDoor.All
open Go.RowKit Go.Proofs.YtiahbcaoikoogaaDoorW.PrintWords Go.Proofs.YtiahbcaoikoogaaDoorW.PrintLast Go.Proofs.YtiahbcaoikoogaaDoorW.PrintMore
attribute [local go_sem] max2_int min2_int max_two min_two max_three min_three max_four min_four   -- for this text's walks alone
set_option linter.unusedVariables false
set_option linter.unusedSimpArgs false

/-! ### xor_Code: function 14 -/
def xor_Code.j0 : Nat → Int → Int → Int → Bool → Int → Int → Int → Option (List Int × Int × Int × Int × Int)
 | 0, _, _, _, _, _, _, _ => none
 | k + 1, x6, x7, x8, x46, x116000, x116001, x116002 => if x46 = true then ((bits_Put.f k ([] : List Int) 0 2 2).bind fun bt124 => (if 0 ≤ (wrap64 ((wrap64 (64 - x116001)) - x116002)) then ((bits_Put.f k bt124.1 bt124.2 (shr .u64 x6 (wrap64 ((wrap64 (64 - x116001)) - x116002))) x116002).bind fun bt129 => (some (bt129.1, bt129.2, x116000, x116001, x116002))) else (none))) else ((bits_Put.f k ([] : List Int) 0 3 2).bind fun bt133 => ((bits_Put.f k bt133.1 bt133.2 (IntKind.u64.wrap (x7)) 6).bind fun bt138 => ((bits_Put.f k bt138.1 bt138.2 (IntKind.u64.wrap (wrap64 (x8 - 1))) 6).bind fun bt142 => (if 0 ≤ (wrap64 ((wrap64 (64 - x7)) - x8)) then ((bits_Put.f k bt142.1 bt142.2 (shr .u64 x6 (wrap64 ((wrap64 (64 - x7)) - x8))) x8).bind fun bt146 => (some (bt146.1, bt146.2, x116000, x7, x8))) else (none)))))
def xor_Code.f (k : Nat) (a0_0 : Int) (a0_1 : Int) (a0_2 : Int) (a1 : Int) : Option (List Int × Int × Int × Int × Int) := if (Go.bits .xor .u64 a1 a0_0) = 0 then ((bits_Put.f k ([] : List Int) 0 0 1).bind fun bt118 => (some (bt118.1, bt118.2, a1, a0_1, a0_2))) else ((xor_window.f (Go.bits .xor .u64 a1 a0_0)).bind fun bt122 => (if a0_2 > 0 then (if bt122.1 ≥ a0_1 then (xor_Code.j0 k (Go.bits .xor .u64 a1 a0_0) bt122.1 bt122.2 (decide ((wrap64 (bt122.1 + bt122.2)) ≤ (wrap64 (a0_1 + a0_2)))) a1 a0_1 a0_2) else (xor_Code.j0 k (Go.bits .xor .u64 a1 a0_0) bt122.1 bt122.2 false a1 a0_1 a0_2)) else (xor_Code.j0 k (Go.bits .xor .u64 a1 a0_0) bt122.1 bt122.2 false a1 a0_1 a0_2)))
theorem xor_Code.mono_l : ∀ k, (∀ y0 y1 y2 y3 y4 y5 y6, LeO (xor_Code.j0 k y0 y1 y2 y3 y4 y5 y6) (xor_Code.j0 (k + 1) y0 y1 y2 y3 y4 y5 y6))
 | 0 => fun _ _ _ _ _ _ _ r h => by simp [xor_Code.j0] at h
 | k + 1 => by
  have ih0 := xor_Code.mono_l k
  ·intro y0 y1 y2 y3 y4 y5 y6
   unfold xor_Code.j0
   repeat' first
   | (with_reducible exact ih0 _ _ _ _ _ _ _)
   | (with_reducible exact bits_Put.mono _ _ _ _ _)
   | (with_reducible exact LeO.refl _)
   | (with_reducible exact LeO.none _)
   | (with_reducible refine LeO.ite ?_ ?_)
   | (with_reducible refine LeO.bind ?_ (fun _ => ?_))
   | exact ih0 _ _ _ _ _ _ _
   | exact bits_Put.mono _ _ _ _ _
   | exact LeO.none _
   | refine LeO.ite ?_ ?_
   | refine LeO.bind ?_ (fun _ => ?_)
theorem xor_Code.mono : ∀ a0 a1 a2 a3 k, LeO (xor_Code.f k a0 a1 a2 a3) (xor_Code.f (k + 1) a0 a1 a2 a3) := by
 intro a0 a1 a2 a3 k
 have ih0 := xor_Code.mono_l k
 unfold xor_Code.f
 repeat' first
   | (with_reducible exact ih0 _ _ _ _ _ _ _)
   | (with_reducible exact bits_Put.mono _ _ _ _ _)
   | (with_reducible exact LeO.refl _)
   | (with_reducible exact LeO.none _)
   | (with_reducible refine LeO.ite ?_ ?_)
   | (with_reducible refine LeO.bind ?_ (fun _ => ?_))
   | exact ih0 _ _ _ _ _ _ _
   | exact bits_Put.mono _ _ _ _ _
   | exact LeO.none _
   | refine LeO.ite ?_ ?_
   | refine LeO.bind ?_ (fun _ => ?_)
def xor_Code.T8 : Bool × List (List Nat × List Nat) := (true, [([], []), ([], []), ([], []), ([2], [2]), ([3], [3]), ([], []), ([5], [5]), ([4, 6], [4, 6]), ([1, 7], [1, 7]), ([], []), ([9], [9]), ([0, 8, 10], [0, 8, 10]), ([], []), ([11, 11, 0, 1, 2, 3, 4, 5, 6, 7, 8, 9, 10, 11], [11]), ([12, 13, 0, 1, 2, 3, 4, 5, 6, 7, 8, 9, 10, 11, 12, 13], [12])])
def xor_Code.B8 : List Nat := [0, 0, 0, 4, 12, 0, 32, 124, 254, 0, 512, 2047, 0, 4095, 16383]
theorem xor_Code.tab8 : rtab .any (opsOf Tryd.f14 8) = xor_Code.T8 := by kernel_rfl
theorem xor_Code.bits8 : waitsOk xor_Code.T8.2 xor_Code.B8 = true := by kernel_rfl
def xor_Code.T12 : Bool × List (List Nat × List Nat) := (true, [([], []), ([], []), ([], []), ([2], [2]), ([], []), ([3, 4], [3, 4]), ([1, 5], [1, 5]), ([], []), ([0, 6, 7], [0, 6, 7]), ([], []), ([8, 8, 0, 1, 2, 3, 4, 5, 6, 7, 8], [8]), ([9, 10, 0, 1, 2, 3, 4, 5, 6, 7, 8, 9, 10], [9])])
def xor_Code.B12 : List Nat := [0, 0, 0, 4, 0, 28, 62, 0, 255, 0, 511, 2047]
theorem xor_Code.tab12 : rtab .any (opsOf Tryd.f14 12) = xor_Code.T12 := by kernel_rfl
theorem xor_Code.bits12 : waitsOk xor_Code.T12.2 xor_Code.B12 = true := by kernel_rfl
set_option maxHeartbeats 8000000 in
set_option maxRecDepth 100000 in
theorem xor_Code.calls (k : Nat) (a0_0 : Int) (a0_1 : Int) (a0_2 : Int) (a1 : Int) (r1 : List Int) (r2 : Int) (r3 : Int) (r4 : Int) (r5 : Int) (w : World) (hT : TabOk w) (h : xor_Code.f k a0_0 a0_1 a0_2 a1 = some (r1, r2, r3, r4, r5)) :
  Calls Tryd.prog 14 #[.agg #[.int .u64 a0_0, .int .i64 a0_1, .int .i64 a0_2], .int .u64 a1] w fun e w' => ∃ v0_ : Value, e = .returned (.tuple #[.agg #[v0_, .int .i64 r2], .agg #[.int .u64 r3, .int .i64 r4, .int .i64 r5]]) ∧ Kd.R (Kd.int .u8) 5 w' w.heap.size (fun _ => True) v0_ r1 ∧ Below w.heap.size w w' := by
 have hu24 := Tryd.underlying24
 have hu31 := Tryd.underlying31
 have HT := Aside0.mk hT
 clear hT
 have HB := Aside0.mk (Below.refl w.heap.size w)
 have H : (if (Go.bits .xor .u64 a1 a0_0) = 0 then ((bits_Put.f k ([] : List Int) 0 0 1).bind fun bt118 => (some (bt118.1, bt118.2, a1, a0_1, a0_2))) else ((xor_window.f (Go.bits .xor .u64 a1 a0_0)).bind fun bt122 => (if a0_2 > 0 then (if bt122.1 ≥ a0_1 then (xor_Code.j0 k (Go.bits .xor .u64 a1 a0_0) bt122.1 bt122.2 (decide ((wrap64 (bt122.1 + bt122.2)) ≤ (wrap64 (a0_1 + a0_2)))) a1 a0_1 a0_2) else (xor_Code.j0 k (Go.bits .xor .u64 a1 a0_0) bt122.1 bt122.2 false a1 a0_1 a0_2)) else (xor_Code.j0 k (Go.bits .xor .u64 a1 a0_0) bt122.1 bt122.2 false a1 a0_1 a0_2)))) = some (r1, r2, r3, r4, r5) := h
 clear h
 by_cases c3 : (Go.bits .xor .u64 a1 a0_0) = 0
 ·rw [if_pos c3] at H
  have c3b0 : ((Go.bits .xor .u64 a1 a0_0) == 0) = true := beq_iff_eq.mpr c3
  have c3b1 : ((Go.bits .xor .u64 a1 a0_0) != 0) = false := bne_eq_false_iff_eq.mpr c3
  clear c3
  replace H := Option.bind_eq_some_iff.mp H
  obtain ⟨⟨t118, t121⟩, A40, H⟩ := H
  replace H : (some (t118, t121, a1, a0_1, a0_2)) = some (r1, r2, r3, r4, r5) := H
  have A4 := Aside0.mk A40
  clear A40
  simp only [Option.some.injEq, Prod.mk.injEq] at H
  obtain ⟨rfl, rfl, rfl, rfl, rfl⟩ := H
  go_enter Tryd.func14, Tryd.ntmps14
  try go_wp2_with (first | ((with_reducible refine gate_dst (N := 2) rfl ?_); refine box_event ?hg (N := 2) ?hd (cs := #[.int .u64 a0_0, .int .i64 a0_1, .int .i64 a0_2]) (t := 24) ?hr ?_; (case hd => rfl); (case hg => rfl); (case hr => first | (go_simp; done) | (go_simp; rfl)); intro gb115 hg w5 hbox hb; have BK115 := Aside0.mk (hbox); have GW115 := kG hg HB; have GE115 := kG hg HB; replace HB := kH HB hb; clear hb hbox hg) | ((with_reducible refine gate_dst (N := 4) rfl ?_); refine box_event ?hg (N := 4) ?hd (cs := #[.slice none 0 0, .int .i64 0]) (t := 31) ?hr ?_; (case hd => rfl); (case hg => rfl); (case hr => first | (go_simp; done) | (go_simp; rfl)); intro gb116 hg w6 hbox hb; have BK116 := Aside0.mk (hbox); have GW116 := kG hg HB; have GE116 := kG hg HB; replace HB := kH HB hb; obtain ⟨NB115_116, NB116_115⟩ := kN hg BK115; replace BK115 := kB BK115 hb; clear hb hbox hg) | ((with_reducible refine gate_dst (N := 5) rfl ?_); refine box_event ?hg (N := 5) ?hd (cs := #[.int .u64 0, .int .i64 0, .int .i64 0]) (t := 24) ?hr ?_; (case hd => rfl); (case hg => rfl); (case hr => first | (go_simp; done) | (go_simp; rfl)); intro gb117 hg w7 hbox hb; have BK117 := Aside0.mk (hbox); have GW117 := kG hg HB; have GE117 := kG hg HB; replace HB := kH HB hb; obtain ⟨NB115_117, NB117_115⟩ := kN hg BK115; replace BK115 := kB BK115 hb; obtain ⟨NB116_117, NB117_116⟩ := kN hg BK116; replace BK116 := kB BK116 hb; clear hb hbox hg; have hnb8 := NB115_116.out; have hnc8 := NB116_115.out; have hnb9 := NB115_117.out; have hnc9 := NB117_115.out; have hcz10_0 : w7.cell? ⟨gb115, 0, none⟩ = some (.int .u64 a0_0) := (blk_cell BK115.out 0).trans rfl; have hcz10_1 : w7.cell? ⟨gb115, 1, none⟩ = some (.int .i64 a0_1) := (blk_cell BK115.out 1).trans rfl; have hcz10_2 : w7.cell? ⟨gb115, 2, none⟩ = some (.int .i64 a0_2) := (blk_cell BK115.out 2).trans rfl; have hfz10_0 := blk_frozen BK115.out 0; have hfz10_1 := blk_frozen BK115.out 1; have hfz10_2 := blk_frozen BK115.out 2))
  have n0_ : Aside0 ((w7.setCell ⟨gb115, 0, none⟩ (.int .u64 a1)).heap[gb115]? = some (.cells #[.int .u64 a1, .int .i64 a0_1, .int .i64 a0_2] 24 (0, 0))) := ⟨by (with_reducible repeat (first | refine blk_drewN ?_ _ | refine blk_drew ?_ | refine blk_alloc ?_ _)); refine blk_put (cs := #[.int .u64 a0_0, .int .i64 a0_1, .int .i64 a0_2]) ?_ 0 _ rfl; (with_reducible repeat (first | refine blk_drewN ?_ _ | refine blk_drew ?_ | refine blk_alloc ?_ _)); exact BK115.out⟩
  have n1_ : Aside0 ((w7.setCell ⟨gb115, 0, none⟩ (.int .u64 a1)).heap[gb116]? = some (.cells #[.slice none 0 0, .int .i64 0] 31 (0, 0))) := ⟨by (with_reducible repeat (first | refine blk_drewN ?_ _ | refine blk_drew ?_ | refine blk_alloc ?_ _)); refine blk_far ?_ NB116_115.out _; (with_reducible repeat (first | refine blk_drewN ?_ _ | refine blk_drew ?_ | refine blk_alloc ?_ _)); exact BK116.out⟩
  have n2_ : Aside0 ((w7.setCell ⟨gb115, 0, none⟩ (.int .u64 a1)).heap[gb117]? = some (.cells #[.int .u64 0, .int .i64 0, .int .i64 0] 24 (0, 0))) := ⟨by (with_reducible repeat (first | refine blk_drewN ?_ _ | refine blk_drew ?_ | refine blk_alloc ?_ _)); refine blk_far ?_ NB117_115.out _; (with_reducible repeat (first | refine blk_drewN ?_ _ | refine blk_drew ?_ | refine blk_alloc ?_ _)); exact BK117.out⟩
  have n3_ : Aside0 (Below w.heap.size w (w7.setCell ⟨gb115, 0, none⟩ (.int .u64 a1))) := ⟨by repeat (first | (with_reducible first | exact HB.out | apply below_alloc | apply pw_below_drewN | apply below_drew1 | refine below_set ?_ GE115.out | refine below_set ?_ GE116.out | refine below_set ?_ GE117.out) | exact HB.out)⟩
  (try clear BK115)
  (try clear BK116)
  (try clear BK117)
  (try clear HB)
  generalize (w7.setCell ⟨gb115, 0, none⟩ (.int .u64 a1)) = w11 at n0_ n1_ n2_ n3_ ⊢
  have BK115 := n0_
  have BK116 := n1_
  have BK117 := n2_
  have HB := n3_
  clear n0_ n1_ n2_ n3_
  replace BK115 := Aside0.mk (blk_drew BK115.out)
  replace BK116 := Aside0.mk (blk_drew BK116.out)
  replace BK117 := Aside0.mk (blk_drew BK117.out)
  replace HB := Aside0.mk (below_drew1 HB.out)
  refine start_ (n := 5) (S := fun w' => w'.cell? ⟨gb115, 0, none⟩ = some (.int .u64 a1) ∧ w'.cell? ⟨gb115, 1, none⟩ = some (.int .i64 a0_1) ∧ w'.cell? ⟨gb115, 2, none⟩ = some (.int .i64 a0_2)) (ds := []) (bl 5 0) (by kernel_rfl) rfl rfl kz (fun hHeld => ?_)
  generalize w11.drew = w12 at BK115 BK116 BK117 HB hHeld ⊢
  refine pu 0 (some 19) (bl 5 1) (h := ?_)
  refine ta 2 (some 21) (bl 5 5) (h := ?_)
  refine one_ (i := 1) (N := some 20) #[true, true, true, false, false] rfl rfl (by kernel_rfl) (by decide) (fun K hK => ?_)
  refine goes_ Tryd.func44 (by kernel_rfl) rfl #[.agg #[.slice none 0 0, .int .i64 0], .int .u64 0, .int .i64 1] (by rfl) rfl rfl km ?_
  refine (bits_Put.calls k _ _ ([] : List Int) 0 0 1 t118 t121 _ ?side1 ?side2 A4.out).mono ?_
  (case side1 => exact Kd.C_nil _ _)
  (case side2 => exact Nat.le_refl _)
  rintro e w13 ⟨v119, rfl, ho0, hb⟩
  refine ⟨_, rfl, ?_⟩
  have HO120 := Aside0.mk (Kd.R_lower ho0 (below_size (kl HB)))
  replace BK115 := kB BK115 hb
  replace BK116 := kB BK116 hb
  replace BK117 := kB BK117 hb
  replace HB := kH HB hb
  (try clear hb)
  (try clear hb2)
  (try clear hk)
  (try clear hi)
  (try clear ho0)
  obtain ⟨Ao14, co14, eo14⟩ := Kd.R_slice HO120.out
  (first | subst eo14 | (injection eo14 with f1_ f2_ f3_; have f4_ := f1_.symm; have f5_ := f3_.symm; clear f1_ f2_ f3_; subst f4_; subst f5_))
  refine hK.out _ _ kz (fun hHeld => ?_)
  clear hK K
  refine norm_ (a' := ?_) ?_ ?_
  rotate_left
  ·show Act.put _ (some 20) _ = _
   simp only [Act.put, List.setIfInBounds_toArray, List.set_cons_zero, List.set_cons_succ, i64_w, i32_w]
   rfl
  refine one_ (i := 3) (N := none) #[true, true, true, true, false] rfl rfl (by kernel_rfl) (by decide) (fun K hK => ?_)
  have hs15 : w13.cell? ⟨gb116, 0, none⟩ = some (.slice none 0 0) := (blk_cell BK116.out 0).trans rfl
  have hfs15 := blk_frozen BK116.out 0
  have hns15_0 := NB115_116.out
  have hns15_2 := NB117_116.out
  have hms15_0 := NB116_115.out
  have hms15_2 := NB116_117.out
  have hs16 : w13.cell? ⟨gb116, 1, none⟩ = some (.int .i64 0) := (blk_cell BK116.out 1).trans rfl
  have hfs16 := blk_frozen BK116.out 1
  refine skip_ (w1 := ?_) (by rfl) rfl ?_ ?_
  rotate_left
  ·go_simp
   rfl
  refine hK.out _ _ (ks hHeld) (fun hHeld => ?_)
  clear hK K
  refine one_ (i := 4) (N := none) #[true, true, true, true, true] rfl rfl (by kernel_rfl) (by decide) (fun K hK => ?_)
  have hs17 : w13.cell? ⟨gb117, 0, none⟩ = some (.int .u64 0) := (blk_cell BK117.out 0).trans rfl
  have hfs17 := blk_frozen BK117.out 0
  have hns17_0 := NB115_117.out
  have hns17_1 := NB116_117.out
  have hms17_0 := NB117_115.out
  have hms17_1 := NB117_116.out
  have hs18 : w13.cell? ⟨gb117, 1, none⟩ = some (.int .i64 0) := (blk_cell BK117.out 1).trans rfl
  have hfs18 := blk_frozen BK117.out 1
  have hs19 : w13.cell? ⟨gb117, 2, none⟩ = some (.int .i64 0) := (blk_cell BK117.out 2).trans rfl
  have hfs19 := blk_frozen BK117.out 2
  refine skip_ (w1 := ?_) (by rfl) rfl ?_ ?_
  rotate_left
  ·go_simp
   rfl
  refine hK.out _ _ (ks hHeld) (fun hHeld => ?_)
  clear hK K
  refine done_ (by kernel_rfl) ?_
  try go_wp2
  refine bodyPost_ret (results_cc rfl _ _ gb116 gb117 31 24 #[.slice Ao14 t118.length co14, .int .i64 t121] #[.int .u64 a1, .int .i64 a0_1, .int .i64 a0_2] (0, 0) (0, 0) _ _ rfl (kb BK116) Tryd.underlying31 rfl (by kernel_rfl) rfl (kb BK117) Tryd.underlying24 rfl (by kernel_rfl)) rfl ?_
  exact ⟨_, by first | rfl | (simp [errW_none, errW_some] <;> rfl) | (simp [*, errW_none, errW_some] <;> rfl), by (with_reducible repeat (first | apply Kd.R_alloc | apply Kd.R_drewN | apply Kd.R_drew)); exact Kd.R_mono (Kd.R_far (p := ⟨gb117, 2, none⟩) (Kd.R_far (p := ⟨gb117, 1, none⟩) (Kd.R_far (p := ⟨gb117, 0, none⟩) (Kd.R_far (p := ⟨gb116, 1, none⟩) (Kd.R_far (p := ⟨gb116, 0, none⟩) (Kd.R_types (Kd.R_types HO120.out BK116.out (by decide)) BK117.out (by decide)) (fun _ hk => hk.1.2) (.slice Ao14 t118.length co14)) (fun _ hk => hk.1.2) (.int .i64 t121)) (fun _ hk => hk.2) (.int .u64 a1)) (fun _ hk => hk.2) (.int .i64 a0_1)) (fun _ hk => hk.2) (.int .i64 a0_2)) (fun _ hk => trivial), by repeat (first | (with_reducible first | exact HB.out | apply below_alloc | apply pw_below_drewN | apply below_drew1 | refine below_set ?_ GE115.out | refine below_set ?_ GE116.out | refine below_set ?_ GE117.out) | exact HB.out)⟩
 ·rw [if_neg c3] at H
  have c3b0 : ((Go.bits .xor .u64 a1 a0_0) == 0) = false := beq_eq_false_iff_ne.mpr c3
  have c3b1 : ((Go.bits .xor .u64 a1 a0_0) != 0) = true := bne_iff_ne.mpr c3
  replace H := Option.bind_eq_some_iff.mp H
  obtain ⟨⟨t122, t123⟩, A200, H⟩ := H
  replace H : (if a0_2 > 0 then (if t122 ≥ a0_1 then (xor_Code.j0 k (Go.bits .xor .u64 a1 a0_0) t122 t123 (decide ((wrap64 (t122 + t123)) ≤ (wrap64 (a0_1 + a0_2)))) a1 a0_1 a0_2) else (xor_Code.j0 k (Go.bits .xor .u64 a1 a0_0) t122 t123 false a1 a0_1 a0_2)) else (xor_Code.j0 k (Go.bits .xor .u64 a1 a0_0) t122 t123 false a1 a0_1 a0_2)) = some (r1, r2, r3, r4, r5) := H
  have A20 := Aside0.mk A200
  clear A200
  have HC21 := Aside0.mk H
  clear H
  go_enter Tryd.func14, Tryd.ntmps14
  go_upto_region 6 with (first | ((with_reducible refine gate_dst (N := 2) rfl ?_); refine box_event ?hg (N := 2) ?hd (cs := #[.int .u64 a0_0, .int .i64 a0_1, .int .i64 a0_2]) (t := 24) ?hr ?_; (case hd => rfl); (case hg => rfl); (case hr => first | (go_simp; done) | (go_simp; rfl)); intro gb115 hg w22 hbox hb; have BK115 := Aside0.mk (hbox); have GW115 := kG hg HB; have GE115 := kG hg HB; replace HB := kH HB hb; clear hb hbox hg) | ((with_reducible refine gate_dst (N := 4) rfl ?_); refine box_event ?hg (N := 4) ?hd (cs := #[.slice none 0 0, .int .i64 0]) (t := 31) ?hr ?_; (case hd => rfl); (case hg => rfl); (case hr => first | (go_simp; done) | (go_simp; rfl)); intro gb116 hg w23 hbox hb; have BK116 := Aside0.mk (hbox); have GW116 := kG hg HB; have GE116 := kG hg HB; replace HB := kH HB hb; obtain ⟨NB115_116, NB116_115⟩ := kN hg BK115; replace BK115 := kB BK115 hb; clear hb hbox hg) | ((with_reducible refine gate_dst (N := 5) rfl ?_); refine box_event ?hg (N := 5) ?hd (cs := #[.int .u64 0, .int .i64 0, .int .i64 0]) (t := 24) ?hr ?_; (case hd => rfl); (case hg => rfl); (case hr => first | (go_simp; done) | (go_simp; rfl)); intro gb117 hg w24 hbox hb; have BK117 := Aside0.mk (hbox); have GW117 := kG hg HB; have GE117 := kG hg HB; replace HB := kH HB hb; obtain ⟨NB115_117, NB117_115⟩ := kN hg BK115; replace BK115 := kB BK115 hb; obtain ⟨NB116_117, NB117_116⟩ := kN hg BK116; replace BK116 := kB BK116 hb; clear hb hbox hg; have hnb25 := NB115_116.out; have hnc25 := NB116_115.out; have hnb26 := NB115_117.out; have hnc26 := NB117_115.out; have hcz27_0 : w24.cell? ⟨gb115, 0, none⟩ = some (.int .u64 a0_0) := (blk_cell BK115.out 0).trans rfl; have hcz27_1 : w24.cell? ⟨gb115, 1, none⟩ = some (.int .i64 a0_1) := (blk_cell BK115.out 1).trans rfl; have hcz27_2 : w24.cell? ⟨gb115, 2, none⟩ = some (.int .i64 a0_2) := (blk_cell BK115.out 2).trans rfl; have hfz27_0 := blk_frozen BK115.out 0; have hfz27_1 := blk_frozen BK115.out 1; have hfz27_2 := blk_frozen BK115.out 2) | ((with_reducible refine gate_callee (f := 45) rfl ?_); refine goesL_ (some 24) rfl rfl Tryd.func45 (by kernel_rfl) rfl #[.int .u64 (Go.bits .xor .u64 a1 a0_0)] rfl km ?_; (with_reducible refine (xor_window.calls (Go.bits .xor .u64 a1 a0_0) t122 t123 _ ?side1 A20.out).mono ?_); (case side1 => exact TabOk.below HT.out (kl HB) (Nat.le_refl _)); rintro e w' ⟨rfl, ⟨nd, rfl⟩⟩; refine ⟨_, rfl, ?_⟩))
  (try simp only [Act.put, List.setIfInBounds_toArray, List.set_cons_zero, List.set_cons_succ])
  go_cut [46] (fun v46 wc => ∃ (kq : Nat) (x46_20 : Bool), v46 = .bool x46_20 ∧ Aside0 (xor_Code.j0 kq (Go.bits .xor .u64 a1 a0_0) t122 t123 x46_20 a1 a0_1 a0_2 = some (r1, r2, r3, r4, r5)) ∧ Aside0 (kq ≤ k) ∧ Aside0 (wc.heap[gb115]? = some (.cells #[.int .u64 a1, .int .i64 a0_1, .int .i64 a0_2] 24 (0, 0))) ∧ Aside0 (wc.heap[gb116]? = some (.cells #[(.slice none 0 0), .int .i64 0] 31 (0, 0))) ∧ Aside0 (wc.heap[gb117]? = some (.cells #[.int .u64 0, .int .i64 0, .int .i64 0] 24 (0, 0))) ∧ Aside0 (Below w.heap.size w wc))
  case first =>
   have H := HC21.out
   clear HC21
   by_cases c28 : a0_2 > 0
   ·rw [if_pos c28] at H
    have c28b0 : decide (0 < a0_2) = true := decide_eq_true c28
    clear c28
    (first | rw [c28b0] | (simp only [i64_w, i32_w]; rw [c28b0]) | skip)
    by_cases c29 : t122 ≥ a0_1
    ·rw [if_pos c29] at H
     have c29b0 : decide (a0_1 ≤ t122) = true := decide_eq_true c29
     clear c29
     have H' := Aside0.mk H
     clear H
     have hnb30 := NB115_116.out
     have hnc30 := NB116_115.out
     have hnb31 := NB115_117.out
     have hnc31 := NB117_115.out
     obtain ⟨hcz32_0, hcz32_1, hcz32_2⟩ := kc3 BK115
     obtain ⟨hfz32_0, hfz32_1, hfz32_2⟩ := kf3 BK115
     go_wp2
     go_meet
     case rel => exact ⟨_, (decide ((wrap64 (t122 + t123)) ≤ (wrap64 (a0_1 + a0_2)))), (by first | rfl | (simp; done) | (simp [*]; done)), H', ⟨by first | omega | exact Nat.le_refl _⟩, ⟨by (with_reducible repeat (first | refine blk_drewN ?_ _ | refine blk_drew ?_ | refine blk_alloc ?_ _)); refine blk_put (cs := #[.int .u64 a0_0, .int .i64 a0_1, .int .i64 a0_2]) ?_ 0 _ rfl; (with_reducible repeat (first | refine blk_drewN ?_ _ | refine blk_drew ?_ | refine blk_alloc ?_ _)); exact BK115.out⟩, ⟨by (with_reducible repeat (first | refine blk_drewN ?_ _ | refine blk_drew ?_ | refine blk_alloc ?_ _)); refine blk_far ?_ NB116_115.out _; (with_reducible repeat (first | refine blk_drewN ?_ _ | refine blk_drew ?_ | refine blk_alloc ?_ _)); exact BK116.out⟩, ⟨by (with_reducible repeat (first | refine blk_drewN ?_ _ | refine blk_drew ?_ | refine blk_alloc ?_ _)); refine blk_far ?_ NB117_115.out _; (with_reducible repeat (first | refine blk_drewN ?_ _ | refine blk_drew ?_ | refine blk_alloc ?_ _)); exact BK117.out⟩, ⟨by repeat (first | (with_reducible first | exact HB.out | apply below_alloc | apply pw_below_drewN | apply below_drew1 | refine below_set ?_ GE115.out | refine below_set ?_ GE116.out | refine below_set ?_ GE117.out) | exact HB.out)⟩⟩
    ·rw [if_neg c29] at H
     have c29b0 : decide (a0_1 ≤ t122) = false := decide_eq_false c29
     clear c29
     have H' := Aside0.mk H
     clear H
     have hnb33 := NB115_116.out
     have hnc33 := NB116_115.out
     have hnb34 := NB115_117.out
     have hnc34 := NB117_115.out
     obtain ⟨hcz35_0, hcz35_1, hcz35_2⟩ := kc3 BK115
     obtain ⟨hfz35_0, hfz35_1, hfz35_2⟩ := kf3 BK115
     go_wp2
     go_meet
     case rel => exact ⟨_, (false), (by first | rfl | (simp; done) | (simp [*]; done)), H', ⟨by first | omega | exact Nat.le_refl _⟩, ⟨by (with_reducible repeat (first | refine blk_drewN ?_ _ | refine blk_drew ?_ | refine blk_alloc ?_ _)); refine blk_put (cs := #[.int .u64 a0_0, .int .i64 a0_1, .int .i64 a0_2]) ?_ 0 _ rfl; (with_reducible repeat (first | refine blk_drewN ?_ _ | refine blk_drew ?_ | refine blk_alloc ?_ _)); exact BK115.out⟩, ⟨by (with_reducible repeat (first | refine blk_drewN ?_ _ | refine blk_drew ?_ | refine blk_alloc ?_ _)); refine blk_far ?_ NB116_115.out _; (with_reducible repeat (first | refine blk_drewN ?_ _ | refine blk_drew ?_ | refine blk_alloc ?_ _)); exact BK116.out⟩, ⟨by (with_reducible repeat (first | refine blk_drewN ?_ _ | refine blk_drew ?_ | refine blk_alloc ?_ _)); refine blk_far ?_ NB117_115.out _; (with_reducible repeat (first | refine blk_drewN ?_ _ | refine blk_drew ?_ | refine blk_alloc ?_ _)); exact BK117.out⟩, ⟨by repeat (first | (with_reducible first | exact HB.out | apply below_alloc | apply pw_below_drewN | apply below_drew1 | refine below_set ?_ GE115.out | refine below_set ?_ GE116.out | refine below_set ?_ GE117.out) | exact HB.out)⟩⟩
   ·rw [if_neg c28] at H
    have c28b0 : decide (0 < a0_2) = false := decide_eq_false c28
    clear c28
    (first | rw [c28b0] | (simp only [i64_w, i32_w]; rw [c28b0]) | skip)
    have H' := Aside0.mk H
    clear H
    have hnb36 := NB115_116.out
    have hnc36 := NB116_115.out
    have hnb37 := NB115_117.out
    have hnc37 := NB117_115.out
    obtain ⟨hcz38_0, hcz38_1, hcz38_2⟩ := kc3 BK115
    obtain ⟨hfz38_0, hfz38_1, hfz38_2⟩ := kf3 BK115
    go_wp2
    go_meet
    case rel => exact ⟨_, (false), (by first | rfl | (simp; done) | (simp [*]; done)), H', ⟨by first | omega | exact Nat.le_refl _⟩, ⟨by (with_reducible repeat (first | refine blk_drewN ?_ _ | refine blk_drew ?_ | refine blk_alloc ?_ _)); refine blk_put (cs := #[.int .u64 a0_0, .int .i64 a0_1, .int .i64 a0_2]) ?_ 0 _ rfl; (with_reducible repeat (first | refine blk_drewN ?_ _ | refine blk_drew ?_ | refine blk_alloc ?_ _)); exact BK115.out⟩, ⟨by (with_reducible repeat (first | refine blk_drewN ?_ _ | refine blk_drew ?_ | refine blk_alloc ?_ _)); refine blk_far ?_ NB116_115.out _; (with_reducible repeat (first | refine blk_drewN ?_ _ | refine blk_drew ?_ | refine blk_alloc ?_ _)); exact BK116.out⟩, ⟨by (with_reducible repeat (first | refine blk_drewN ?_ _ | refine blk_drew ?_ | refine blk_alloc ?_ _)); refine blk_far ?_ NB117_115.out _; (with_reducible repeat (first | refine blk_drewN ?_ _ | refine blk_drew ?_ | refine blk_alloc ?_ _)); exact BK117.out⟩, ⟨by repeat (first | (with_reducible first | exact HB.out | apply below_alloc | apply pw_below_drewN | apply below_drew1 | refine below_set ?_ GE115.out | refine below_set ?_ GE116.out | refine below_set ?_ GE117.out) | exact HB.out)⟩⟩
  case rest =>
   clear HC21
   try clear c1
   try clear c2
   try clear p2
   try clear c3
   try clear c3b0
   try clear c3b1
   try clear c4
   try clear p6
   try clear c8
   try clear c9
   try clear c14
   try clear c25
   try clear c26
   try clear c28
   try clear c28b0
   try clear c29
   try clear c29b0
   try clear c30
   try clear c31
   try clear c33
   try clear c34
   try clear c36
   try clear c37
   try clear hcz10_0
   try clear hcz10_1
   try clear hcz10_2
   try clear hcz27_0
   try clear hcz27_1
   try clear hcz27_2
   try clear hcz32_0
   try clear hcz32_1
   try clear hcz32_2
   try clear hcz35_0
   try clear hcz35_1
   try clear hcz35_2
   try clear hcz38_0
   try clear hcz38_1
   try clear hcz38_2
   try clear hfz10_0
   try clear hfz10_1
   try clear hfz10_2
   try clear hfz27_0
   try clear hfz27_1
   try clear hfz27_2
   try clear hfz32_0
   try clear hfz32_1
   try clear hfz32_2
   try clear hfz35_0
   try clear hfz35_1
   try clear hfz35_2
   try clear hfz38_0
   try clear hfz38_1
   try clear hfz38_2
   obtain ⟨kq, x46_20, rfl, HA, HJ20, BK115, BK116, BK117, HB⟩ := hcut
   cases kq with
   | zero => exact absurd HA.out (by simp [xor_Code.j0])
   | succ kj20 =>
    have H := HA.out
    clear HA
    simp only [xor_Code.j0] at H
    by_cases c39 : x46_20 = true
    ·subst c39
     have H1 : ((bits_Put.f kj20 ([] : List Int) 0 2 2).bind fun bt124 => (if 0 ≤ (wrap64 ((wrap64 (64 - a0_1)) - a0_2)) then ((bits_Put.f kj20 bt124.1 bt124.2 (shr .u64 (Go.bits .xor .u64 a1 a0_0) (wrap64 ((wrap64 (64 - a0_1)) - a0_2))) a0_2).bind fun bt129 => (some (bt129.1, bt129.2, a1, a0_1, a0_2))) else (none))) = some (r1, r2, r3, r4, r5) := by rw [if_pos rfl] at H; exact H
     clear H
     have H := H1
     clear H1
     replace H := Option.bind_eq_some_iff.mp H
     obtain ⟨⟨t124, t127⟩, A400, H⟩ := H
     replace H : (if 0 ≤ (wrap64 ((wrap64 (64 - a0_1)) - a0_2)) then ((bits_Put.f kj20 t124 t127 (shr .u64 (Go.bits .xor .u64 a1 a0_0) (wrap64 ((wrap64 (64 - a0_1)) - a0_2))) a0_2).bind fun bt129 => (some (bt129.1, bt129.2, a1, a0_1, a0_2))) else (none)) = some (r1, r2, r3, r4, r5) := H
     have A40 := Aside0.mk A400
     clear A400
     obtain ⟨ji41, hji41⟩ : ∃ j_ : Int, (wrap64 ((wrap64 (64 - a0_1)) - a0_2)) = j_ := ⟨_, rfl⟩
     replace H : (if 0 ≤ (ji41) then ((bits_Put.f kj20 t124 t127 (shr .u64 (Go.bits .xor .u64 a1 a0_0) (ji41)) a0_2).bind fun bt129 => (some (bt129.1, bt129.2, a1, a0_1, a0_2))) else (none)) = some (r1, r2, r3, r4, r5) := by first | (rw [hji41] at H; exact H) | (simp only [hji41] at H ⊢; exact H)
     (try rw [hji41] at A40)
     have hji41w : (IntKind.i64.wrap ((wrap64 (64 - a0_1)) - a0_2)) = ji41 := (i64_w _).trans hji41
     by_cases c42 : 0 ≤ (ji41)
     ·rw [if_pos c42] at H
      have c42b0 := eq_true c42
      have c42b1 : decide (0 ≤ (ji41)) = true := decide_eq_true c42
      clear c42
      obtain ⟨ji43, hji43⟩ : ∃ j_ : Int, (shr .u64 (Go.bits .xor .u64 a1 a0_0) (ji41)) = j_ := ⟨_, rfl⟩
      replace H : ((bits_Put.f kj20 t124 t127 (ji43) a0_2).bind fun bt129 => (some (bt129.1, bt129.2, a1, a0_1, a0_2))) = some (r1, r2, r3, r4, r5) := by first | (rw [hji43] at H; exact H) | (simp only [hji43] at H ⊢; exact H)
      (try rw [hji43] at A40)
      have hji43_ : ((Go.bits .xor .u64 a1 a0_0) / 2 ^ min (ji41).toNat 64) = ji43 := hji43
      have hji43z : (ji41) ≤ 64 → ((Go.bits .xor .u64 a1 a0_0) / 2 ^ (ji41).toNat) = ji43 := shr_small hji43
      replace H := Option.bind_eq_some_iff.mp H
      obtain ⟨⟨t129, t132⟩, A440, H⟩ := H
      replace H : (some (t129, t132, a1, a0_1, a0_2)) = some (r1, r2, r3, r4, r5) := H
      have A44 := Aside0.mk A440
      clear A440
      simp only [Option.some.injEq, Prod.mk.injEq] at H
      obtain ⟨rfl, rfl, rfl, rfl, rfl⟩ := H
      try go_wp2_with (first | ((with_reducible refine gate_callee (f := 44) rfl ?_); refine goesL_ (some 48) rfl rfl Tryd.func44 (by kernel_rfl) rfl #[.agg #[.slice none 0 0, .int .i64 0], .int .u64 2, .int .i64 2] rfl km ?_; (refine (bits_Put.calls kj20 _ _ ([] : List Int) 0 2 2 t124 t127 _ ?side1 ?side2 A40.out).mono ?_); (case side1 => exact Kd.C_nil _ _); (case side2 => exact Nat.le_refl _); rintro e w45 ⟨v125, rfl, ho0, hb⟩; refine ⟨_, rfl, ?_⟩; have HO126 := Aside0.mk (Kd.R_lower ho0 (below_size (kl HB))); replace BK115 := kB BK115 hb; replace BK116 := kB BK116 hb; replace BK117 := kB BK117 hb; replace HB := kH HB hb; (try clear hb); (try clear hb2); (try clear hk); (try clear hi); (try clear ho0)) | ((with_reducible refine gate_dst (N := 9) rfl ?_); refine box_event ?hg (N := 9) ?hd (cs := #[.slice none 0 0, .int .i64 0]) (t := 31) ?hr ?_; (case hd => rfl); (case hg => rfl); (case hr => first | (go_simp; done) | (go_simp; rfl)); intro gb128 hg w46 hbox hb; replace HO126 := Aside0.mk (Kd.R_below (kr HO126) hb); have BK128 := Aside0.mk (hbox); have GW128 := kG hg HB; have GE128 := kG hg HB; replace HB := kH HB hb; obtain ⟨NB115_128, NB128_115⟩ := kN hg BK115; replace BK115 := kB BK115 hb; obtain ⟨NB116_128, NB128_116⟩ := kN hg BK116; replace BK116 := kB BK116 hb; obtain ⟨NB117_128, NB128_117⟩ := kN hg BK117; replace BK117 := kB BK117 hb; clear hb hbox hg; obtain ⟨Ao47, co47, eo47⟩ := Kd.R_slice HO126.out; subst eo47; have hnb48 := NB128_115.out; have hnc48 := NB115_128.out; have hnb49 := NB128_116.out; have hnc49 := NB116_128.out; have hnb50 := NB128_117.out; have hnc50 := NB117_128.out; have hcz51_0 : w46.cell? ⟨gb128, 0, none⟩ = some (.slice none 0 0) := (blk_cell BK128.out 0).trans rfl; have hcz51_1 : w46.cell? ⟨gb128, 1, none⟩ = some (.int .i64 0) := (blk_cell BK128.out 1).trans rfl; have hfz51_0 := blk_frozen BK128.out 0; have hfz51_1 := blk_frozen BK128.out 1))
      have n0_ : Aside0 (Kd.R (Kd.int .u8) 5 ((w46.setCell ⟨gb128, 0, none⟩ (.slice Ao47 t124.length co47)).setCell ⟨gb128, 1, none⟩ (.int .i64 t127)) w.heap.size (fun _ => True) (.slice Ao47 t124.length co47) t124) := ⟨by (with_reducible repeat (first | apply Kd.R_alloc | apply Kd.R_drewN | apply Kd.R_drew)); exact Kd.R_mono (Kd.R_far (p := ⟨gb128, 1, none⟩) (Kd.R_far (p := ⟨gb128, 0, none⟩) (Kd.R_types HO126.out BK128.out (by decide)) (fun _ hk => hk.2) (.slice Ao47 t124.length co47)) (fun _ hk => hk.2) (.int .i64 t127)) (fun _ hk => trivial)⟩
      have n1_ : Aside0 (((w46.setCell ⟨gb128, 0, none⟩ (.slice Ao47 t124.length co47)).setCell ⟨gb128, 1, none⟩ (.int .i64 t127)).heap[gb115]? = some (.cells #[.int .u64 a1, .int .i64 a0_1, .int .i64 a0_2] 24 (0, 0))) := ⟨by (with_reducible repeat (first | refine blk_drewN ?_ _ | refine blk_drew ?_ | refine blk_alloc ?_ _)); refine blk_far ?_ NB115_128.out _; (with_reducible repeat (first | refine blk_drewN ?_ _ | refine blk_drew ?_ | refine blk_alloc ?_ _)); refine blk_far ?_ NB115_128.out _; (with_reducible repeat (first | refine blk_drewN ?_ _ | refine blk_drew ?_ | refine blk_alloc ?_ _)); exact BK115.out⟩
      have n2_ : Aside0 (((w46.setCell ⟨gb128, 0, none⟩ (.slice Ao47 t124.length co47)).setCell ⟨gb128, 1, none⟩ (.int .i64 t127)).heap[gb116]? = some (.cells #[.slice none 0 0, .int .i64 0] 31 (0, 0))) := ⟨by (with_reducible repeat (first | refine blk_drewN ?_ _ | refine blk_drew ?_ | refine blk_alloc ?_ _)); refine blk_far ?_ NB116_128.out _; (with_reducible repeat (first | refine blk_drewN ?_ _ | refine blk_drew ?_ | refine blk_alloc ?_ _)); refine blk_far ?_ NB116_128.out _; (with_reducible repeat (first | refine blk_drewN ?_ _ | refine blk_drew ?_ | refine blk_alloc ?_ _)); exact BK116.out⟩
      have n3_ : Aside0 (((w46.setCell ⟨gb128, 0, none⟩ (.slice Ao47 t124.length co47)).setCell ⟨gb128, 1, none⟩ (.int .i64 t127)).heap[gb117]? = some (.cells #[.int .u64 0, .int .i64 0, .int .i64 0] 24 (0, 0))) := ⟨by (with_reducible repeat (first | refine blk_drewN ?_ _ | refine blk_drew ?_ | refine blk_alloc ?_ _)); refine blk_far ?_ NB117_128.out _; (with_reducible repeat (first | refine blk_drewN ?_ _ | refine blk_drew ?_ | refine blk_alloc ?_ _)); refine blk_far ?_ NB117_128.out _; (with_reducible repeat (first | refine blk_drewN ?_ _ | refine blk_drew ?_ | refine blk_alloc ?_ _)); exact BK117.out⟩
      have n4_ : Aside0 (((w46.setCell ⟨gb128, 0, none⟩ (.slice Ao47 t124.length co47)).setCell ⟨gb128, 1, none⟩ (.int .i64 t127)).heap[gb128]? = some (.cells #[.slice Ao47 t124.length co47, .int .i64 t127] 31 (0, 0))) := ⟨by (with_reducible repeat (first | refine blk_drewN ?_ _ | refine blk_drew ?_ | refine blk_alloc ?_ _)); refine blk_put (cs := #[.slice Ao47 t124.length co47, .int .i64 0]) ?_ 1 _ rfl; (with_reducible repeat (first | refine blk_drewN ?_ _ | refine blk_drew ?_ | refine blk_alloc ?_ _)); refine blk_put (cs := #[.slice none 0 0, .int .i64 0]) ?_ 0 _ rfl; (with_reducible repeat (first | refine blk_drewN ?_ _ | refine blk_drew ?_ | refine blk_alloc ?_ _)); exact BK128.out⟩
      have n5_ : Aside0 (Below w.heap.size w ((w46.setCell ⟨gb128, 0, none⟩ (.slice Ao47 t124.length co47)).setCell ⟨gb128, 1, none⟩ (.int .i64 t127))) := ⟨by repeat (first | (with_reducible first | exact HB.out | apply below_alloc | apply pw_below_drewN | apply below_drew1 | refine below_set ?_ GE115.out | refine below_set ?_ GE116.out | refine below_set ?_ GE117.out | refine below_set ?_ GE128.out) | exact HB.out)⟩
      (try clear HO126)
      (try clear BK115)
      (try clear BK116)
      (try clear BK117)
      (try clear BK128)
      (try clear HB)
      generalize ((w46.setCell ⟨gb128, 0, none⟩ (.slice Ao47 t124.length co47)).setCell ⟨gb128, 1, none⟩ (.int .i64 t127)) = w52 at n0_ n1_ n2_ n3_ n4_ n5_ ⊢
      have HO126 := n0_
      have BK115 := n1_
      have BK116 := n2_
      have BK117 := n3_
      have BK128 := n4_
      have HB := n5_
      clear n0_ n1_ n2_ n3_ n4_ n5_
      replace HO126 := Aside0.mk (Kd.R_drew HO126.out)
      replace BK115 := Aside0.mk (blk_drew BK115.out)
      replace BK116 := Aside0.mk (blk_drew BK116.out)
      replace BK117 := Aside0.mk (blk_drew BK117.out)
      replace BK128 := Aside0.mk (blk_drew BK128.out)
      replace HB := Aside0.mk (below_drew1 HB.out)
      refine start_ (n := 15) (S := fun w' => w'.cell? ⟨gb128, 0, none⟩ = some (.slice Ao47 t124.length co47) ∧ w'.cell? ⟨gb128, 1, none⟩ = some (.int .i64 t127) ∧ w'.cell? ⟨gb115, 0, none⟩ = some (.int .u64 a1) ∧ w'.cell? ⟨gb115, 1, none⟩ = some (.int .i64 a0_1) ∧ w'.cell? ⟨gb115, 2, none⟩ = some (.int .i64 a0_2)) (ds := []) (bl 15 0) (by kernel_rfl) rfl rfl kz (fun hHeld => ?_); refine with_tabW xor_Code.tab8 xor_Code.bits8 (fun HT_ HW_ => ?_)
      generalize w52.drew = w53 at HO126 BK115 BK116 BK117 BK128 HB hHeld ⊢
      refine pu 1 (some 50) (bl 15 2) (h := ?_)
      refine pu 2 (some 51) (bl 15 6) (h := ?_)
      refine pu 5 (some 54) (bl 15 38) (h := ?_)
      refine pu 9 (some 58) (bl 15 550) (h := ?_)
      refine ta 0 (some 49) (bl 15 551) (h := ?_)
      refine ta 3 (some 52) (bl 15 559) (h := ?_)
      refine pu 4 (some 53) (bl 15 575) (h := ?_)
      refine ta 6 (some 55) (bl 15 639) (h := ?_)
      refine pu 7 (some 56) (bl 15 767) (h := ?_)
      refine pu 8 (some 57) (bl 15 1023) (h := ?_)
      refine ta 10 (some 59) (bl 15 2047) (h := ?_)
      refine ta 12 (some 61) (bl 15 6143) (h := ?_)
      refine one_ (i := 11) (N := some 60) #[true, true, true, true, true, true, true, true, true, true, true, true, true, false, false] rfl rfl (one_of HT_.out (by kernel_rfl)) (by decide) (fun K hK => ?_)
      refine goes_ Tryd.func44 (by kernel_rfl) rfl #[.agg #[.slice Ao47 t124.length co47, .int .i64 t127], .int .u64 ji43, .int .i64 a0_2] (by rfl) rfl rfl (by (try simp only [List.map_toArray, List.map_cons, List.map_nil]); first | done | (simp only [hji43]; rfl) | rfl | (simp only [List.length_drop, List.length_take]; rfl)) ?_
      with_reducible refine (bits_Put.calls kj20 _ _ t124 t127 ji43 a0_2 t129 t132 _ ?side1 ?side2 A44.out).mono ?_
      (case side1 => repeat (first | exact (Kd.R_reads' HO126.out).2.2 | (with_reducible refine Kd.C_alloc ?_ _) | (with_reducible refine Kd.C_drewN ?_ _) | (with_reducible refine Kd.C_drew ?_)))
      (case side2 => exact (Kd.R_reads' HO126.out).2.1)
      rintro e w54 ⟨v130, rfl, ho0, hb⟩
      refine ⟨_, rfl, ?_⟩
      have HO131 := Aside0.mk (Kd.R_lower (Kd.R_new' ho0 (Kd.R_lt (kr HO126))) (below_size (kl HB)))
      replace HO126 := Aside0.mk (Kd.R_elder' (kr HO126) (Kd.R_base ho0) hb)
      replace BK115 := kB BK115 hb
      replace BK116 := kB BK116 hb
      replace BK117 := kB BK117 hb
      replace BK128 := kB BK128 hb
      replace HB := kH HB hb
      (try clear hb)
      (try clear hb2)
      (try clear hk)
      (try clear hi)
      (try clear ho0)
      obtain ⟨Ao55, co55, eo55⟩ := Kd.R_slice HO131.out
      (first | subst eo55 | (injection eo55 with f1_ f2_ f3_; have f4_ := f1_.symm; have f5_ := f3_.symm; clear f1_ f2_ f3_; subst f4_; subst f5_))
      refine hK.out _ _ kz (fun hHeld => ?_)
      clear hK K
      refine norm_ (a' := ?_) ?_ ?_
      rotate_left
      ·show Act.put _ (some 60) _ = _
       simp only [Act.put, List.setIfInBounds_toArray, List.set_cons_zero, List.set_cons_succ, i64_w, i32_w]
       rfl
      refine one_ (i := 13) (N := none) #[true, true, true, true, true, true, true, true, true, true, true, true, true, true, false] rfl rfl (one_of HT_.out (by kernel_rfl)) (by decide) (fun K hK => ?_)
      have hs56 : w54.cell? ⟨gb116, 0, none⟩ = some (.slice none 0 0) := (blk_cell BK116.out 0).trans rfl
      have hfs56 := blk_frozen BK116.out 0
      have hns56_0 := NB115_116.out
      have hns56_2 := NB117_116.out
      have hns56_3 := NB128_116.out
      have hms56_0 := NB116_115.out
      have hms56_2 := NB116_117.out
      have hms56_3 := NB116_128.out
      have hs57 : w54.cell? ⟨gb116, 1, none⟩ = some (.int .i64 0) := (blk_cell BK116.out 1).trans rfl
      have hfs57 := blk_frozen BK116.out 1
      refine skip_ (w1 := ?_) (by rfl) rfl ?_ ?_
      rotate_left
      ·go_simp
       rfl
      refine hK.out _ _ (ks hHeld) (fun hHeld => ?_)
      clear hK K
      refine one_ (i := 14) (N := none) #[true, true, true, true, true, true, true, true, true, true, true, true, true, true, true] rfl rfl (one_of HT_.out (by kernel_rfl)) (by decide) (fun K hK => ?_)
      have hs58 : w54.cell? ⟨gb117, 0, none⟩ = some (.int .u64 0) := (blk_cell BK117.out 0).trans rfl
      have hfs58 := blk_frozen BK117.out 0
      have hns58_0 := NB115_117.out
      have hns58_1 := NB116_117.out
      have hns58_3 := NB128_117.out
      have hms58_0 := NB117_115.out
      have hms58_1 := NB117_116.out
      have hms58_3 := NB117_128.out
      have hs59 : w54.cell? ⟨gb117, 1, none⟩ = some (.int .i64 0) := (blk_cell BK117.out 1).trans rfl
      have hfs59 := blk_frozen BK117.out 1
      have hs60 : w54.cell? ⟨gb117, 2, none⟩ = some (.int .i64 0) := (blk_cell BK117.out 2).trans rfl
      have hfs60 := blk_frozen BK117.out 2
      refine skip_ (w1 := ?_) (by rfl) rfl ?_ ?_
      rotate_left
      ·go_simp
       rfl
      refine hK.out _ _ (ks hHeld) (fun hHeld => ?_)
      clear hK K
      refine done_ (done_of HT_.out (by kernel_rfl)) ?_
      try go_wp2
      refine bodyPost_ret (results_cc rfl _ _ gb116 gb117 31 24 #[.slice Ao55 t129.length co55, .int .i64 t132] #[.int .u64 a1, .int .i64 a0_1, .int .i64 a0_2] (0, 0) (0, 0) _ _ rfl (kb BK116) Tryd.underlying31 rfl (by kernel_rfl) rfl (kb BK117) Tryd.underlying24 rfl (by kernel_rfl)) rfl ?_
      exact ⟨_, by first | rfl | (simp [errW_none, errW_some] <;> rfl) | (simp only [← hji41, ← hji43]; first | rfl | (simp [errW_none, errW_some] <;> rfl)) | (simp [*, errW_none, errW_some] <;> rfl), by (with_reducible repeat (first | apply Kd.R_alloc | apply Kd.R_drewN | apply Kd.R_drew)); exact Kd.R_mono (Kd.R_far (p := ⟨gb117, 2, none⟩) (Kd.R_far (p := ⟨gb117, 1, none⟩) (Kd.R_far (p := ⟨gb117, 0, none⟩) (Kd.R_far (p := ⟨gb116, 1, none⟩) (Kd.R_far (p := ⟨gb116, 0, none⟩) (Kd.R_types (Kd.R_types HO131.out BK116.out (by decide)) BK117.out (by decide)) (fun _ hk => hk.1.2) (.slice Ao55 t129.length co55)) (fun _ hk => hk.1.2) (.int .i64 t132)) (fun _ hk => hk.2) (.int .u64 a1)) (fun _ hk => hk.2) (.int .i64 a0_1)) (fun _ hk => hk.2) (.int .i64 a0_2)) (fun _ hk => trivial), by repeat (first | (with_reducible first | exact HB.out | apply below_alloc | apply pw_below_drewN | apply below_drew1 | refine below_set ?_ GE115.out | refine below_set ?_ GE116.out | refine below_set ?_ GE117.out | refine below_set ?_ GE128.out) | exact HB.out)⟩
     ·rw [if_neg c42] at H
      exact absurd H (by simp)
    ·replace c39 := Bool.eq_false_iff.mpr c39
     subst c39
     have H1 : ((bits_Put.f kj20 ([] : List Int) 0 3 2).bind fun bt133 => ((bits_Put.f kj20 bt133.1 bt133.2 (IntKind.u64.wrap (t122)) 6).bind fun bt138 => ((bits_Put.f kj20 bt138.1 bt138.2 (IntKind.u64.wrap (wrap64 (t123 - 1))) 6).bind fun bt142 => (if 0 ≤ (wrap64 ((wrap64 (64 - t122)) - t123)) then ((bits_Put.f kj20 bt142.1 bt142.2 (shr .u64 (Go.bits .xor .u64 a1 a0_0) (wrap64 ((wrap64 (64 - t122)) - t123))) t123).bind fun bt146 => (some (bt146.1, bt146.2, a1, t122, t123))) else (none))))) = some (r1, r2, r3, r4, r5) := by rw [if_neg (show ¬ (false = true) by decide)] at H; exact H
     clear H
     have H := H1
     clear H1
     replace H := Option.bind_eq_some_iff.mp H
     obtain ⟨⟨t133, t136⟩, A610, H⟩ := H
     replace H : ((bits_Put.f kj20 t133 t136 (IntKind.u64.wrap (t122)) 6).bind fun bt138 => ((bits_Put.f kj20 bt138.1 bt138.2 (IntKind.u64.wrap (wrap64 (t123 - 1))) 6).bind fun bt142 => (if 0 ≤ (wrap64 ((wrap64 (64 - t122)) - t123)) then ((bits_Put.f kj20 bt142.1 bt142.2 (shr .u64 (Go.bits .xor .u64 a1 a0_0) (wrap64 ((wrap64 (64 - t122)) - t123))) t123).bind fun bt146 => (some (bt146.1, bt146.2, a1, t122, t123))) else (none)))) = some (r1, r2, r3, r4, r5) := H
     have A61 := Aside0.mk A610
     clear A610
     replace H := Option.bind_eq_some_iff.mp H
     obtain ⟨⟨t138, t141⟩, A620, H⟩ := H
     replace H : ((bits_Put.f kj20 t138 t141 (IntKind.u64.wrap (wrap64 (t123 - 1))) 6).bind fun bt142 => (if 0 ≤ (wrap64 ((wrap64 (64 - t122)) - t123)) then ((bits_Put.f kj20 bt142.1 bt142.2 (shr .u64 (Go.bits .xor .u64 a1 a0_0) (wrap64 ((wrap64 (64 - t122)) - t123))) t123).bind fun bt146 => (some (bt146.1, bt146.2, a1, t122, t123))) else (none))) = some (r1, r2, r3, r4, r5) := H
     have A62 := Aside0.mk A620
     clear A620
     replace H := Option.bind_eq_some_iff.mp H
     obtain ⟨⟨t142, t145⟩, A630, H⟩ := H
     replace H : (if 0 ≤ (wrap64 ((wrap64 (64 - t122)) - t123)) then ((bits_Put.f kj20 t142 t145 (shr .u64 (Go.bits .xor .u64 a1 a0_0) (wrap64 ((wrap64 (64 - t122)) - t123))) t123).bind fun bt146 => (some (bt146.1, bt146.2, a1, t122, t123))) else (none)) = some (r1, r2, r3, r4, r5) := H
     have A63 := Aside0.mk A630
     clear A630
     obtain ⟨ji64, hji64⟩ : ∃ j_ : Int, (wrap64 ((wrap64 (64 - t122)) - t123)) = j_ := ⟨_, rfl⟩
     replace H : (if 0 ≤ (ji64) then ((bits_Put.f kj20 t142 t145 (shr .u64 (Go.bits .xor .u64 a1 a0_0) (ji64)) t123).bind fun bt146 => (some (bt146.1, bt146.2, a1, t122, t123))) else (none)) = some (r1, r2, r3, r4, r5) := by first | (rw [hji64] at H; exact H) | (simp only [hji64] at H ⊢; exact H)
     (try rw [hji64] at A61)
     (try rw [hji64] at A62)
     (try rw [hji64] at A63)
     have hji64w : (IntKind.i64.wrap ((wrap64 (64 - t122)) - t123)) = ji64 := (i64_w _).trans hji64
     by_cases c65 : 0 ≤ (ji64)
     ·rw [if_pos c65] at H
      have c65b0 := eq_true c65
      have c65b1 : decide (0 ≤ (ji64)) = true := decide_eq_true c65
      clear c65
      obtain ⟨ji66, hji66⟩ : ∃ j_ : Int, (shr .u64 (Go.bits .xor .u64 a1 a0_0) (ji64)) = j_ := ⟨_, rfl⟩
      replace H : ((bits_Put.f kj20 t142 t145 (ji66) t123).bind fun bt146 => (some (bt146.1, bt146.2, a1, t122, t123))) = some (r1, r2, r3, r4, r5) := by first | (rw [hji66] at H; exact H) | (simp only [hji66] at H ⊢; exact H)
      (try rw [hji66] at A61)
      (try rw [hji66] at A62)
      (try rw [hji66] at A63)
      have hji66_ : ((Go.bits .xor .u64 a1 a0_0) / 2 ^ min (ji64).toNat 64) = ji66 := hji66
      have hji66z : (ji64) ≤ 64 → ((Go.bits .xor .u64 a1 a0_0) / 2 ^ (ji64).toNat) = ji66 := shr_small hji66
      replace H := Option.bind_eq_some_iff.mp H
      obtain ⟨⟨t146, t149⟩, A670, H⟩ := H
      replace H : (some (t146, t149, a1, t122, t123)) = some (r1, r2, r3, r4, r5) := H
      have A67 := Aside0.mk A670
      clear A670
      simp only [Option.some.injEq, Prod.mk.injEq] at H
      obtain ⟨rfl, rfl, rfl, rfl, rfl⟩ := H
      have hnb68 := NB115_116.out
      have hnc68 := NB116_115.out
      have hnb69 := NB115_117.out
      have hnc69 := NB117_115.out
      obtain ⟨hcz70_0, hcz70_1, hcz70_2⟩ := kc3 BK115
      obtain ⟨hfz70_0, hfz70_1, hfz70_2⟩ := kf3 BK115
      try go_wp2_with (first | ((with_reducible refine gate_callee (f := 44) rfl ?_); refine goesL_ (some 67) rfl rfl Tryd.func44 (by kernel_rfl) rfl #[.agg #[.slice none 0 0, .int .i64 0], .int .u64 3, .int .i64 2] rfl km ?_; (refine (bits_Put.calls kj20 _ _ ([] : List Int) 0 3 2 t133 t136 _ ?side1 ?side2 A61.out).mono ?_); (case side1 => exact Kd.C_nil _ _); (case side2 => exact Nat.le_refl _); rintro e w71 ⟨v134, rfl, ho0, hb⟩; refine ⟨_, rfl, ?_⟩; have HO135 := Aside0.mk (Kd.R_lower ho0 (below_size (kl HB))); replace BK115 := Aside0.mk (blk_below (g := gb115) (o := .cells #[.int .u64 a1, .int .i64 t122, .int .i64 t123] 24 (0, 0)) (kb BK115) hb); replace BK116 := Aside0.mk (blk_below (g := gb116) (o := .cells #[.slice none 0 0, .int .i64 0] 31 (0, 0)) (kb BK116) hb); replace BK117 := Aside0.mk (blk_below (g := gb117) (o := .cells #[.int .u64 0, .int .i64 0, .int .i64 0] 24 (0, 0)) (kb BK117) hb); replace HB := kH HB hb; (try clear hb); (try clear hb2); (try clear hk); (try clear hi); (try clear ho0)) | ((with_reducible refine gate_dst (N := 10) rfl ?_); refine box_event ?hg (N := 10) ?hd (cs := #[.slice none 0 0, .int .i64 0]) (t := 31) ?hr ?_; (case hd => rfl); (case hg => rfl); (case hr => first | (go_simp; done) | (go_simp; rfl)); intro gb137 hg w72 hbox hb; replace HO135 := Aside0.mk (Kd.R_below (kr HO135) hb); have BK137 := Aside0.mk (hbox); have GW137 := kG hg HB; have GE137 := kG hg HB; replace HB := kH HB hb; obtain ⟨NB115_137, NB137_115⟩ := kN hg BK115; replace BK115 := kB BK115 hb; obtain ⟨NB116_137, NB137_116⟩ := kN hg BK116; replace BK116 := kB BK116 hb; obtain ⟨NB117_137, NB137_117⟩ := kN hg BK117; replace BK117 := kB BK117 hb; clear hb hbox hg; obtain ⟨Ao73, co73, eo73⟩ := Kd.R_slice HO135.out; subst eo73; have hnb74 := NB137_115.out; have hnc74 := NB115_137.out; have hnb75 := NB137_116.out; have hnc75 := NB116_137.out; have hnb76 := NB137_117.out; have hnc76 := NB117_137.out; have hcz77_0 : w72.cell? ⟨gb137, 0, none⟩ = some (.slice none 0 0) := (blk_cell BK137.out 0).trans rfl; have hcz77_1 : w72.cell? ⟨gb137, 1, none⟩ = some (.int .i64 0) := (blk_cell BK137.out 1).trans rfl; have hfz77_0 := blk_frozen BK137.out 0; have hfz77_1 := blk_frozen BK137.out 1) | ((with_reducible refine gate_callee (f := 44) rfl ?_); refine goesL_ (some 71) rfl rfl Tryd.func44 (by kernel_rfl) rfl #[.agg #[.slice Ao73 t133.length co73, .int .i64 t136], .int .u64 (IntKind.u64.wrap (t122)), .int .i64 6] rfl km ?_; (with_reducible refine (bits_Put.calls kj20 _ _ t133 t136 (IntKind.u64.wrap (t122)) 6 t138 t141 _ ?side1 ?side2 A62.out).mono ?_); (case side1 => refine (Kd.R_reads' (e := 5) (base := w.heap.size) (ok := fun k_ => True) (n := t133.length) (c := co73) ?_).2.2; exact (by (with_reducible repeat (first | apply Kd.R_alloc | apply Kd.R_drewN | apply Kd.R_drew)); exact (Kd.R_mono (Kd.R_far (p := ⟨gb137, 1, none⟩) (Kd.R_far (p := ⟨gb137, 0, none⟩) (Kd.R_types HO135.out BK137.out (by decide)) (fun _ hk => hk.2) (.slice Ao73 t133.length co73)) (fun _ hk => hk.2) (.int .i64 t136)) (fun _ h_ => h_.1)))); (case side2 => exact (Kd.R_reads' HO135.out).2.1); rintro e w78 ⟨v139, rfl, ho0, hb⟩; refine ⟨_, rfl, ?_⟩; have HO140 := Aside0.mk (Kd.R_lower (Kd.R_new' ho0 (Kd.R_lt (by (with_reducible repeat (first | apply Kd.R_alloc | apply Kd.R_drewN | apply Kd.R_drew)); exact (Kd.R_mono (Kd.R_far (p := ⟨gb137, 1, none⟩) (Kd.R_far (p := ⟨gb137, 0, none⟩) (Kd.R_types HO135.out BK137.out (by decide)) (fun _ hk => hk.2) (.slice Ao73 t133.length co73)) (fun _ hk => hk.2) (.int .i64 t136)) (fun _ h_ => h_.1))))) (below_size (kl HB))); replace HO135 := Aside0.mk (Kd.R_elder' (by (with_reducible repeat (first | apply Kd.R_alloc | apply Kd.R_drewN | apply Kd.R_drew)); exact (Kd.R_mono (Kd.R_far (p := ⟨gb137, 1, none⟩) (Kd.R_far (p := ⟨gb137, 0, none⟩) (Kd.R_types HO135.out BK137.out (by decide)) (fun _ hk => hk.2) (.slice Ao73 t133.length co73)) (fun _ hk => hk.2) (.int .i64 t136)) (fun _ h_ => h_.1))) (Kd.R_base ho0) hb); replace BK115 := Aside0.mk (blk_below (g := gb115) (o := .cells #[.int .u64 a1, .int .i64 t122, .int .i64 t123] 24 (0, 0)) (kb BK115) hb); replace BK116 := Aside0.mk (blk_below (g := gb116) (o := .cells #[.slice none 0 0, .int .i64 0] 31 (0, 0)) (kb BK116) hb); replace BK117 := Aside0.mk (blk_below (g := gb117) (o := .cells #[.int .u64 0, .int .i64 0, .int .i64 0] 24 (0, 0)) (kb BK117) hb); replace BK137 := Aside0.mk (blk_below (g := gb137) (o := .cells #[.slice Ao73 t133.length co73, .int .i64 t136] 31 (0, 0)) (kb BK137) hb); replace HB := kH HB hb; (try clear hb); (try clear hb2); (try clear hk); (try clear hi); (try clear ho0); obtain ⟨Ao79, co79, eo79⟩ := Kd.R_slice HO140.out; subst eo79) | ((with_reducible refine gate_callee (f := 44) rfl ?_); refine goesL_ (some 75) rfl rfl Tryd.func44 (by kernel_rfl) rfl #[.agg #[.slice Ao79 t138.length co79, .int .i64 t141], .int .u64 (IntKind.u64.wrap (wrap64 (t123 - 1))), .int .i64 6] rfl km ?_; (with_reducible refine (bits_Put.calls kj20 _ _ t138 t141 (IntKind.u64.wrap (wrap64 (t123 - 1))) 6 t142 t145 _ ?side1 ?side2 A63.out).mono ?_); (case side1 => repeat (first | exact (Kd.R_reads' HO140.out).2.2 | (with_reducible refine Kd.C_alloc ?_ _) | (with_reducible refine Kd.C_drewN ?_ _) | (with_reducible refine Kd.C_drew ?_))); (case side2 => exact (Kd.R_reads' HO140.out).2.1); rintro e w80 ⟨v143, rfl, ho0, hb⟩; refine ⟨_, rfl, ?_⟩; have HO144 := Aside0.mk (Kd.R_lower (Kd.R_new' (Kd.R_new' ho0 (Kd.R_lt (kr HO135))) (Kd.R_lt (kr HO140))) (below_size (kl HB))); replace HO135 := Aside0.mk (Kd.R_elder' (kr HO135) (Kd.R_base ho0) hb); replace HO140 := Aside0.mk (Kd.R_elder' (kr HO140) (Kd.R_base ho0) hb); replace BK115 := kB BK115 hb; replace BK116 := kB BK116 hb; replace BK117 := kB BK117 hb; replace BK137 := kB BK137 hb; replace HB := kH HB hb; (try clear hb); (try clear hb2); (try clear hk); (try clear hi); (try clear ho0); obtain ⟨Ao81, co81, eo81⟩ := Kd.R_slice HO144.out; subst eo81; have hcz82_0 : w80.cell? ⟨gb137, 0, none⟩ = some (.slice Ao73 t133.length co73) := (blk_cell BK137.out 0).trans rfl; have hcz82_1 : w80.cell? ⟨gb137, 1, none⟩ = some (.int .i64 t136) := (blk_cell BK137.out 1).trans rfl; have hfz82_0 := blk_frozen BK137.out 0; have hfz82_1 := blk_frozen BK137.out 1))
      have n0_ : Aside0 (Kd.R (Kd.int .u8) 5 ((w80.setCell ⟨gb137, 0, none⟩ (.slice Ao81 t142.length co81)).setCell ⟨gb137, 1, none⟩ (.int .i64 t145)) w.heap.size (fun k_ => some k_ ≠ (.slice Ao79 t138.length co79 : Value).ownBlock ∧ some k_ ≠ (.slice Ao81 t142.length co81 : Value).ownBlock) (.slice Ao73 t133.length co73) t133) := ⟨by (with_reducible repeat (first | apply Kd.R_alloc | apply Kd.R_drewN | apply Kd.R_drew)); exact Kd.R_mono (Kd.R_far (p := ⟨gb137, 1, none⟩) (Kd.R_far (p := ⟨gb137, 0, none⟩) (Kd.R_types HO135.out BK137.out (by decide)) (fun _ hk => hk.2) (.slice Ao81 t142.length co81)) (fun _ hk => hk.2) (.int .i64 t145)) (fun _ hk => ⟨hk.1.1.2, hk.1.2⟩)⟩
      have n1_ : Aside0 (Kd.R (Kd.int .u8) 5 ((w80.setCell ⟨gb137, 0, none⟩ (.slice Ao81 t142.length co81)).setCell ⟨gb137, 1, none⟩ (.int .i64 t145)) w.heap.size (fun k_ => some k_ ≠ (.slice Ao73 t133.length co73 : Value).ownBlock ∧ some k_ ≠ (.slice Ao81 t142.length co81 : Value).ownBlock) (.slice Ao79 t138.length co79) t138) := ⟨by (with_reducible repeat (first | apply Kd.R_alloc | apply Kd.R_drewN | apply Kd.R_drew)); exact Kd.R_mono (Kd.R_far (p := ⟨gb137, 1, none⟩) (Kd.R_far (p := ⟨gb137, 0, none⟩) (Kd.R_types HO140.out BK137.out (by decide)) (fun _ hk => hk.2) (.slice Ao81 t142.length co81)) (fun _ hk => hk.2) (.int .i64 t145)) (fun _ hk => ⟨hk.1.1.2, hk.1.2⟩)⟩
      have n2_ : Aside0 (Kd.R (Kd.int .u8) 5 ((w80.setCell ⟨gb137, 0, none⟩ (.slice Ao81 t142.length co81)).setCell ⟨gb137, 1, none⟩ (.int .i64 t145)) w.heap.size (fun k_ => some k_ ≠ (.slice Ao73 t133.length co73 : Value).ownBlock ∧ some k_ ≠ (.slice Ao79 t138.length co79 : Value).ownBlock) (.slice Ao81 t142.length co81) t142) := ⟨by (with_reducible repeat (first | apply Kd.R_alloc | apply Kd.R_drewN | apply Kd.R_drew)); exact Kd.R_mono (Kd.R_far (p := ⟨gb137, 1, none⟩) (Kd.R_far (p := ⟨gb137, 0, none⟩) (Kd.R_types HO144.out BK137.out (by decide)) (fun _ hk => hk.2) (.slice Ao81 t142.length co81)) (fun _ hk => hk.2) (.int .i64 t145)) (fun _ hk => ⟨hk.1.1.2, hk.1.2⟩)⟩
      have n3_ : Aside0 (((w80.setCell ⟨gb137, 0, none⟩ (.slice Ao81 t142.length co81)).setCell ⟨gb137, 1, none⟩ (.int .i64 t145)).heap[gb115]? = some (.cells #[.int .u64 a1, .int .i64 t122, .int .i64 t123] 24 (0, 0))) := ⟨by (with_reducible repeat (first | refine blk_drewN ?_ _ | refine blk_drew ?_ | refine blk_alloc ?_ _)); refine blk_far ?_ NB115_137.out _; (with_reducible repeat (first | refine blk_drewN ?_ _ | refine blk_drew ?_ | refine blk_alloc ?_ _)); refine blk_far ?_ NB115_137.out _; (with_reducible repeat (first | refine blk_drewN ?_ _ | refine blk_drew ?_ | refine blk_alloc ?_ _)); exact BK115.out⟩
      have n4_ : Aside0 (((w80.setCell ⟨gb137, 0, none⟩ (.slice Ao81 t142.length co81)).setCell ⟨gb137, 1, none⟩ (.int .i64 t145)).heap[gb116]? = some (.cells #[.slice none 0 0, .int .i64 0] 31 (0, 0))) := ⟨by (with_reducible repeat (first | refine blk_drewN ?_ _ | refine blk_drew ?_ | refine blk_alloc ?_ _)); refine blk_far ?_ NB116_137.out _; (with_reducible repeat (first | refine blk_drewN ?_ _ | refine blk_drew ?_ | refine blk_alloc ?_ _)); refine blk_far ?_ NB116_137.out _; (with_reducible repeat (first | refine blk_drewN ?_ _ | refine blk_drew ?_ | refine blk_alloc ?_ _)); exact BK116.out⟩
      have n5_ : Aside0 (((w80.setCell ⟨gb137, 0, none⟩ (.slice Ao81 t142.length co81)).setCell ⟨gb137, 1, none⟩ (.int .i64 t145)).heap[gb117]? = some (.cells #[.int .u64 0, .int .i64 0, .int .i64 0] 24 (0, 0))) := ⟨by (with_reducible repeat (first | refine blk_drewN ?_ _ | refine blk_drew ?_ | refine blk_alloc ?_ _)); refine blk_far ?_ NB117_137.out _; (with_reducible repeat (first | refine blk_drewN ?_ _ | refine blk_drew ?_ | refine blk_alloc ?_ _)); refine blk_far ?_ NB117_137.out _; (with_reducible repeat (first | refine blk_drewN ?_ _ | refine blk_drew ?_ | refine blk_alloc ?_ _)); exact BK117.out⟩
      have n6_ : Aside0 (((w80.setCell ⟨gb137, 0, none⟩ (.slice Ao81 t142.length co81)).setCell ⟨gb137, 1, none⟩ (.int .i64 t145)).heap[gb137]? = some (.cells #[.slice Ao81 t142.length co81, .int .i64 t145] 31 (0, 0))) := ⟨by (with_reducible repeat (first | refine blk_drewN ?_ _ | refine blk_drew ?_ | refine blk_alloc ?_ _)); refine blk_put (cs := #[.slice Ao81 t142.length co81, .int .i64 t136]) ?_ 1 _ rfl; (with_reducible repeat (first | refine blk_drewN ?_ _ | refine blk_drew ?_ | refine blk_alloc ?_ _)); refine blk_put (cs := #[.slice Ao73 t133.length co73, .int .i64 t136]) ?_ 0 _ rfl; (with_reducible repeat (first | refine blk_drewN ?_ _ | refine blk_drew ?_ | refine blk_alloc ?_ _)); exact BK137.out⟩
      have n7_ : Aside0 (Below w.heap.size w ((w80.setCell ⟨gb137, 0, none⟩ (.slice Ao81 t142.length co81)).setCell ⟨gb137, 1, none⟩ (.int .i64 t145))) := ⟨by repeat (first | (with_reducible first | exact HB.out | apply below_alloc | apply pw_below_drewN | apply below_drew1 | refine below_set ?_ GE115.out | refine below_set ?_ GE116.out | refine below_set ?_ GE117.out | refine below_set ?_ GE137.out) | exact HB.out)⟩
      (try clear HO135)
      (try clear HO140)
      (try clear HO144)
      (try clear BK115)
      (try clear BK116)
      (try clear BK117)
      (try clear BK137)
      (try clear HB)
      generalize ((w80.setCell ⟨gb137, 0, none⟩ (.slice Ao81 t142.length co81)).setCell ⟨gb137, 1, none⟩ (.int .i64 t145)) = w83 at n0_ n1_ n2_ n3_ n4_ n5_ n6_ n7_ ⊢
      have HO135 := n0_
      have HO140 := n1_
      have HO144 := n2_
      have BK115 := n3_
      have BK116 := n4_
      have BK117 := n5_
      have BK137 := n6_
      have HB := n7_
      clear n0_ n1_ n2_ n3_ n4_ n5_ n6_ n7_
      replace HO135 := Aside0.mk (Kd.R_drew HO135.out)
      replace HO140 := Aside0.mk (Kd.R_drew HO140.out)
      replace HO144 := Aside0.mk (Kd.R_drew HO144.out)
      replace BK115 := Aside0.mk (blk_drew BK115.out)
      replace BK116 := Aside0.mk (blk_drew BK116.out)
      replace BK117 := Aside0.mk (blk_drew BK117.out)
      replace BK137 := Aside0.mk (blk_drew BK137.out)
      replace HB := Aside0.mk (below_drew1 HB.out)
      refine start_ (n := 12) (S := fun w' => w'.cell? ⟨gb137, 0, none⟩ = some (.slice Ao81 t142.length co81) ∧ w'.cell? ⟨gb137, 1, none⟩ = some (.int .i64 t145) ∧ w'.cell? ⟨gb115, 0, none⟩ = some (.int .u64 a1) ∧ w'.cell? ⟨gb115, 1, none⟩ = some (.int .i64 t122) ∧ w'.cell? ⟨gb115, 2, none⟩ = some (.int .i64 t123)) (ds := []) (bl 12 0) (by kernel_rfl) rfl rfl kz (fun hHeld => ?_); refine with_tabW xor_Code.tab12 xor_Code.bits12 (fun HT_ HW_ => ?_)
      generalize w83.drew = w84 at HO135 HO140 HO144 BK115 BK116 BK117 BK137 HB hHeld ⊢
      refine pu 1 (some 77) (bl 12 2) (h := ?_)
      refine pu 2 (some 78) (bl 12 6) (h := ?_)
      refine pu 3 (some 79) (bl 12 14) (h := ?_)
      refine pu 4 (some 80) (bl 12 30) (h := ?_)
      refine pu 5 (some 81) (bl 12 62) (h := ?_)
      refine pu 6 (some 82) (bl 12 126) (h := ?_)
      refine pu 7 (some 83) (bl 12 254) (h := ?_)
      refine ta 0 (some 76) (bl 12 255) (h := ?_)
      refine ta 9 (some 85) (bl 12 767) (h := ?_)
      refine one_ (i := 8) (N := some 84) #[true, true, true, true, true, true, true, true, true, true, false, false] rfl rfl (one_of HT_.out (by kernel_rfl)) (by decide) (fun K hK => ?_)
      refine goes_ Tryd.func44 (by kernel_rfl) rfl #[.agg #[.slice Ao81 t142.length co81, .int .i64 t145], .int .u64 ji66, .int .i64 t123] (by rfl) rfl rfl (by (try simp only [List.map_toArray, List.map_cons, List.map_nil]); first | done | (simp only [hji66]; rfl) | rfl | (simp only [List.length_drop, List.length_take]; rfl)) ?_
      with_reducible refine (bits_Put.calls kj20 _ _ t142 t145 ji66 t123 t146 t149 _ ?side1 ?side2 A67.out).mono ?_
      (case side1 => repeat (first | exact (Kd.R_reads' HO144.out).2.2 | (with_reducible refine Kd.C_alloc ?_ _) | (with_reducible refine Kd.C_drewN ?_ _) | (with_reducible refine Kd.C_drew ?_)))
      (case side2 => exact (Kd.R_reads' HO144.out).2.1)
      rintro e w85 ⟨v147, rfl, ho0, hb⟩
      refine ⟨_, rfl, ?_⟩
      have HO148 := Aside0.mk (Kd.R_lower (Kd.R_new' (Kd.R_new' (Kd.R_new' ho0 (Kd.R_lt (kr HO135))) (Kd.R_lt (kr HO140))) (Kd.R_lt (kr HO144))) (below_size (kl HB)))
      replace HO135 := Aside0.mk (Kd.R_elder' (kr HO135) (Kd.R_base ho0) hb)
      replace HO140 := Aside0.mk (Kd.R_elder' (kr HO140) (Kd.R_base ho0) hb)
      replace HO144 := Aside0.mk (Kd.R_elder' (kr HO144) (Kd.R_base ho0) hb)
      replace BK115 := kB BK115 hb
      replace BK116 := kB BK116 hb
      replace BK117 := kB BK117 hb
      replace BK137 := kB BK137 hb
      replace HB := kH HB hb
      (try clear hb)
      (try clear hb2)
      (try clear hk)
      (try clear hi)
      (try clear ho0)
      obtain ⟨Ao86, co86, eo86⟩ := Kd.R_slice HO148.out
      (first | subst eo86 | (injection eo86 with f1_ f2_ f3_; have f4_ := f1_.symm; have f5_ := f3_.symm; clear f1_ f2_ f3_; subst f4_; subst f5_))
      refine hK.out _ _ kz (fun hHeld => ?_)
      clear hK K
      refine norm_ (a' := ?_) ?_ ?_
      rotate_left
      ·show Act.put _ (some 84) _ = _
       simp only [Act.put, List.setIfInBounds_toArray, List.set_cons_zero, List.set_cons_succ, i64_w, i32_w]
       rfl
      refine one_ (i := 10) (N := none) #[true, true, true, true, true, true, true, true, true, true, true, false] rfl rfl (one_of HT_.out (by kernel_rfl)) (by decide) (fun K hK => ?_)
      have hs87 : w85.cell? ⟨gb116, 0, none⟩ = some (.slice none 0 0) := (blk_cell BK116.out 0).trans rfl
      have hfs87 := blk_frozen BK116.out 0
      have hns87_0 := NB115_116.out
      have hns87_2 := NB117_116.out
      have hns87_3 := NB137_116.out
      have hms87_0 := NB116_115.out
      have hms87_2 := NB116_117.out
      have hms87_3 := NB116_137.out
      have hs88 : w85.cell? ⟨gb116, 1, none⟩ = some (.int .i64 0) := (blk_cell BK116.out 1).trans rfl
      have hfs88 := blk_frozen BK116.out 1
      refine skip_ (w1 := ?_) (by rfl) rfl ?_ ?_
      rotate_left
      ·go_simp
       rfl
      refine hK.out _ _ (ks hHeld) (fun hHeld => ?_)
      clear hK K
      refine one_ (i := 11) (N := none) #[true, true, true, true, true, true, true, true, true, true, true, true] rfl rfl (one_of HT_.out (by kernel_rfl)) (by decide) (fun K hK => ?_)
      have hs89 : w85.cell? ⟨gb117, 0, none⟩ = some (.int .u64 0) := (blk_cell BK117.out 0).trans rfl
      have hfs89 := blk_frozen BK117.out 0
      have hns89_0 := NB115_117.out
      have hns89_1 := NB116_117.out
      have hns89_3 := NB137_117.out
      have hms89_0 := NB117_115.out
      have hms89_1 := NB117_116.out
      have hms89_3 := NB117_137.out
      have hs90 : w85.cell? ⟨gb117, 1, none⟩ = some (.int .i64 0) := (blk_cell BK117.out 1).trans rfl
      have hfs90 := blk_frozen BK117.out 1
      have hs91 : w85.cell? ⟨gb117, 2, none⟩ = some (.int .i64 0) := (blk_cell BK117.out 2).trans rfl
      have hfs91 := blk_frozen BK117.out 2
      refine skip_ (w1 := ?_) (by rfl) rfl ?_ ?_
      rotate_left
      ·go_simp
       rfl
      refine hK.out _ _ (ks hHeld) (fun hHeld => ?_)
      clear hK K
      refine done_ (done_of HT_.out (by kernel_rfl)) ?_
      try go_wp2
      refine bodyPost_ret (results_cc rfl _ _ gb116 gb117 31 24 #[.slice Ao86 t146.length co86, .int .i64 t149] #[.int .u64 a1, .int .i64 t122, .int .i64 t123] (0, 0) (0, 0) _ _ rfl (kb BK116) Tryd.underlying31 rfl (by kernel_rfl) rfl (kb BK117) Tryd.underlying24 rfl (by kernel_rfl)) rfl ?_
      exact ⟨_, by first | rfl | (simp [errW_none, errW_some] <;> rfl) | (simp only [← hji64, ← hji66]; first | rfl | (simp [errW_none, errW_some] <;> rfl)) | (simp [*, errW_none, errW_some] <;> rfl), by (with_reducible repeat (first | apply Kd.R_alloc | apply Kd.R_drewN | apply Kd.R_drew)); exact Kd.R_mono (Kd.R_far (p := ⟨gb117, 2, none⟩) (Kd.R_far (p := ⟨gb117, 1, none⟩) (Kd.R_far (p := ⟨gb117, 0, none⟩) (Kd.R_far (p := ⟨gb116, 1, none⟩) (Kd.R_far (p := ⟨gb116, 0, none⟩) (Kd.R_types (Kd.R_types HO148.out BK116.out (by decide)) BK117.out (by decide)) (fun _ hk => hk.1.2) (.slice Ao86 t146.length co86)) (fun _ hk => hk.1.2) (.int .i64 t149)) (fun _ hk => hk.2) (.int .u64 a1)) (fun _ hk => hk.2) (.int .i64 t122)) (fun _ hk => hk.2) (.int .i64 t123)) (fun _ hk => trivial), by repeat (first | (with_reducible first | exact HB.out | apply below_alloc | apply pw_below_drewN | apply below_drew1 | refine below_set ?_ GE115.out | refine below_set ?_ GE116.out | refine below_set ?_ GE117.out | refine below_set ?_ GE137.out) | exact HB.out)⟩
     ·rw [if_neg c65] at H
      exact absurd H (by simp)

end Go.Proofs.YtiahbcaoikoogaaDoor.All
