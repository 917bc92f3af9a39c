-- written by a program of the session out of the translation; Lean checks it
import Derived.Test.YtiahbcaoikoogaaDoorAllx0
import Derived.Test.YtiahbcaoikoogaaDoorAllx15
import Derived.Test.YtiahbcaoikoogaaDoorAllx16
namespace Go.Proofs.YtiahbcaoikoogaaDoor.All
open Go.RowKit Go.Proofs.YtiahbcaoikoogaaDoorW.PrintWords Go.Proofs.YtiahbcaoikoogaaDoorW.PrintLast Go.Proofs.YtiahbcaoikoogaaDoorW.PrintMore
attribute [local go_sem] max2_int min2_int max_two min_two max_three min_three max_four min_four   -- for this text's walks alone
set_option linter.unusedVariables false
set_option linter.unusedSimpArgs false

/-! ### gaiterref01_GetXor: function 17 -/
mutual
def gaiterref01_GetXor.j0 : Nat → List Int → Int → Int → Int → Int → Int → Int → Option (Int × Int × Int × Int × Int × Int)
 | 0, _, _, _, _, _, _, _ => none
 | k + 1, x1, x8, x9, x10, x303000, x303001, x303002 => if x9 = 0 then (gaiterref01_GetXor.j1 k x1 x8 x9 x10 true x303000 x303001 x303002) else (gaiterref01_GetXor.j1 k x1 x8 x9 x10 (decide ((wrap64 (x8 + x9)) > 64)) x303000 x303001 x303002)
def gaiterref01_GetXor.j1 : Nat → List Int → Int → Int → Int → Bool → Int → Int → Int → Option (Int × Int × Int × Int × Int × Int)
 | 0, _, _, _, _, _, _, _, _ => none
 | k + 1, x1, x8, x9, x10, x58, x303000, x303001, x303002 => if x58 = true then (some (0, 0, 0, 0, 0, 3)) else (if (x1.length : Int) < (wrap64 (x10 + x9)) then (some (0, 0, 0, 0, 0, 2)) else (if 0 ≤ x8 then (if (x8 : Int).toNat ≤ 281474976710656 then ((some (List.replicate (x8 : Int).toNat 0 : List Int)).bind fun y310 => (if 0 ≤ x10 then (if x10 ≤ (wrap64 (x10 + x9)) then (if (wrap64 (x10 + x9)) ≤ (x1.length : Int) then (if y310.length + ((x1.take ((wrap64 (x10 + x9)) : Int).toNat).drop (x10 : Int).toNat).length < 140737488355328 then ((some (y310 ++ ((x1.take ((wrap64 (x10 + x9)) : Int).toNat).drop (x10 : Int).toNat) : List Int)).bind fun y314 => (if 0 ≤ (wrap64 ((wrap64 (64 - x8)) - x9)) then (if y314.length + (wrap64 ((wrap64 (64 - x8)) - x9) : Int).toNat < 140737488355328 then ((gaiterref01_Number.f k (y314 ++ List.replicate (wrap64 ((wrap64 (64 - x8)) - x9) : Int).toNat 0)).bind fun t320 => ((gaiterref01_Code.f k x303000 x303001 x303002 (Go.bits .xor .u64 x303000 t320)).bind fun bt321 => (if (bt321.1.length : Int) = (wrap64 (x10 + x9)) then (if 0 ≤ (wrap64 (x10 + x9)) then (if (strOfNums bt321.1).toList = (strOfNums (x1.take ((wrap64 (x10 + x9)) : Int).toNat)).toList then (some (Go.bits .xor .u64 x303000 t320, bt321.2.1, bt321.2.2.1, bt321.2.2.2, (bt321.1.length : Int), 0)) else (some (0, 0, 0, 0, 0, 3))) else (none)) else (some (0, 0, 0, 0, 0, 3))))) else (none)) else (none))) else (none)) else (none)) else (none)) else (none))) else (none)) else (none)))
end
def gaiterref01_GetXor.f (k : Nat) (a0_0 : Int) (a0_1 : Int) (a0_2 : Int) (l1 : List Int) : Option (Int × Int × Int × Int × Int × Int) := if (l1.length : Int) = 0 then (some (0, 0, 0, 0, 0, 2)) else (if 0 < (l1.length : Int) then (if (rd l1 0) = 0 then (some (a0_0, a0_0, a0_1, a0_2, 1, 0)) else (if (l1.length : Int) = 1 then (some (0, 0, 0, 0, 0, 2)) else (if 1 < (l1.length : Int) then (if (rd l1 1) = 1 then (if (l1.length : Int) < 14 then (some (0, 0, 0, 0, 0, 2)) else (if 2 ≤ 8 then (if 8 ≤ (l1.length : Int) then ((gaiterref01_Number.f k ((l1.take 8).drop 2)).bind fun t307 => (if 8 ≤ 14 then (if 14 ≤ (l1.length : Int) then ((gaiterref01_Number.f k ((l1.take 14).drop 8)).bind fun t309 => (gaiterref01_GetXor.j0 k l1 (wrap64 (t307)) (wrap64 ((wrap64 (t309)) + 1)) 14 a0_0 a0_1 a0_2)) else (none)) else (none))) else (none)) else (none))) else (gaiterref01_GetXor.j0 k l1 a0_1 a0_2 2 a0_0 a0_1 a0_2)) else (none)))) else (none))
theorem gaiterref01_GetXor.mono_l : ∀ k, (∀ y0 y1 y2 y3 y4 y5 y6, LeO (gaiterref01_GetXor.j0 k y0 y1 y2 y3 y4 y5 y6) (gaiterref01_GetXor.j0 (k + 1) y0 y1 y2 y3 y4 y5 y6)) ∧ (∀ y0 y1 y2 y3 y4 y5 y6 y7, LeO (gaiterref01_GetXor.j1 k y0 y1 y2 y3 y4 y5 y6 y7) (gaiterref01_GetXor.j1 (k + 1) y0 y1 y2 y3 y4 y5 y6 y7))
 | 0 => ⟨fun _ _ _ _ _ _ _ r h => by simp [gaiterref01_GetXor.j0] at h, fun _ _ _ _ _ _ _ _ r h => by simp [gaiterref01_GetXor.j1] at h⟩
 | k + 1 => by
  obtain ⟨ih0, ih1⟩ := gaiterref01_GetXor.mono_l k
  refine ⟨?_, ?_⟩
  ·intro y0 y1 y2 y3 y4 y5 y6
   unfold gaiterref01_GetXor.j0
   repeat' first
   | (with_reducible exact ih0 _ _ _ _ _ _ _)
   | (with_reducible exact ih1 _ _ _ _ _ _ _ _)
   | (with_reducible exact gaiterref01_Code.mono _ _ _ _ _)
   | (with_reducible exact gaiterref01_Number.mono _ _)
   | (with_reducible exact LeO.refl _)
   | (with_reducible exact LeO.none _)
   | (with_reducible refine LeO.ite ?_ ?_)
   | (with_reducible refine LeO.bind ?_ (fun _ => ?_))
   | exact ih0 _ _ _ _ _ _ _
   | exact ih1 _ _ _ _ _ _ _ _
   | exact gaiterref01_Code.mono _ _ _ _ _
   | exact gaiterref01_Number.mono _ _
   | exact LeO.none _
   | refine LeO.ite ?_ ?_
   | refine LeO.bind ?_ (fun _ => ?_)
  ·intro y0 y1 y2 y3 y4 y5 y6 y7
   unfold gaiterref01_GetXor.j1
   repeat' first
   | (with_reducible exact ih0 _ _ _ _ _ _ _)
   | (with_reducible exact ih1 _ _ _ _ _ _ _ _)
   | (with_reducible exact gaiterref01_Code.mono _ _ _ _ _)
   | (with_reducible exact gaiterref01_Number.mono _ _)
   | (with_reducible exact LeO.refl _)
   | (with_reducible exact LeO.none _)
   | (with_reducible refine LeO.ite ?_ ?_)
   | (with_reducible refine LeO.bind ?_ (fun _ => ?_))
   | exact ih0 _ _ _ _ _ _ _
   | exact ih1 _ _ _ _ _ _ _ _
   | exact gaiterref01_Code.mono _ _ _ _ _
   | exact gaiterref01_Number.mono _ _
   | exact LeO.none _
   | refine LeO.ite ?_ ?_
   | refine LeO.bind ?_ (fun _ => ?_)
theorem gaiterref01_GetXor.mono : ∀ a0 a1 a2 a3 k, LeO (gaiterref01_GetXor.f k a0 a1 a2 a3) (gaiterref01_GetXor.f (k + 1) a0 a1 a2 a3) := by
 intro a0 a1 a2 a3 k
 obtain ⟨ih0, ih1⟩ := gaiterref01_GetXor.mono_l k
 unfold gaiterref01_GetXor.f
 repeat' first
   | (with_reducible exact ih0 _ _ _ _ _ _ _)
   | (with_reducible exact ih1 _ _ _ _ _ _ _ _)
   | (with_reducible exact gaiterref01_Code.mono _ _ _ _ _)
   | (with_reducible exact gaiterref01_Number.mono _ _)
   | (with_reducible exact LeO.refl _)
   | (with_reducible exact LeO.none _)
   | (with_reducible refine LeO.ite ?_ ?_)
   | (with_reducible refine LeO.bind ?_ (fun _ => ?_))
   | exact ih0 _ _ _ _ _ _ _
   | exact ih1 _ _ _ _ _ _ _ _
   | exact gaiterref01_Code.mono _ _ _ _ _
   | exact gaiterref01_Number.mono _ _
   | exact LeO.none _
   | refine LeO.ite ?_ ?_
   | refine LeO.bind ?_ (fun _ => ?_)
def gaiterref01_GetXor.T20 : Bool × List (List Nat × List Nat) := (true, [([], []), ([0, 0], [0]), ([], []), ([], []), ([], []), ([], []), ([4, 5], [4, 5]), ([2, 3, 6], [2, 3, 6]), ([1, 7], [1, 7]), ([8, 8, 0, 1, 2, 3, 4, 5, 6, 7, 8], [8])])
def gaiterref01_GetXor.B20 : List Nat := [0, 1, 0, 0, 0, 0, 48, 124, 255, 511]
theorem gaiterref01_GetXor.tab20 : rtab .any (opsOf Tryd.f17 20) = gaiterref01_GetXor.T20 := by kernel_rfl
theorem gaiterref01_GetXor.bits20 : waitsOk gaiterref01_GetXor.T20.2 gaiterref01_GetXor.B20 = true := by kernel_rfl
def gaiterref01_GetXor.T24 : Bool × List (List Nat × List Nat) := (true, [([], []), ([0], [0]), ([], []), ([], []), ([2, 3], [2, 3]), ([1, 4], [1, 4]), ([5], [5]), ([6], [6]), ([7, 6], [6, 7]), ([6], [6]), ([6], [6]), ([6], [6]), ([10, 11, 6], [6, 10, 11]), ([9, 12, 6], [6, 9, 12]), ([13, 6], [6, 13]), ([8, 14, 6], [6, 8, 14]), ([6, 15], [6, 15])])
def gaiterref01_GetXor.B24 : List Nat := [0, 1, 0, 0, 12, 31, 63, 127, 255, 127, 127, 127, 3199, 7807, 15999, 32767, 65535]
theorem gaiterref01_GetXor.tab24 : rtab .any (opsOf Tryd.f17 24) = gaiterref01_GetXor.T24 := by kernel_rfl
theorem gaiterref01_GetXor.bits24 : waitsOk gaiterref01_GetXor.T24.2 gaiterref01_GetXor.B24 = true := by kernel_rfl
def gaiterref01_GetXor.T26 : Bool × List (List Nat × List Nat) := (true, [([], []), ([], []), ([], []), ([2], [2]), ([0, 0], [0]), ([1, 4, 0, 1, 4], [1]), ([3, 5, 0, 1, 2, 3, 4, 5], [3]), ([6, 0, 1, 2, 3, 4, 5, 6], [])])
def gaiterref01_GetXor.B26 : List Nat := [0, 0, 0, 4, 1, 19, 63, 127]
theorem gaiterref01_GetXor.tab26 : rtab .any (opsOf Tryd.f17 26) = gaiterref01_GetXor.T26 := by kernel_rfl
theorem gaiterref01_GetXor.bits26 : waitsOk gaiterref01_GetXor.T26.2 gaiterref01_GetXor.B26 = true := by kernel_rfl
set_option maxHeartbeats 8000000 in
set_option maxRecDepth 100000 in
theorem gaiterref01_GetXor.calls (k : Nat) (a0_0 : Int) (a0_1 : Int) (a0_2 : Int) (A1 : Option Addr) (c1 : Nat) (l1 : List Int) (r1 : Int) (r2 : Int) (r3 : Int) (r4 : Int) (r5 : Int) (r6 : Int) (w : World) (hr1 : Kd.C (Kd.int .u8) w A1 l1.length l1) (hc1 : l1.length ≤ c1) (h : gaiterref01_GetXor.f k a0_0 a0_1 a0_2 l1 = some (r1, r2, r3, r4, r5, r6)) :
  Calls Tryd.prog 17 #[.agg #[.int .u64 a0_0, .int .i64 a0_1, .int .i64 a0_2], .slice A1 l1.length c1] w fun e w' => e = .returned (.tuple #[.int .u64 r1, .agg #[.int .u64 r2, .int .i64 r3, .int .i64 r4], .int .i64 r5, .int .i64 r6]) ∧ Below w.heap.size w w' := by
 have hu27 := Tryd.underlying27
 have HR1 := Aside0.mk hr1
 have HC1 := Aside0.mk hc1
 clear hr1 hc1
 have HB := Aside0.mk (Below.refl w.heap.size w)
 have H : (if (l1.length : Int) = 0 then (some (0, 0, 0, 0, 0, 2)) else (if 0 < (l1.length : Int) then (if (rd l1 0) = 0 then (some (a0_0, a0_0, a0_1, a0_2, 1, 0)) else (if (l1.length : Int) = 1 then (some (0, 0, 0, 0, 0, 2)) else (if 1 < (l1.length : Int) then (if (rd l1 1) = 1 then (if (l1.length : Int) < 14 then (some (0, 0, 0, 0, 0, 2)) else (if 2 ≤ 8 then (if 8 ≤ (l1.length : Int) then ((gaiterref01_Number.f k ((l1.take 8).drop 2)).bind fun t307 => (if 8 ≤ 14 then (if 14 ≤ (l1.length : Int) then ((gaiterref01_Number.f k ((l1.take 14).drop 8)).bind fun t309 => (gaiterref01_GetXor.j0 k l1 (wrap64 (t307)) (wrap64 ((wrap64 (t309)) + 1)) 14 a0_0 a0_1 a0_2)) else (none)) else (none))) else (none)) else (none))) else (gaiterref01_GetXor.j0 k l1 a0_1 a0_2 2 a0_0 a0_1 a0_2)) else (none)))) else (none))) = some (r1, r2, r3, r4, r5, r6) := h
 clear h
 by_cases c3 : (l1.length : Int) = 0
 ·rw [if_pos c3] at H
  have c3b0 : ((l1.length : Int) == 0) = true := beq_iff_eq.mpr c3
  have c3b1 : ((l1.length : Int) != 0) = false := bne_eq_false_iff_eq.mpr c3
  clear c3
  simp only [Option.some.injEq, Prod.mk.injEq] at H
  obtain ⟨rfl, rfl, rfl, rfl, rfl, rfl⟩ := H
  go_enter Tryd.func17, Tryd.ntmps17
  go_wp2_with (first | ((with_reducible refine gate_dst (N := 2) rfl ?_); refine box_event ?hg (N := 2) ?hd (cs := #[.int .u64 a0_0, .int .i64 a0_1, .int .i64 a0_2]) (t := 27) ?hr ?_; (case hd => rfl); (case hg => rfl); (case hr => first | (go_simp; done) | (go_simp; rfl)); intro gb302 hg w4 hbox hb; have BK302 := Aside0.mk (hbox); have GW302 := kG hg HB; have GE302 := kG hg HB; replace HB := kH HB hb; clear hb hbox hg) | ((with_reducible refine gate_dst (N := 5) rfl ?_); refine box_event ?hg (N := 5) ?hd (cs := #[.int .u64 0, .int .i64 0, .int .i64 0]) (t := 27) ?hr ?_; (case hd => rfl); (case hg => rfl); (case hr => first | (go_simp; done) | (go_simp; rfl)); intro gb303 hg w5 hbox hb; have BK303 := Aside0.mk (hbox); have GW303 := kG hg HB; have GE303 := kG hg HB; replace HB := kH HB hb; obtain ⟨NB302_303, NB303_302⟩ := kN hg BK302; replace BK302 := kB BK302 hb; clear hb hbox hg; have hnb6 := NB303_302.out; have hnc6 := NB302_303.out; have hcz7_0 : w5.cell? ⟨gb303, 0, none⟩ = some (.int .u64 0) := (blk_cell BK303.out 0).trans rfl; have hcz7_1 : w5.cell? ⟨gb303, 1, none⟩ = some (.int .i64 0) := (blk_cell BK303.out 1).trans rfl; have hcz7_2 : w5.cell? ⟨gb303, 2, none⟩ = some (.int .i64 0) := (blk_cell BK303.out 2).trans rfl; have hfz7_0 := blk_frozen BK303.out 0; have hfz7_1 := blk_frozen BK303.out 1; have hfz7_2 := blk_frozen BK303.out 2))
  refine bodyPost_ret (results_list (rs := [.tmp 4, .cell 5 27, .tmp 6, .tmp 7]) rfl (by simp) (.tmp (.cell gb303 27 #[.int .u64 0, .int .i64 0, .int .i64 0] (0, 0) _ rfl (kb BK303) Tryd.underlying27 rfl (by kernel_rfl) (.tmp (.tmp .nil))))) rfl ?_
  exact ⟨by first | rfl | (simp [errW_none, errW_some] <;> rfl) | (simp [*, errW_none, errW_some] <;> rfl), by repeat (first | (with_reducible first | exact HB.out | apply below_alloc | apply pw_below_drewN | apply below_drew1 | refine below_set ?_ GE302.out | refine below_set ?_ GE303.out) | exact HB.out)⟩
 ·rw [if_neg c3] at H
  have c3b0 : ((l1.length : Int) == 0) = false := beq_eq_false_iff_ne.mpr c3
  have c3b1 : ((l1.length : Int) != 0) = true := bne_iff_ne.mpr c3
  have c3b2 : ¬ (l1 = []) := fun h_ => c3 (by rw [h_]; rfl)
  by_cases c8 : 0 < (l1.length : Int)
  ·rw [if_pos c8] at H
   have c8b0 : decide (0 < (l1.length : Int)) = true := decide_eq_true c8
   have c8b1 : decide (0 < l1.length) = true := decide_eq_true (by omega)
   clear c8
   by_cases c9 : (rd l1 0) = 0
   ·rw [if_pos c9] at H
    have c9b0 : ((rd l1 0) == 0) = true := beq_iff_eq.mpr c9
    have c9b1 : ((rd l1 0) != 0) = false := bne_eq_false_iff_eq.mpr c9
    clear c9
    simp only [Option.some.injEq, Prod.mk.injEq] at H
    obtain ⟨rfl, rfl, rfl, rfl, rfl, rfl⟩ := H
    go_enter Tryd.func17, Tryd.ntmps17
    try go_wp2_with (first | ((with_reducible refine gate_dst (N := 2) rfl ?_); refine box_event ?hg (N := 2) ?hd (cs := #[.int .u64 a0_0, .int .i64 a0_1, .int .i64 a0_2]) (t := 27) ?hr ?_; (case hd => rfl); (case hg => rfl); (case hr => first | (go_simp; done) | (go_simp; rfl)); intro gb302 hg w10 hbox hb; have BK302 := Aside0.mk (hbox); have GW302 := kG hg HB; have GE302 := kG hg HB; replace HB := kH HB hb; clear hb hbox hg) | ((with_reducible refine gate_dst (N := 5) rfl ?_); refine box_event ?hg (N := 5) ?hd (cs := #[.int .u64 0, .int .i64 0, .int .i64 0]) (t := 27) ?hr ?_; (case hd => rfl); (case hg => rfl); (case hr => first | (go_simp; done) | (go_simp; rfl)); intro gb303 hg w11 hbox hb; have BK303 := Aside0.mk (hbox); have GW303 := kG hg HB; have GE303 := kG hg HB; replace HB := kH HB hb; obtain ⟨NB302_303, NB303_302⟩ := kN hg BK302; replace BK302 := kB BK302 hb; clear hb hbox hg; have p304 : 0 ≤ (0 : Int) := (by omega); have q304 : 0 < (l1.length : Int) := of_decide_eq_true (by first | (with_reducible assumption) | assumption); obtain ⟨ad304, e304, hx304_0⟩ := Kd.at_int HR1.out 0 p304 q304; cases e304; have qi304 : (0 < l1.length) = True := eq_true (by omega); (try rw [show ((0 : Int)).toNat = 0 from rfl] at hx304_0); (try rw [Addr.add_zero'] at hx304_0); replace hx304_0 := (HB.out.cell (World.block_lt_of_cell? w _ hx304_0)).trans hx304_0; replace p304 := eq_true p304; (try (have q304s := q304; simp only [List.length_drop, List.length_take] at q304s; replace q304s := eq_true q304s)); replace q304 := eq_true q304))
    replace BK302 := Aside0.mk (blk_drew BK302.out)
    replace BK303 := Aside0.mk (blk_drew BK303.out)
    replace HB := Aside0.mk (below_drew1 HB.out)
    refine start_ (n := 7) (S := fun w' => w'.cell? ⟨gb302, 0, none⟩ = some (.int .u64 a0_0) ∧ w'.cell? ⟨gb302, 1, none⟩ = some (.int .i64 a0_1) ∧ w'.cell? ⟨gb302, 2, none⟩ = some (.int .i64 a0_2)) (ds := []) (bl 7 0) (by kernel_rfl) rfl rfl kz (fun hHeld => ?_)
    generalize w11.drew = w12 at BK302 BK303 HB hHeld ⊢
    refine pu 0 (some 23) (bl 7 1) (h := ?_)
    refine ta 1 (some 24) (bl 7 3) (h := ?_)
    refine pu 3 (some 4) (bl 7 11) (h := ?_)
    refine ta 2 (some 25) (bl 7 15) (h := ?_)
    refine one_ (i := 4) (N := none) #[true, true, true, true, true, false, false] rfl rfl (by kernel_rfl) (by decide) (fun K hK => ?_)
    have hs13 : w12.cell? ⟨gb303, 0, none⟩ = some (.int .u64 0) := (blk_cell BK303.out 0).trans rfl
    have hfs13 := blk_frozen BK303.out 0
    have hns13_0 := NB302_303.out
    have hms13_0 := NB303_302.out
    have hs14 : w12.cell? ⟨gb303, 1, none⟩ = some (.int .i64 0) := (blk_cell BK303.out 1).trans rfl
    have hfs14 := blk_frozen BK303.out 1
    have hs15 : w12.cell? ⟨gb303, 2, none⟩ = some (.int .i64 0) := (blk_cell BK303.out 2).trans rfl
    have hfs15 := blk_frozen BK303.out 2
    refine skip_ (w1 := ?_) (by rfl) rfl ?_ ?_
    rotate_left
    ·go_simp
     rfl
    refine hK.out _ _ (ks hHeld) (fun hHeld => ?_)
    clear hK K
    refine pu 5 (some 6) (bl 7 63) (h := ?_)
    refine pu 6 (some 7) (bl 7 127) (h := ?_)
    refine done_ (by kernel_rfl) ?_
    try go_wp2
    refine bodyPost_ret (results_list (rs := [.tmp 4, .cell 5 27, .tmp 6, .tmp 7]) rfl (by simp) (.tmp (.cell gb303 27 #[.int .u64 a0_0, .int .i64 a0_1, .int .i64 a0_2] (0, 0) _ rfl (kb BK303) Tryd.underlying27 rfl (by kernel_rfl) (.tmp (.tmp .nil))))) rfl ?_
    exact ⟨by first | rfl | (simp [errW_none, errW_some] <;> rfl) | (simp [*, errW_none, errW_some] <;> rfl), by repeat (first | (with_reducible first | exact HB.out | apply below_alloc | apply pw_below_drewN | apply below_drew1 | refine below_set ?_ GE302.out | refine below_set ?_ GE303.out) | exact HB.out)⟩
   ·rw [if_neg c9] at H
    have c9b0 : ((rd l1 0) == 0) = false := beq_eq_false_iff_ne.mpr c9
    have c9b1 : ((rd l1 0) != 0) = true := bne_iff_ne.mpr c9
    by_cases c16 : (l1.length : Int) = 1
    ·rw [if_pos c16] at H
     have c16b0 : ((l1.length : Int) == 1) = true := beq_iff_eq.mpr c16
     have c16b1 : ((l1.length : Int) != 1) = false := bne_eq_false_iff_eq.mpr c16
     clear c16
     simp only [Option.some.injEq, Prod.mk.injEq] at H
     obtain ⟨rfl, rfl, rfl, rfl, rfl, rfl⟩ := H
     go_enter Tryd.func17, Tryd.ntmps17
     go_wp2_with (first | ((with_reducible refine gate_dst (N := 2) rfl ?_); refine box_event ?hg (N := 2) ?hd (cs := #[.int .u64 a0_0, .int .i64 a0_1, .int .i64 a0_2]) (t := 27) ?hr ?_; (case hd => rfl); (case hg => rfl); (case hr => first | (go_simp; done) | (go_simp; rfl)); intro gb302 hg w17 hbox hb; have BK302 := Aside0.mk (hbox); have GW302 := kG hg HB; have GE302 := kG hg HB; replace HB := kH HB hb; clear hb hbox hg) | ((with_reducible refine gate_dst (N := 5) rfl ?_); refine box_event ?hg (N := 5) ?hd (cs := #[.int .u64 0, .int .i64 0, .int .i64 0]) (t := 27) ?hr ?_; (case hd => rfl); (case hg => rfl); (case hr => first | (go_simp; done) | (go_simp; rfl)); intro gb303 hg w18 hbox hb; have BK303 := Aside0.mk (hbox); have GW303 := kG hg HB; have GE303 := kG hg HB; replace HB := kH HB hb; obtain ⟨NB302_303, NB303_302⟩ := kN hg BK302; replace BK302 := kB BK302 hb; clear hb hbox hg; have p304 : 0 ≤ (0 : Int) := (by omega); have q304 : 0 < (l1.length : Int) := of_decide_eq_true (by first | (with_reducible assumption) | assumption); obtain ⟨ad304, e304, hx304_0⟩ := Kd.at_int HR1.out 0 p304 q304; cases e304; have qi304 : (0 < l1.length) = True := eq_true (by omega); (try rw [show ((0 : Int)).toNat = 0 from rfl] at hx304_0); (try rw [Addr.add_zero'] at hx304_0); replace hx304_0 := (HB.out.cell (World.block_lt_of_cell? w _ hx304_0)).trans hx304_0; replace p304 := eq_true p304; (try (have q304s := q304; simp only [List.length_drop, List.length_take] at q304s; replace q304s := eq_true q304s)); replace q304 := eq_true q304; have hnb19 := NB303_302.out; have hnc19 := NB302_303.out; have hcz20_0 : w18.cell? ⟨gb303, 0, none⟩ = some (.int .u64 0) := (blk_cell BK303.out 0).trans rfl; have hcz20_1 : w18.cell? ⟨gb303, 1, none⟩ = some (.int .i64 0) := (blk_cell BK303.out 1).trans rfl; have hcz20_2 : w18.cell? ⟨gb303, 2, none⟩ = some (.int .i64 0) := (blk_cell BK303.out 2).trans rfl; have hfz20_0 := blk_frozen BK303.out 0; have hfz20_1 := blk_frozen BK303.out 1; have hfz20_2 := blk_frozen BK303.out 2))
     refine bodyPost_ret (results_list (rs := [.tmp 4, .cell 5 27, .tmp 6, .tmp 7]) rfl (by simp) (.tmp (.cell gb303 27 #[.int .u64 0, .int .i64 0, .int .i64 0] (0, 0) _ rfl (kb BK303) Tryd.underlying27 rfl (by kernel_rfl) (.tmp (.tmp .nil))))) rfl ?_
     exact ⟨by first | rfl | (simp [errW_none, errW_some] <;> rfl) | (simp [*, errW_none, errW_some] <;> rfl), by repeat (first | (with_reducible first | exact HB.out | apply below_alloc | apply pw_below_drewN | apply below_drew1 | refine below_set ?_ GE302.out | refine below_set ?_ GE303.out) | exact HB.out)⟩
    ·rw [if_neg c16] at H
     have c16b0 : ((l1.length : Int) == 1) = false := beq_eq_false_iff_ne.mpr c16
     have c16b1 : ((l1.length : Int) != 1) = true := bne_iff_ne.mpr c16
     by_cases c21 : 1 < (l1.length : Int)
     ·rw [if_pos c21] at H
      have c21b0 : decide (1 < (l1.length : Int)) = true := decide_eq_true c21
      have c21b1 : decide (1 < l1.length) = true := decide_eq_true (by omega)
      clear c21
      have HC22 := Aside0.mk H
      clear H
      go_enter Tryd.func17, Tryd.ntmps17
      go_upto_if 37 with (first | ((with_reducible refine gate_dst (N := 2) rfl ?_); refine box_event ?hg (N := 2) ?hd (cs := #[.int .u64 a0_0, .int .i64 a0_1, .int .i64 a0_2]) (t := 27) ?hr ?_; (case hd => rfl); (case hg => rfl); (case hr => first | (go_simp; done) | (go_simp; rfl)); intro gb302 hg w23 hbox hb; have BK302 := Aside0.mk (hbox); have GW302 := kG hg HB; have GE302 := kG hg HB; replace HB := kH HB hb; clear hb hbox hg) | ((with_reducible refine gate_dst (N := 5) rfl ?_); refine box_event ?hg (N := 5) ?hd (cs := #[.int .u64 0, .int .i64 0, .int .i64 0]) (t := 27) ?hr ?_; (case hd => rfl); (case hg => rfl); (case hr => first | (go_simp; done) | (go_simp; rfl)); intro gb303 hg w24 hbox hb; have BK303 := Aside0.mk (hbox); have GW303 := kG hg HB; have GE303 := kG hg HB; replace HB := kH HB hb; obtain ⟨NB302_303, NB303_302⟩ := kN hg BK302; replace BK302 := kB BK302 hb; clear hb hbox hg; have p304 : 0 ≤ (0 : Int) := (by omega); have q304 : 0 < (l1.length : Int) := of_decide_eq_true (by first | (with_reducible assumption) | assumption); obtain ⟨ad304, e304, hx304_0⟩ := Kd.at_int HR1.out 0 p304 q304; cases e304; have qi304 : (0 < l1.length) = True := eq_true (by omega); (try rw [show ((0 : Int)).toNat = 0 from rfl] at hx304_0); (try rw [Addr.add_zero'] at hx304_0); replace hx304_0 := (HB.out.cell (World.block_lt_of_cell? w _ hx304_0)).trans hx304_0; replace p304 := eq_true p304; (try (have q304s := q304; simp only [List.length_drop, List.length_take] at q304s; replace q304s := eq_true q304s)); replace q304 := eq_true q304; have hnb25 := NB302_303.out; have hnc25 := NB303_302.out; have hcz26_0 : w24.cell? ⟨gb302, 0, none⟩ = some (.int .u64 a0_0) := (blk_cell BK302.out 0).trans rfl; have hcz26_1 : w24.cell? ⟨gb302, 1, none⟩ = some (.int .i64 a0_1) := (blk_cell BK302.out 1).trans rfl; have hcz26_2 : w24.cell? ⟨gb302, 2, none⟩ = some (.int .i64 a0_2) := (blk_cell BK302.out 2).trans rfl; have hfz26_0 := blk_frozen BK302.out 0; have hfz26_1 := blk_frozen BK302.out 1; have hfz26_2 := blk_frozen BK302.out 2; have p305 : 0 ≤ (1 : Int) := (by omega); have q305 : 1 < (l1.length : Int) := of_decide_eq_true (by first | (with_reducible assumption) | assumption); obtain ⟨ad305, e305, hx305_0⟩ := Kd.at_int HR1.out 1 p305 q305; obtain rfl : ad304 = ad305 := (by injection e305); (try simp only [show (1 : Int).toNat = 1 from rfl, Nat.reduceMul, Nat.reduceEqDiff, Go.Addr.add, ↓reduceIte] at hx305_0); have qi305 : (1 < l1.length) = True := eq_true (by omega); (try rw [show ((1 : Int)).toNat = 1 from rfl] at hx305_0); replace hx305_0 := (HB.out.cell (World.block_lt_of_cell? w _ hx305_0)).trans hx305_0; replace p305 := eq_true p305; (try (have q305s := q305; simp only [List.length_drop, List.length_take] at q305s; replace q305s := eq_true q305s)); replace q305 := eq_true q305))
      (try simp only [Act.put, List.setIfInBounds_toArray, List.set_cons_zero, List.set_cons_succ])
      go_cut [8, 9, 10] (fun v8 v9 v10 wc => ∃ (kq : Nat) (x8_21 : Int) (x9_21 : Int) (x10_21 : Int) (x304000_21 : Int) (x304001_21 : Int) (x304002_21 : Int), v8 = .int .i64 x8_21 ∧ v9 = .int .i64 x9_21 ∧ v10 = .int .i64 x10_21 ∧ Aside0 (gaiterref01_GetXor.j0 kq l1 x8_21 x9_21 x10_21 a0_0 a0_1 a0_2 = some (r1, r2, r3, r4, r5, r6)) ∧ Aside0 (kq ≤ k) ∧ Aside0 (wc.heap[gb302]? = some (.cells #[.int .u64 a0_0, .int .i64 a0_1, .int .i64 a0_2] 27 (0, 0))) ∧ Aside0 (wc.heap[gb303]? = some (.cells #[.int .u64 x304000_21, .int .i64 x304001_21, .int .i64 x304002_21] 27 (0, 0))) ∧ Aside0 (Below w.heap.size w wc))
      case first =>
       have H := HC22.out
       clear HC22
       by_cases c27 : (rd l1 1) = 1
       ·rw [if_pos c27] at H
        have c27b0 : ((rd l1 1) == 1) = true := beq_iff_eq.mpr c27
        have c27b1 : ((rd l1 1) != 1) = false := bne_eq_false_iff_eq.mpr c27
        clear c27
        (first | rw [c27b0] | (simp only [i64_w, i32_w]; rw [c27b0]) | skip)
        by_cases c28 : (l1.length : Int) < 14
        ·rw [if_pos c28] at H
         have c28b0 : decide ((l1.length : Int) < 14) = true := decide_eq_true c28
         have c28b1 : decide (l1.length < 14) = true := decide_eq_true (by omega)
         clear c28
         simp only [Option.some.injEq, Prod.mk.injEq] at H
         obtain ⟨rfl, rfl, rfl, rfl, rfl, rfl⟩ := H
         have hnb29 := NB303_302.out
         have hnc29 := NB302_303.out
         obtain ⟨hcz30_0, hcz30_1, hcz30_2⟩ := kc3 BK303
         obtain ⟨hfz30_0, hfz30_1, hfz30_2⟩ := kf3 BK303
         go_wp2
         refine bodyPost_ret (results_list (rs := [.tmp 4, .cell 5 27, .tmp 6, .tmp 7]) rfl (by simp) (.tmp (.cell gb303 27 #[.int .u64 0, .int .i64 0, .int .i64 0] (0, 0) _ rfl (kb BK303) Tryd.underlying27 rfl (by kernel_rfl) (.tmp (.tmp .nil))))) rfl ?_
         exact ⟨by first | rfl | (simp [errW_none, errW_some] <;> rfl) | (simp [*, errW_none, errW_some] <;> rfl), by repeat (first | (with_reducible first | exact HB.out | apply below_alloc | apply pw_below_drewN | apply below_drew1 | refine below_set ?_ GE302.out | refine below_set ?_ GE303.out) | exact HB.out)⟩
        ·rw [if_neg c28] at H
         have c28b0 : decide ((l1.length : Int) < 14) = false := decide_eq_false c28
         have c28b1 : decide (l1.length < 14) = false := decide_eq_false (by omega)
         clear c28
         by_cases c31 : 2 ≤ 8
         ·rw [if_pos c31] at H
          have c31b0 := eq_true c31
          have c31b1 : decide (2 ≤ 8) = true := decide_eq_true c31
          clear c31
          by_cases c32 : 8 ≤ (l1.length : Int)
          ·rw [if_pos c32] at H
           have c32b0 := eq_true c32
           have c32b1 : decide (8 ≤ (l1.length : Int)) = true := decide_eq_true c32
           clear c32
           replace H := Option.bind_eq_some_iff.mp H
           obtain ⟨t307, A330, H⟩ := H
           replace H : (if 8 ≤ 14 then (if 14 ≤ (l1.length : Int) then ((gaiterref01_Number.f k ((l1.take 14).drop 8)).bind fun t309 => (gaiterref01_GetXor.j0 k l1 (wrap64 (t307)) (wrap64 ((wrap64 (t309)) + 1)) 14 a0_0 a0_1 a0_2)) else (none)) else (none)) = some (r1, r2, r3, r4, r5, r6) := H
           have A33 := Aside0.mk A330
           clear A330
           by_cases c34 : 8 ≤ 14
           ·rw [if_pos c34] at H
            have c34b0 := eq_true c34
            have c34b1 : decide (8 ≤ 14) = true := decide_eq_true c34
            clear c34
            by_cases c35 : 14 ≤ (l1.length : Int)
            ·rw [if_pos c35] at H
             have c35b0 := eq_true c35
             have c35b1 : decide (14 ≤ (l1.length : Int)) = true := decide_eq_true c35
             clear c35
             replace H := Option.bind_eq_some_iff.mp H
             obtain ⟨t309, A360, H⟩ := H
             replace H : (gaiterref01_GetXor.j0 k l1 (wrap64 (t307)) (wrap64 ((wrap64 (t309)) + 1)) 14 a0_0 a0_1 a0_2) = some (r1, r2, r3, r4, r5, r6) := H
             have A36 := Aside0.mk A360
             clear A360
             have H' := Aside0.mk H
             clear H
             obtain ⟨i037, hi037, _, hsz37, _⟩ := info_parts info5
             obtain ⟨A37, hcut37, hA37, hC37⟩ := print_mid_of (P := Tryd.prog) (Value.int .u8) 0 25 5 .i64 .i64 Tryd.underlying25 hi037 hsz37 (some ad304) c1 l1 2 8 (by omega) (by first | omega | exact of_decide_eq_true (by first | (with_reducible assumption) | assumption)) (of_decide_eq_true (by first | (with_reducible assumption) | assumption)) HC1.out
             have HR306 := Aside0.mk (Kd.C_of_reads (h1 := fun _ => rfl) (hA37 _ (Kd.reads_of_C HR1.out)))
             have HC306 := Aside0.mk hC37
             clear hA37 hC37 hi037 hsz37
             go_wp2_with (first | ((with_reducible refine gate_callee (f := 50) rfl ?_); refine goesL_ (some 44) rfl rfl Tryd.func50 (by kernel_rfl) rfl #[.slice A37 ((l1.take 8).drop 2).length (c1 - 2)] rfl (by (try simp only [List.map_toArray, List.map_cons, List.map_nil]); first | done | (rw [show ((l1.take 8).drop 2).length = (8 - 2) from (by rw [List.length_drop, List.length_take]; have h_ : (8 : Int) ≤ (l1.length : Int) := of_decide_eq_true (by first | (with_reducible assumption) | assumption); omega)] <;> rfl) | rfl | (simp only [List.length_drop, List.length_take]; rfl)) ?_; (with_reducible refine (gaiterref01_Number.calls k _ _ ((l1.take 8).drop 2) t307 _ ?side1 ?side2 A33.out).mono ?_); (case side1 => repeat (first | exact (Kd.C_below HR306.out HB.out) | (with_reducible refine Kd.C_alloc ?_ _) | (with_reducible refine Kd.C_drewN ?_ _) | (with_reducible refine Kd.C_drew ?_))); (case side2 => exact HC306.out); rintro e w' ⟨rfl, ⟨nd, rfl⟩⟩; refine ⟨_, rfl, ?_⟩; obtain ⟨i038, hi038, _, hsz38, _⟩ := info_parts info5; obtain ⟨A38, hcut38, hA38, hC38⟩ := print_mid_of (P := Tryd.prog) (Value.int .u8) 0 25 5 .i64 .i64 Tryd.underlying25 hi038 hsz38 (some ad304) c1 l1 8 14 (by omega) (by first | omega | exact of_decide_eq_true (by first | (with_reducible assumption) | assumption)) (of_decide_eq_true (by first | (with_reducible assumption) | assumption)) HC1.out; have HR308 := Aside0.mk (Kd.C_of_reads (h1 := fun _ => rfl) (hA38 _ (Kd.reads_of_C HR1.out))); have HC308 := Aside0.mk hC38; clear hA38 hC38 hi038 hsz38) | ((with_reducible refine gate_callee (f := 50) rfl ?_); refine goesL_ (some 48) rfl rfl Tryd.func50 (by kernel_rfl) rfl #[.slice A38 ((l1.take 14).drop 8).length (c1 - 8)] rfl (by (try simp only [List.map_toArray, List.map_cons, List.map_nil]); first | done | (rw [show ((l1.take 14).drop 8).length = (14 - 8) from (by rw [List.length_drop, List.length_take]; have h_ : (14 : Int) ≤ (l1.length : Int) := of_decide_eq_true (by first | (with_reducible assumption) | assumption); omega)] <;> rfl) | rfl | (simp only [List.length_drop, List.length_take]; rfl)) ?_; (with_reducible refine (gaiterref01_Number.calls k _ _ ((l1.take 14).drop 8) t309 _ ?side1 ?side2 A36.out).mono ?_); (case side1 => repeat (first | exact (Kd.C_below HR308.out (kl HB)) | (with_reducible refine Kd.C_alloc ?_ _) | (with_reducible refine Kd.C_drewN ?_ _) | (with_reducible refine Kd.C_drew ?_))); (case side2 => exact HC308.out); rintro e w' ⟨rfl, ⟨nd, rfl⟩⟩; refine ⟨_, rfl, ?_⟩))
             go_meet
             case rel => exact ⟨_, (wrap64 (t307)), (wrap64 ((wrap64 (t309)) + 1)), (14), (0), (0), (0), (by first | rfl | (simp; done) | (simp [*]; done)), (by first | rfl | (simp; done) | (simp [*]; done)), (by first | rfl | (simp; done) | (simp [*]; done)), H', ⟨by first | omega | exact Nat.le_refl _⟩, ⟨by (with_reducible repeat (first | refine blk_drewN ?_ _ | refine blk_drew ?_ | refine blk_alloc ?_ _)); exact BK302.out⟩, ⟨by (with_reducible repeat (first | refine blk_drewN ?_ _ | refine blk_drew ?_ | refine blk_alloc ?_ _)); exact BK303.out⟩, ⟨by repeat (first | (with_reducible first | exact HB.out | apply below_alloc | apply pw_below_drewN | apply below_drew1 | refine below_set ?_ GE302.out | refine below_set ?_ GE303.out) | exact HB.out)⟩⟩
            ·rw [if_neg c35] at H
             exact absurd H (by simp)
           ·rw [if_neg c34] at H
            exact absurd H (by simp)
          ·rw [if_neg c32] at H
           exact absurd H (by simp)
         ·rw [if_neg c31] at H
          exact absurd H (by simp)
       ·rw [if_neg c27] at H
        have c27b0 : ((rd l1 1) == 1) = false := beq_eq_false_iff_ne.mpr c27
        have c27b1 : ((rd l1 1) != 1) = true := bne_iff_ne.mpr c27
        (first | rw [c27b0] | (simp only [i64_w, i32_w]; rw [c27b0]) | skip)
        have H' := Aside0.mk H
        clear H
        go_wp2
        go_meet
        case rel => exact ⟨_, (a0_1), (a0_2), (2), (0), (0), (0), (by first | rfl | (simp; done) | (simp [*]; done)), (by first | rfl | (simp; done) | (simp [*]; done)), (by first | rfl | (simp; done) | (simp [*]; done)), H', ⟨by first | omega | exact Nat.le_refl _⟩, ⟨by (with_reducible repeat (first | refine blk_drewN ?_ _ | refine blk_drew ?_ | refine blk_alloc ?_ _)); exact BK302.out⟩, ⟨by (with_reducible repeat (first | refine blk_drewN ?_ _ | refine blk_drew ?_ | refine blk_alloc ?_ _)); exact BK303.out⟩, ⟨by repeat (first | (with_reducible first | exact HB.out | apply below_alloc | apply pw_below_drewN | apply below_drew1 | refine below_set ?_ GE302.out | refine below_set ?_ GE303.out) | exact HB.out)⟩⟩
      case rest =>
       clear HC22
       try clear c1
       try clear c2
       try clear p2
       try clear c3
       try clear c3b0
       try clear c3b1
       try clear c3b2
       try clear p3
       try clear q3
       try clear hx3
       try clear qi3
       try clear c5
       try clear c6
       try clear p6
       try clear c8
       try clear c8b0
       try clear c8b1
       try clear c9
       try clear c9b0
       try clear c9b1
       try clear c16
       try clear c16b0
       try clear c16b1
       try clear c17
       try clear c19
       try clear c21
       try clear c21b0
       try clear c21b1
       try clear c25
       try clear c27
       try clear c27b0
       try clear c27b1
       try clear c28
       try clear c28b0
       try clear c28b1
       try clear c29
       try clear p30
       try clear q30
       try clear hx30
       try clear qi30
       try clear c31
       try clear c31b0
       try clear c31b1
       try clear c32
       try clear c32b0
       try clear c32b1
       try clear c34
       try clear c34b0
       try clear c34b1
       try clear c35
       try clear c35b0
       try clear c35b1
       try clear hcz20_0
       try clear hcz20_1
       try clear hcz20_2
       try clear hcz26_0
       try clear hcz26_1
       try clear hcz26_2
       try clear hcz30_0
       try clear hcz30_1
       try clear hcz30_2
       try clear hcz7_0
       try clear hcz7_1
       try clear hcz7_2
       try clear hfz20_0
       try clear hfz20_1
       try clear hfz20_2
       try clear hfz26_0
       try clear hfz26_1
       try clear hfz26_2
       try clear hfz30_0
       try clear hfz30_1
       try clear hfz30_2
       try clear hfz7_0
       try clear hfz7_1
       try clear hfz7_2
       try clear hx304_0
       try clear hx305_0
       try clear p304
       try clear p305
       try clear q304
       try clear q305
       obtain ⟨kq, x8_21, x9_21, x10_21, x304000_21, x304001_21, x304002_21, rfl, rfl, rfl, HA, HJ21, BK302, BK303, HB⟩ := hcut
       cases kq with
       | zero => exact absurd HA.out (by simp [gaiterref01_GetXor.j0])
       | succ kj21 =>
        have H := HA.out
        clear HA
        simp only [gaiterref01_GetXor.j0] at H
        have HC39 := Aside0.mk H
        clear H
        go_upto_region 16 with (fail)
        go_cut [58] (fun v58 wc => ∃ (kq : Nat) (x58_38 : Bool), v58 = .bool x58_38 ∧ Aside0 (gaiterref01_GetXor.j1 kq l1 x8_21 x9_21 x10_21 x58_38 a0_0 a0_1 a0_2 = some (r1, r2, r3, r4, r5, r6)) ∧ Aside0 (kq ≤ kj21) ∧ Aside0 (wc.heap[gb302]? = some (.cells #[.int .u64 a0_0, .int .i64 a0_1, .int .i64 a0_2] 27 (0, 0))) ∧ Aside0 (wc.heap[gb303]? = some (.cells #[.int .u64 x304000_21, .int .i64 x304001_21, .int .i64 x304002_21] 27 (0, 0))) ∧ Aside0 (Below w.heap.size w wc))
        case first =>
         have H := HC39.out
         clear HC39
         by_cases c40 : x9_21 = 0
         ·rw [if_pos c40] at H
          have c40b0 : (x9_21 == 0) = true := beq_iff_eq.mpr c40
          have c40b1 : (x9_21 != 0) = false := bne_eq_false_iff_eq.mpr c40
          clear c40
          (first | rw [c40b0] | (simp only [i64_w, i32_w]; rw [c40b0]) | skip)
          have H' := Aside0.mk H
          clear H
          go_wp2
          go_meet
          case rel => exact ⟨_, (true), (by first | rfl | (simp; done) | (simp [*]; done)), H', ⟨by have := HJ21.out; first | omega | exact Nat.le_refl _⟩, ⟨by (with_reducible repeat (first | refine blk_drewN ?_ _ | refine blk_drew ?_ | refine blk_alloc ?_ _)); exact BK302.out⟩, ⟨by (with_reducible repeat (first | refine blk_drewN ?_ _ | refine blk_drew ?_ | refine blk_alloc ?_ _)); exact BK303.out⟩, ⟨by repeat (first | (with_reducible first | exact HB.out | apply below_alloc | apply pw_below_drewN | apply below_drew1 | refine below_set ?_ GE302.out | refine below_set ?_ GE303.out) | exact HB.out)⟩⟩
         ·rw [if_neg c40] at H
          have c40b0 : (x9_21 == 0) = false := beq_eq_false_iff_ne.mpr c40
          have c40b1 : (x9_21 != 0) = true := bne_iff_ne.mpr c40
          (first | rw [c40b0] | (simp only [i64_w, i32_w]; rw [c40b0]) | skip)
          have H' := Aside0.mk H
          clear H
          go_wp2
          go_meet
          case rel => exact ⟨_, (decide ((wrap64 (x8_21 + x9_21)) > 64)), (by first | rfl | (simp; done) | (simp [*]; done)), H', ⟨by have := HJ21.out; first | omega | exact Nat.le_refl _⟩, ⟨by (with_reducible repeat (first | refine blk_drewN ?_ _ | refine blk_drew ?_ | refine blk_alloc ?_ _)); exact BK302.out⟩, ⟨by (with_reducible repeat (first | refine blk_drewN ?_ _ | refine blk_drew ?_ | refine blk_alloc ?_ _)); exact BK303.out⟩, ⟨by repeat (first | (with_reducible first | exact HB.out | apply below_alloc | apply pw_below_drewN | apply below_drew1 | refine below_set ?_ GE302.out | refine below_set ?_ GE303.out) | exact HB.out)⟩⟩
        case rest =>
         clear HC39
         try clear c1
         try clear c2
         try clear p2
         try clear c3
         try clear c3b0
         try clear c3b1
         try clear c3b2
         try clear p3
         try clear q3
         try clear hx3
         try clear qi3
         try clear c4
         try clear c5
         try clear c6
         try clear p6
         try clear c8
         try clear c8b0
         try clear c8b1
         try clear c9
         try clear c9b0
         try clear c9b1
         try clear c16
         try clear c16b0
         try clear c16b1
         try clear c17
         try clear c19
         try clear c21
         try clear c21b0
         try clear c21b1
         try clear c25
         try clear c27
         try clear c27b0
         try clear c27b1
         try clear c28
         try clear c28b0
         try clear c28b1
         try clear c29
         try clear p30
         try clear q30
         try clear hx30
         try clear qi30
         try clear c31
         try clear c31b0
         try clear c31b1
         try clear c32
         try clear c32b0
         try clear c32b1
         try clear c34
         try clear c34b0
         try clear c34b1
         try clear c35
         try clear c35b0
         try clear c35b1
         try clear c40
         try clear c40b0
         try clear c40b1
         try clear hcz20_0
         try clear hcz20_1
         try clear hcz20_2
         try clear hcz26_0
         try clear hcz26_1
         try clear hcz26_2
         try clear hcz30_0
         try clear hcz30_1
         try clear hcz30_2
         try clear hcz7_0
         try clear hcz7_1
         try clear hcz7_2
         try clear hfz20_0
         try clear hfz20_1
         try clear hfz20_2
         try clear hfz26_0
         try clear hfz26_1
         try clear hfz26_2
         try clear hfz30_0
         try clear hfz30_1
         try clear hfz30_2
         try clear hfz7_0
         try clear hfz7_1
         try clear hfz7_2
         try clear hx304_0
         try clear hx305_0
         try clear p2
         try clear p3
         try clear p30
         try clear p304
         try clear p305
         try clear p6
         try clear q3
         try clear q30
         try clear q304
         try clear q305
         obtain ⟨kq, x58_38, rfl, HA, HJ38, BK302, BK303, HB⟩ := hcut
         cases kq with
         | zero => exact absurd HA.out (by simp [gaiterref01_GetXor.j1])
         | succ kj38 =>
          have H := HA.out
          clear HA
          simp only [gaiterref01_GetXor.j1] at H
          by_cases c41 : x58_38 = true
          ·subst c41
           have H1 : (some (0, 0, 0, 0, 0, 3)) = some (r1, r2, r3, r4, r5, r6) := by rw [if_pos rfl] at H; exact H
           clear H
           have H := H1
           clear H1
           simp only [Option.some.injEq, Prod.mk.injEq] at H
           obtain ⟨rfl, rfl, rfl, rfl, rfl, rfl⟩ := H
           have hnb42 := NB303_302.out
           have hnc42 := NB302_303.out
           obtain ⟨hcz43_0, hcz43_1, hcz43_2⟩ := kc3 BK303
           obtain ⟨hfz43_0, hfz43_1, hfz43_2⟩ := kf3 BK303
           go_wp2
           refine bodyPost_ret (results_list (rs := [.tmp 4, .cell 5 27, .tmp 6, .tmp 7]) rfl (by simp) (.tmp (.cell gb303 27 #[.int .u64 0, .int .i64 0, .int .i64 0] (0, 0) _ rfl (kb BK303) Tryd.underlying27 rfl (by kernel_rfl) (.tmp (.tmp .nil))))) rfl ?_
           exact ⟨by first | rfl | (simp [errW_none, errW_some] <;> rfl) | (simp [*, errW_none, errW_some] <;> rfl), by repeat (first | (with_reducible first | exact HB.out | apply below_alloc | apply pw_below_drewN | apply below_drew1 | refine below_set ?_ GE302.out | refine below_set ?_ GE303.out) | exact HB.out)⟩
          ·replace c41 := Bool.eq_false_iff.mpr c41
           subst c41
           have H1 : (if (l1.length : Int) < (wrap64 (x10_21 + x9_21)) then (some (0, 0, 0, 0, 0, 2)) else (if 0 ≤ x8_21 then (if (x8_21 : Int).toNat ≤ 281474976710656 then ((some (List.replicate (x8_21 : Int).toNat 0 : List Int)).bind fun y310 => (if 0 ≤ x10_21 then (if x10_21 ≤ (wrap64 (x10_21 + x9_21)) then (if (wrap64 (x10_21 + x9_21)) ≤ (l1.length : Int) then (if y310.length + ((l1.take ((wrap64 (x10_21 + x9_21)) : Int).toNat).drop (x10_21 : Int).toNat).length < 140737488355328 then ((some (y310 ++ ((l1.take ((wrap64 (x10_21 + x9_21)) : Int).toNat).drop (x10_21 : Int).toNat) : List Int)).bind fun y314 => (if 0 ≤ (wrap64 ((wrap64 (64 - x8_21)) - x9_21)) then (if y314.length + (wrap64 ((wrap64 (64 - x8_21)) - x9_21) : Int).toNat < 140737488355328 then ((gaiterref01_Number.f kj38 (y314 ++ List.replicate (wrap64 ((wrap64 (64 - x8_21)) - x9_21) : Int).toNat 0)).bind fun t320 => ((gaiterref01_Code.f kj38 a0_0 a0_1 a0_2 (Go.bits .xor .u64 a0_0 t320)).bind fun bt321 => (if (bt321.1.length : Int) = (wrap64 (x10_21 + x9_21)) then (if 0 ≤ (wrap64 (x10_21 + x9_21)) then (if (strOfNums bt321.1).toList = (strOfNums (l1.take ((wrap64 (x10_21 + x9_21)) : Int).toNat)).toList then (some (Go.bits .xor .u64 a0_0 t320, bt321.2.1, bt321.2.2.1, bt321.2.2.2, (bt321.1.length : Int), 0)) else (some (0, 0, 0, 0, 0, 3))) else (none)) else (some (0, 0, 0, 0, 0, 3))))) else (none)) else (none))) else (none)) else (none)) else (none)) else (none))) else (none)) else (none))) = some (r1, r2, r3, r4, r5, r6) := by rw [if_neg (show ¬ (false = true) by decide)] at H; exact H
           clear H
           have H := H1
           clear H1
           by_cases c44 : (l1.length : Int) < (wrap64 (x10_21 + x9_21))
           ·rw [if_pos c44] at H
            have c44b0 : decide ((l1.length : Int) < (wrap64 (x10_21 + x9_21))) = true := decide_eq_true c44
            clear c44
            simp only [Option.some.injEq, Prod.mk.injEq] at H
            obtain ⟨rfl, rfl, rfl, rfl, rfl, rfl⟩ := H
            have hnb45 := NB303_302.out
            have hnc45 := NB302_303.out
            obtain ⟨hcz46_0, hcz46_1, hcz46_2⟩ := kc3 BK303
            obtain ⟨hfz46_0, hfz46_1, hfz46_2⟩ := kf3 BK303
            go_wp2
            refine bodyPost_ret (results_list (rs := [.tmp 4, .cell 5 27, .tmp 6, .tmp 7]) rfl (by simp) (.tmp (.cell gb303 27 #[.int .u64 0, .int .i64 0, .int .i64 0] (0, 0) _ rfl (kb BK303) Tryd.underlying27 rfl (by kernel_rfl) (.tmp (.tmp .nil))))) rfl ?_
            exact ⟨by first | rfl | (simp [errW_none, errW_some] <;> rfl) | (simp [*, errW_none, errW_some] <;> rfl), by repeat (first | (with_reducible first | exact HB.out | apply below_alloc | apply pw_below_drewN | apply below_drew1 | refine below_set ?_ GE302.out | refine below_set ?_ GE303.out) | exact HB.out)⟩
           ·rw [if_neg c44] at H
            have c44b0 : decide ((l1.length : Int) < (wrap64 (x10_21 + x9_21))) = false := decide_eq_false c44
            clear c44
            by_cases c47 : 0 ≤ x8_21
            ·rw [if_pos c47] at H
             have c47b0 := eq_true c47
             have c47b1 : decide (0 ≤ x8_21) = true := decide_eq_true c47
             clear c47
             by_cases c48 : (x8_21 : Int).toNat ≤ 281474976710656
             ·rw [if_pos c48] at H
              have c48b0 := eq_true c48
              have c48b1 : decide ((x8_21 : Int).toNat ≤ 281474976710656) = true := decide_eq_true c48
              clear c48
              obtain ⟨y310, hy310⟩ : ∃ y_ : List Int, y_ = (List.replicate (x8_21 : Int).toNat 0) := ⟨_, rfl⟩
              replace H : (if 0 ≤ x10_21 then (if x10_21 ≤ (wrap64 (x10_21 + x9_21)) then (if (wrap64 (x10_21 + x9_21)) ≤ (l1.length : Int) then (if y310.length + ((l1.take ((wrap64 (x10_21 + x9_21)) : Int).toNat).drop (x10_21 : Int).toNat).length < 140737488355328 then ((some (y310 ++ ((l1.take ((wrap64 (x10_21 + x9_21)) : Int).toNat).drop (x10_21 : Int).toNat) : List Int)).bind fun y314 => (if 0 ≤ (wrap64 ((wrap64 (64 - x8_21)) - x9_21)) then (if y314.length + (wrap64 ((wrap64 (64 - x8_21)) - x9_21) : Int).toNat < 140737488355328 then ((gaiterref01_Number.f kj38 (y314 ++ List.replicate (wrap64 ((wrap64 (64 - x8_21)) - x9_21) : Int).toNat 0)).bind fun t320 => ((gaiterref01_Code.f kj38 a0_0 a0_1 a0_2 (Go.bits .xor .u64 a0_0 t320)).bind fun bt321 => (if (bt321.1.length : Int) = (wrap64 (x10_21 + x9_21)) then (if 0 ≤ (wrap64 (x10_21 + x9_21)) then (if (strOfNums bt321.1).toList = (strOfNums (l1.take ((wrap64 (x10_21 + x9_21)) : Int).toNat)).toList then (some (Go.bits .xor .u64 a0_0 t320, bt321.2.1, bt321.2.2.1, bt321.2.2.2, (bt321.1.length : Int), 0)) else (some (0, 0, 0, 0, 0, 3))) else (none)) else (some (0, 0, 0, 0, 0, 3))))) else (none)) else (none))) else (none)) else (none)) else (none)) else (none)) = some (r1, r2, r3, r4, r5, r6) := by first | (rw [hy310]; with_reducible exact H) | (have H2_ := (Option.bind_some _ _).symm.trans H; rw [hy310]; with_reducible exact H2_) | (have H2_ := (Option.bind_some _ _).symm.trans H; with_reducible exact H2_) | with_reducible exact H | (rw [hy310]; exact H) | exact H
              have Ny310 := Aside0.mk hy310
              clear hy310
              by_cases c49 : 0 ≤ x10_21
              ·rw [if_pos c49] at H
               have c49b0 := eq_true c49
               have c49b1 : decide (0 ≤ x10_21) = true := decide_eq_true c49
               clear c49
               by_cases c50 : x10_21 ≤ (wrap64 (x10_21 + x9_21))
               ·rw [if_pos c50] at H
                have c50b0 := eq_true c50
                have c50b1 : decide (x10_21 ≤ (wrap64 (x10_21 + x9_21))) = true := decide_eq_true c50
                by_cases c51 : (wrap64 (x10_21 + x9_21)) ≤ (l1.length : Int)
                ·rw [if_pos c51] at H
                 have c51b0 := eq_true c51
                 have c51b1 : decide ((wrap64 (x10_21 + x9_21)) ≤ (l1.length : Int)) = true := decide_eq_true c51
                 by_cases c52 : y310.length + ((l1.take ((wrap64 (x10_21 + x9_21)) : Int).toNat).drop (x10_21 : Int).toNat).length < 140737488355328
                 ·rw [if_pos c52] at H
                  have LMc52 := Aside0.mk c52
                  clear c52
                  obtain ⟨y314, hy314⟩ : ∃ y_ : List Int, y_ = (y310 ++ ((l1.take ((wrap64 (x10_21 + x9_21)) : Int).toNat).drop (x10_21 : Int).toNat)) := ⟨_, rfl⟩
                  replace H : (if 0 ≤ (wrap64 ((wrap64 (64 - x8_21)) - x9_21)) then (if y314.length + (wrap64 ((wrap64 (64 - x8_21)) - x9_21) : Int).toNat < 140737488355328 then ((gaiterref01_Number.f kj38 (y314 ++ List.replicate (wrap64 ((wrap64 (64 - x8_21)) - x9_21) : Int).toNat 0)).bind fun t320 => ((gaiterref01_Code.f kj38 a0_0 a0_1 a0_2 (Go.bits .xor .u64 a0_0 t320)).bind fun bt321 => (if (bt321.1.length : Int) = (wrap64 (x10_21 + x9_21)) then (if 0 ≤ (wrap64 (x10_21 + x9_21)) then (if (strOfNums bt321.1).toList = (strOfNums (l1.take ((wrap64 (x10_21 + x9_21)) : Int).toNat)).toList then (some (Go.bits .xor .u64 a0_0 t320, bt321.2.1, bt321.2.2.1, bt321.2.2.2, (bt321.1.length : Int), 0)) else (some (0, 0, 0, 0, 0, 3))) else (none)) else (some (0, 0, 0, 0, 0, 3))))) else (none)) else (none)) = some (r1, r2, r3, r4, r5, r6) := by first | (rw [hy314]; with_reducible exact H) | (have H2_ := (Option.bind_some _ _).symm.trans H; rw [hy314]; with_reducible exact H2_) | (have H2_ := (Option.bind_some _ _).symm.trans H; with_reducible exact H2_) | with_reducible exact H | (rw [hy314]; exact H) | exact H
                  have Ny314 := Aside0.mk hy314
                  clear hy314
                  obtain ⟨ji53, hji53⟩ : ∃ j_ : Int, (wrap64 ((wrap64 (64 - x8_21)) - x9_21)) = j_ := ⟨_, rfl⟩
                  replace H : (if 0 ≤ (ji53) then (if y314.length + (ji53 : Int).toNat < 140737488355328 then ((gaiterref01_Number.f kj38 (y314 ++ List.replicate (ji53 : Int).toNat 0)).bind fun t320 => ((gaiterref01_Code.f kj38 a0_0 a0_1 a0_2 (Go.bits .xor .u64 a0_0 t320)).bind fun bt321 => (if (bt321.1.length : Int) = (wrap64 (x10_21 + x9_21)) then (if 0 ≤ (wrap64 (x10_21 + x9_21)) then (if (strOfNums bt321.1).toList = (strOfNums (l1.take ((wrap64 (x10_21 + x9_21)) : Int).toNat)).toList then (some (Go.bits .xor .u64 a0_0 t320, bt321.2.1, bt321.2.2.1, bt321.2.2.2, (bt321.1.length : Int), 0)) else (some (0, 0, 0, 0, 0, 3))) else (none)) else (some (0, 0, 0, 0, 0, 3))))) else (none)) else (none)) = some (r1, r2, r3, r4, r5, r6) := by first | (rw [hji53] at H; exact H) | (simp only [hji53] at H ⊢; exact H)
                  have hji53w : (IntKind.i64.wrap ((wrap64 (64 - x8_21)) - x9_21)) = ji53 := (i64_w _).trans hji53
                  by_cases c54 : 0 ≤ (ji53)
                  ·rw [if_pos c54] at H
                   have c54b0 := eq_true c54
                   have c54b1 : decide (0 ≤ (ji53)) = true := decide_eq_true c54
                   clear c54
                   by_cases c55 : y314.length + (ji53 : Int).toNat < 140737488355328
                   ·rw [if_pos c55] at H
                    have LMc55 := Aside0.mk c55
                    clear c55
                    obtain ⟨y317, hy317⟩ : ∃ y_ : List Int, y_ = (y314 ++ List.replicate (ji53 : Int).toNat 0) := ⟨_, rfl⟩
                    replace H : ((gaiterref01_Number.f kj38 y317).bind fun t320 => ((gaiterref01_Code.f kj38 a0_0 a0_1 a0_2 (Go.bits .xor .u64 a0_0 t320)).bind fun bt321 => (if (bt321.1.length : Int) = (wrap64 (x10_21 + x9_21)) then (if 0 ≤ (wrap64 (x10_21 + x9_21)) then (if (strOfNums bt321.1).toList = (strOfNums (l1.take ((wrap64 (x10_21 + x9_21)) : Int).toNat)).toList then (some (Go.bits .xor .u64 a0_0 t320, bt321.2.1, bt321.2.2.1, bt321.2.2.2, (bt321.1.length : Int), 0)) else (some (0, 0, 0, 0, 0, 3))) else (none)) else (some (0, 0, 0, 0, 0, 3))))) = some (r1, r2, r3, r4, r5, r6) := by first | (rw [hy317]; with_reducible exact H) | (have H2_ := (Option.bind_some _ _).symm.trans H; rw [hy317]; with_reducible exact H2_) | (have H2_ := (Option.bind_some _ _).symm.trans H; with_reducible exact H2_) | with_reducible exact H | (rw [hy317]; exact H) | exact H
                    have Ny317 := Aside0.mk hy317
                    clear hy317
                    replace H := Option.bind_eq_some_iff.mp H
                    obtain ⟨t320, A560, H⟩ := H
                    replace H : ((gaiterref01_Code.f kj38 a0_0 a0_1 a0_2 (Go.bits .xor .u64 a0_0 t320)).bind fun bt321 => (if (bt321.1.length : Int) = (wrap64 (x10_21 + x9_21)) then (if 0 ≤ (wrap64 (x10_21 + x9_21)) then (if (strOfNums bt321.1).toList = (strOfNums (l1.take ((wrap64 (x10_21 + x9_21)) : Int).toNat)).toList then (some (Go.bits .xor .u64 a0_0 t320, bt321.2.1, bt321.2.2.1, bt321.2.2.2, (bt321.1.length : Int), 0)) else (some (0, 0, 0, 0, 0, 3))) else (none)) else (some (0, 0, 0, 0, 0, 3)))) = some (r1, r2, r3, r4, r5, r6) := H
                    have A56 := Aside0.mk A560
                    clear A560
                    replace H := Option.bind_eq_some_iff.mp H
                    obtain ⟨⟨t321, t324, t325, t326⟩, A570, H⟩ := H
                    replace H : (if (t321.length : Int) = (wrap64 (x10_21 + x9_21)) then (if 0 ≤ (wrap64 (x10_21 + x9_21)) then (if (strOfNums t321).toList = (strOfNums (l1.take ((wrap64 (x10_21 + x9_21)) : Int).toNat)).toList then (some (Go.bits .xor .u64 a0_0 t320, t324, t325, t326, (t321.length : Int), 0)) else (some (0, 0, 0, 0, 0, 3))) else (none)) else (some (0, 0, 0, 0, 0, 3))) = some (r1, r2, r3, r4, r5, r6) := H
                    have A57 := Aside0.mk A570
                    clear A570
                    by_cases c58 : (t321.length : Int) = (wrap64 (x10_21 + x9_21))
                    ·rw [if_pos c58] at H
                     have c58b0 : ((t321.length : Int) == (wrap64 (x10_21 + x9_21))) = true := beq_iff_eq.mpr c58
                     have c58b1 : ((t321.length : Int) != (wrap64 (x10_21 + x9_21))) = false := bne_eq_false_iff_eq.mpr c58
                     clear c58
                     obtain ⟨ji59, hji59⟩ : ∃ j_ : Int, (wrap64 (x10_21 + x9_21)) = j_ := ⟨_, rfl⟩
                     replace H : (if 0 ≤ (ji59) then (if (strOfNums t321).toList = (strOfNums (l1.take ((ji59) : Int).toNat)).toList then (some (Go.bits .xor .u64 a0_0 t320, t324, t325, t326, (t321.length : Int), 0)) else (some (0, 0, 0, 0, 0, 3))) else (none)) = some (r1, r2, r3, r4, r5, r6) := by first | (rw [hji59] at H; exact H) | (simp only [hji59] at H ⊢; exact H)
                     (try rw [hji59] at c44b0)
                     (try rw [hji59] at c50b0)
                     (try rw [hji59] at c50b1)
                     (try rw [hji59] at c50)
                     (try rw [hji59] at c51b0)
                     (try rw [hji59] at c51b1)
                     (try rw [hji59] at c51)
                     (try rw [hji59] at c58b0)
                     (try rw [hji59] at c58b1)
                     (try (have LMc52j := Aside0.mk LMc52.out; rw [hji59] at LMc52j; clear LMc52; have LMc52 := LMc52j; clear LMc52j))
                     (try rw [hji59] at Ny314)
                     (try rw [hji59] at Ny314)
                     (try rw [hji59] at A56)
                     (try rw [hji59] at A57)
                     have hji59w : (IntKind.i64.wrap (x10_21 + x9_21)) = ji59 := (i64_w _).trans hji59
                     by_cases c60 : 0 ≤ (ji59)
                     ·rw [if_pos c60] at H
                      have c60b0 := eq_true c60
                      have c60b1 : decide (0 ≤ (ji59)) = true := decide_eq_true c60
                      clear c60
                      have c61b0 := eq_true (of_decide_eq_true (by first | (with_reducible assumption) | assumption) : (ji59) ≤ (l1.length : Int))
                      by_cases c62 : (strOfNums t321).toList = (strOfNums (l1.take ((ji59) : Int).toNat)).toList
                      ·rw [if_pos c62] at H
                       have c62b0 : ((strOfNums t321).toList == (strOfNums (l1.take ((ji59) : Int).toNat)).toList) = true := beq_iff_eq.mpr c62
                       have c62b1 : ((strOfNums t321).toList != (strOfNums (l1.take ((ji59) : Int).toNat)).toList) = false := bne_eq_false_iff_eq.mpr c62
                       clear c62
                       simp only [Option.some.injEq, Prod.mk.injEq] at H
                       obtain ⟨rfl, rfl, rfl, rfl, rfl, rfl⟩ := H
                       try go_wp2
                       replace BK302 := Aside0.mk (blk_drew BK302.out)
                       replace BK303 := Aside0.mk (blk_drew BK303.out)
                       replace HB := Aside0.mk (below_drew1 HB.out)
                       obtain ⟨i064, hi064, _, hsz64, _⟩ := info_parts info5
                       obtain ⟨A64, hcut64, hA64, hC64⟩ := print_mid_of (P := Tryd.prog) (Value.int .u8) 0 25 5 .i64 .i64 Tryd.underlying25 hi064 hsz64 (some ad304) c1 l1 x10_21 (ji59) (of_decide_eq_true (by first | (with_reducible assumption) | assumption)) (by first | omega | exact of_decide_eq_true (by first | (with_reducible assumption) | assumption)) (of_decide_eq_true (by first | (with_reducible assumption) | assumption)) HC1.out
                       have HR313 := Aside0.mk (Kd.C_of_reads (h1 := fun _ => rfl) (hA64 _ (Kd.reads_of_C HR1.out)))
                       have HC313 := Aside0.mk hC64
                       clear hA64 hC64 hi064 hsz64
                       refine start_ (n := 10) (S := fun w' => True) (ds := []) (bl 10 0) (by kernel_rfl) rfl rfl trivial (fun hHeld => ?_); refine with_tabW gaiterref01_GetXor.tab20 gaiterref01_GetXor.bits20 (fun HT_ HW_ => ?_)
                       generalize wc.drew = w63 at BK302 BK303 HB HR313 hHeld ⊢
                       refine pu 0 (some 67) (bl 10 1) (h := ?_)
                       refine pu 2 (some 69) (bl 10 5) (h := ?_)
                       refine pu 3 (some 70) (bl 10 13) (h := ?_)
                       refine pu 4 (some 71) (bl 10 29) (h := ?_)
                       refine pu 5 (some 72) (bl 10 61) (h := ?_)
                       refine pu 6 (some 73) (bl 10 125) (h := ?_)
                       refine pu 7 (some 74) (bl 10 253) (h := ?_)
                       refine one_ (i := 1) (N := some 68) #[true, true, true, true, true, true, true, true, false, false] rfl rfl (one_of HT_.out (by kernel_rfl)) (by decide) (fun K hK => ?_)
                       refine Kd.R_make_step (Kd.int .u8) _ 5 (by rfl) (N := 68) rfl 25 _ _ rfl x8_21 rfl rfl Tryd.underlying25 (.int .u8 0) 1 info5 rfl (by decide) (by omega) 0 (ok := fun _ => True) (okp := fun _ => True) rfl (fun _ hk => hk) trivial (of_decide_eq_true (by first | (with_reducible assumption) | assumption)) (Nat.le_trans (Nat.mul_le_mul_right _ (of_decide_eq_true (by first | (with_reducible assumption) | assumption) : x8_21.toNat ≤ 281474976710656)) (by omega)) (Below.refl _ _) (Nat.le_refl _) ?_
                       intro v311 w65 ho66 hb hg_ hnew_
                       clear hg_ hnew_
                       (first | rw [← Ny310.out] at ho66 | (simp only [Int.reduceToNat] at ho66; rw [← Ny310.out] at ho66))
                       have HO312 := Aside0.mk (Kd.R_lower ho66 (below_size (kl HB)))
                       replace BK302 := kB BK302 hb
                       replace BK303 := kB BK303 hb
                       replace HB := kH HB hb
                       clear hb ho66
                       refine hK.out _ _ trivial (fun hHeld => ?_)
                       clear hK K
                       refine norm_ (a' := ?_) ?_ ?_
                       rotate_left
                       ·show Act.put _ (some 68) _ = _
                        simp only [Act.put, List.setIfInBounds_toArray, List.set_cons_zero, List.set_cons_succ, i64_w, i32_w]
                        rfl
                       refine one_ (i := 8) (N := some 75) #[true, true, true, true, true, true, true, true, true, false] rfl rfl (one_of HT_.out (by kernel_rfl)) (by decide) (fun K hK => ?_)
                       refine Kd.R_append_rows_step (Kd.int .u8) (w0 := w) w.heap.size (by rfl) (.tmp 68) (.tmp 74) 25 5 (.int .u8 0) 1 rfl Tryd.underlying25 info5 rfl (by decide) (by omega) v311 y310 ((l1.take ((ji59) : Int).toNat).drop (x10_21 : Int).toNat) _ _ _ (fun _ => True) (fun _ => False) rfl rfl ?aO ?aR (fun _ _ h => h) (fun _ h => h.elim) ?aF ?aB ?aS ?aL ?_
                       (case aR => first | (rw [← show ((l1.take ((ji59) : Int).toNat).drop (x10_21 : Int).toNat).length = ((ji59).toNat - x10_21.toNat) from (by rw [List.length_drop, List.length_take]; have h_ : ((ji59) : Int) ≤ (l1.length : Int) := of_decide_eq_true (by first | (with_reducible assumption) | assumption); omega)]; repeat (first | exact (Kd.C_below HR313.out HB.out) | (with_reducible refine Kd.C_alloc ?_ _) | (with_reducible refine Kd.C_drewN ?_ _) | (with_reducible refine Kd.C_drew ?_))) | (repeat (first | exact (Kd.C_below HR313.out HB.out) | (with_reducible refine Kd.C_alloc ?_ _) | (with_reducible refine Kd.C_drewN ?_ _) | (with_reducible refine Kd.C_drew ?_))))
                       (case aB => exact (kl HB))
                       (case aF => exact (fun _ _ => trivial))
                       (case aO => exact (kr HO312))
                       (case aS => exact (below_size (kl HB)))
                       (case aL => have := LMc52.out; have hlx_ := (show ((l1.take ((ji59) : Int).toNat).drop (x10_21 : Int).toNat).length = ((ji59).toNat - x10_21.toNat) from (by rw [List.length_drop, List.length_take]; have h_ : ((ji59) : Int) ≤ (l1.length : Int) := of_decide_eq_true (by first | (with_reducible assumption) | assumption); omega)); omega)
                       intro v315 w67 ho hb hg hat
                       rw [← Ny314.out] at ho
                       have n0_ := Aside0.mk (blk_grown (g := gb302) (o := .cells #[.int .u64 a0_0, .int .i64 a0_1, .int .i64 a0_2] 27 (0, 0)) (kb BK302) hg (Kd.R_ne HO312.out BK302.out (by decide)))
                       have n1_ := Aside0.mk (blk_grown (g := gb303) (o := .cells #[.int .u64 x304000_21, .int .i64 x304001_21, .int .i64 x304002_21] 27 (0, 0)) (kb BK303) hg (Kd.R_ne HO312.out BK303.out (by decide)))
                       have n2_ := Aside0.mk (hb)
                       have n3_ := Aside0.mk (ho)
                       clear BK302
                       clear BK303
                       clear HB
                       clear HO312
                       have BK302 := n0_
                       have BK303 := n1_
                       have HB := n2_
                       have HO316 := n3_
                       clear n0_ n1_ n2_ n3_
                       clear ho hb hg hat
                       refine hK.out _ _ trivial (fun hHeld => ?_)
                       clear hK K
                       refine norm_ (a' := ?_) ?_ ?_
                       rotate_left
                       ·show Act.put _ (some 75) _ = _
                        simp only [Act.put, List.setIfInBounds_toArray, List.set_cons_zero, List.set_cons_succ, i64_w, i32_w]
                        rfl
                       refine pu 9 (some 11) (bl 10 1023) (h := ?_)
                       refine done_ (done_of HT_.out (by kernel_rfl)) ?_
                       try go_wp2_with (first | (at_builtin; refine Kd.R_append_zeros (Kd.int .u8) (w0 := w) w.heap.size rfl (.tmp 76) (.tmp 80) 25 3 5 (.int .u8 0) 1 rfl Tryd.underlying25 Tryd.underlying3 info5 rfl (by decide) (by omega) v315 y314 0 (ji53 : Int) (fun _ => True) rfl rfl rfl ?aF ?aO (of_decide_eq_true (by first | (with_reducible assumption) | assumption)) ?aB ?aS ?aL ?_; (case aB => exact (kl HB)); (case aF => exact (fun _ _ => trivial)); (case aO => exact (kr HO316)); (case aS => exact (below_size (kl HB))); (case aL => have := LMc55.out; omega); intro v318 w68 ho hb hg hat; (try simp only [Int.reduceToNat] at ho); rw [← Ny317.out] at ho; have n0_ := Aside0.mk (blk_grown (g := gb302) (o := .cells #[.int .u64 a0_0, .int .i64 a0_1, .int .i64 a0_2] 27 (0, 0)) (kb BK302) hg (Kd.R_ne HO316.out BK302.out (by decide))); have n1_ := Aside0.mk (blk_grown (g := gb303) (o := .cells #[.int .u64 x304000_21, .int .i64 x304001_21, .int .i64 x304002_21] 27 (0, 0)) (kb BK303) hg (Kd.R_ne HO316.out BK303.out (by decide))); have n2_ := Aside0.mk (hb); have n3_ := Aside0.mk (ho); clear BK302; clear BK303; clear HB; clear HO316; have BK302 := n0_; have BK303 := n1_; have HB := n2_; have HO319 := n3_; clear n0_ n1_ n2_ n3_; clear ho hb hg hat))
                       replace HO319 := Aside0.mk (Kd.R_drew HO319.out)
                       replace BK302 := Aside0.mk (blk_drew BK302.out)
                       replace BK303 := Aside0.mk (blk_drew BK303.out)
                       replace HB := Aside0.mk (below_drew1 HB.out)
                       obtain ⟨Ao70, co70, eo70⟩ := Kd.R_slice HO319.out
                       (first | subst eo70 | (injection eo70 with f1_ f2_ f3_; have f4_ := f1_.symm; have f5_ := f3_.symm; clear f1_ f2_ f3_; subst f4_; subst f5_))
                       refine start_ (n := 6) (S := fun w' => w'.cell? ⟨gb302, 0, none⟩ = some (.int .u64 a0_0) ∧ w'.cell? ⟨gb302, 1, none⟩ = some (.int .i64 a0_1) ∧ w'.cell? ⟨gb302, 2, none⟩ = some (.int .i64 a0_2)) (ds := []) (bl 6 0) (by kernel_rfl) rfl rfl kz (fun hHeld => ?_)
                       generalize w68.drew = w69 at HO319 BK302 BK303 HB hHeld ⊢
                       refine pu 0 (some 82) (bl 6 1) (h := ?_)
                       refine pu 2 (some 84) (bl 6 5) (h := ?_)
                       refine ta 1 (some 83) (bl 6 7) (h := ?_)
                       refine one_ (i := 3) (N := some 85) #[true, true, true, true, false, false] rfl rfl (by kernel_rfl) (by decide) (fun K hK => ?_)
                       refine goes_ Tryd.func50 (by kernel_rfl) rfl #[.slice Ao70 y317.length co70] (by rfl) rfl rfl km ?_
                       with_reducible refine (gaiterref01_Number.calls kj38 _ _ y317 t320 _ ?side1 ?side2 A56.out).mono ?_
                       (case side1 => repeat (first | exact (Kd.R_reads' HO319.out).2.2 | (with_reducible refine Kd.C_alloc ?_ _) | (with_reducible refine Kd.C_drewN ?_ _) | (with_reducible refine Kd.C_drew ?_)))
                       (case side2 => exact (Kd.R_reads' HO319.out).2.1)
                       rintro e w' ⟨rfl, ⟨nd, rfl⟩⟩
                       refine ⟨_, rfl, ?_⟩
                       refine hK.out _ _ kz (fun hHeld => ?_)
                       clear hK K
                       refine norm_ (a' := ?_) ?_ ?_
                       rotate_left
                       ·show Act.put _ (some 85) _ = _
                        simp only [Act.put, List.setIfInBounds_toArray, List.set_cons_zero, List.set_cons_succ, i64_w, i32_w]
                        rfl
                       refine pu 4 (some 86) (bl 6 31) (h := ?_)
                       refine pu 5 (some 12) (bl 6 63) (h := ?_)
                       refine done_ (by kernel_rfl) ?_
                       have hnb71 := NB302_303.out
                       have hnc71 := NB303_302.out
                       obtain ⟨hcz72_0, hcz72_1, hcz72_2⟩ := kc3 BK302
                       obtain ⟨hfz72_0, hfz72_1, hfz72_2⟩ := kf3 BK302
                       try go_wp2_with (first | ((with_reducible refine gate_callee (f := 15) rfl ?_); refine goesL_ (some 90) rfl rfl Tryd.func15 (by kernel_rfl) rfl #[.agg #[.int .u64 a0_0, .int .i64 a0_1, .int .i64 a0_2], .int .u64 (Go.bits .xor .u64 a0_0 t320)] rfl km ?_; (with_reducible refine (gaiterref01_Code.calls kj38 a0_0 a0_1 a0_2 (Go.bits .xor .u64 a0_0 t320) t321 t324 t325 t326 _ A57.out).mono ?_); rintro e w73 ⟨v322, rfl, ho0, hb⟩; refine ⟨_, rfl, ?_⟩; have HO323 := Aside0.mk (Kd.R_lower (Kd.R_new' ho0 (Kd.R_lt (kr HO319))) (below_size (kl HB))); replace HO319 := Aside0.mk (Kd.R_elder' (kr HO319) (Kd.R_base ho0) hb); replace BK302 := kB BK302 hb; replace BK303 := kB BK303 hb; replace HB := kH HB hb; (try clear hb); (try clear hb2); (try clear hk); (try clear hi); (try clear ho0)) | ((with_reducible refine gate_dst (N := 14) rfl ?_); refine box_event ?hg (N := 14) ?hd (cs := #[.int .u64 0, .int .i64 0, .int .i64 0]) (t := 27) ?hr ?_; (case hd => rfl); (case hg => rfl); (case hr => first | (go_simp; done) | (go_simp; rfl)); intro gb327 hg w74 hbox hb; replace HO319 := Aside0.mk (Kd.R_below (kr HO319) hb); replace HO323 := Aside0.mk (Kd.R_below (kr HO323) hb); have BK327 := Aside0.mk (hbox); have GW327 := kG hg HB; have GE327 := kG hg HB; replace HB := kH HB hb; obtain ⟨NB302_327, NB327_302⟩ := kN hg BK302; replace BK302 := kB BK302 hb; obtain ⟨NB303_327, NB327_303⟩ := kN hg BK303; replace BK303 := kB BK303 hb; clear hb hbox hg; have hnb75 := NB327_302.out; have hnc75 := NB302_327.out; have hnb76 := NB327_303.out; have hnc76 := NB303_327.out; have hcz77_0 : w74.cell? ⟨gb327, 0, none⟩ = some (.int .u64 0) := (blk_cell BK327.out 0).trans rfl; have hcz77_1 : w74.cell? ⟨gb327, 1, none⟩ = some (.int .i64 0) := (blk_cell BK327.out 1).trans rfl; have hcz77_2 : w74.cell? ⟨gb327, 2, none⟩ = some (.int .i64 0) := (blk_cell BK327.out 2).trans rfl; have hfz77_0 := blk_frozen BK327.out 0; have hfz77_1 := blk_frozen BK327.out 1; have hfz77_2 := blk_frozen BK327.out 2))
                       have n0_ : Aside0 (Kd.R (Kd.int .u8) 5 (((w74.setCell ⟨gb327, 0, none⟩ (.int .u64 t324)).setCell ⟨gb327, 1, none⟩ (.int .i64 t325)).setCell ⟨gb327, 2, none⟩ (.int .i64 t326)) w.heap.size (fun k_ => some k_ ≠ (v322 : Value).ownBlock) (.slice Ao70 y317.length co70) y317) := ⟨by (with_reducible repeat (first | apply Kd.R_alloc | apply Kd.R_drewN | apply Kd.R_drew)); exact Kd.R_mono (Kd.R_far (p := ⟨gb327, 2, none⟩) (Kd.R_far (p := ⟨gb327, 1, none⟩) (Kd.R_far (p := ⟨gb327, 0, none⟩) (Kd.R_types HO319.out BK327.out (by decide)) (fun _ hk => hk.2) (.int .u64 t324)) (fun _ hk => hk.2) (.int .i64 t325)) (fun _ hk => hk.2) (.int .i64 t326)) (fun _ hk => hk.1.2)⟩
                       have n1_ : Aside0 (Kd.R (Kd.int .u8) 5 (((w74.setCell ⟨gb327, 0, none⟩ (.int .u64 t324)).setCell ⟨gb327, 1, none⟩ (.int .i64 t325)).setCell ⟨gb327, 2, none⟩ (.int .i64 t326)) w.heap.size (fun k_ => some k_ ≠ (.slice Ao70 y317.length co70 : Value).ownBlock) v322 t321) := ⟨by (with_reducible repeat (first | apply Kd.R_alloc | apply Kd.R_drewN | apply Kd.R_drew)); exact Kd.R_mono (Kd.R_far (p := ⟨gb327, 2, none⟩) (Kd.R_far (p := ⟨gb327, 1, none⟩) (Kd.R_far (p := ⟨gb327, 0, none⟩) (Kd.R_types HO323.out BK327.out (by decide)) (fun _ hk => hk.2) (.int .u64 t324)) (fun _ hk => hk.2) (.int .i64 t325)) (fun _ hk => hk.2) (.int .i64 t326)) (fun _ hk => hk.1.2)⟩
                       have n2_ : Aside0 ((((w74.setCell ⟨gb327, 0, none⟩ (.int .u64 t324)).setCell ⟨gb327, 1, none⟩ (.int .i64 t325)).setCell ⟨gb327, 2, none⟩ (.int .i64 t326)).heap[gb302]? = some (.cells #[.int .u64 a0_0, .int .i64 a0_1, .int .i64 a0_2] 27 (0, 0))) := ⟨by (with_reducible repeat (first | refine blk_drewN ?_ _ | refine blk_drew ?_ | refine blk_alloc ?_ _)); refine blk_far ?_ NB302_327.out _; (with_reducible repeat (first | refine blk_drewN ?_ _ | refine blk_drew ?_ | refine blk_alloc ?_ _)); refine blk_far ?_ NB302_327.out _; (with_reducible repeat (first | refine blk_drewN ?_ _ | refine blk_drew ?_ | refine blk_alloc ?_ _)); refine blk_far ?_ NB302_327.out _; (with_reducible repeat (first | refine blk_drewN ?_ _ | refine blk_drew ?_ | refine blk_alloc ?_ _)); exact BK302.out⟩
                       have n3_ : Aside0 ((((w74.setCell ⟨gb327, 0, none⟩ (.int .u64 t324)).setCell ⟨gb327, 1, none⟩ (.int .i64 t325)).setCell ⟨gb327, 2, none⟩ (.int .i64 t326)).heap[gb303]? = some (.cells #[.int .u64 x304000_21, .int .i64 x304001_21, .int .i64 x304002_21] 27 (0, 0))) := ⟨by (with_reducible repeat (first | refine blk_drewN ?_ _ | refine blk_drew ?_ | refine blk_alloc ?_ _)); refine blk_far ?_ NB303_327.out _; (with_reducible repeat (first | refine blk_drewN ?_ _ | refine blk_drew ?_ | refine blk_alloc ?_ _)); refine blk_far ?_ NB303_327.out _; (with_reducible repeat (first | refine blk_drewN ?_ _ | refine blk_drew ?_ | refine blk_alloc ?_ _)); refine blk_far ?_ NB303_327.out _; (with_reducible repeat (first | refine blk_drewN ?_ _ | refine blk_drew ?_ | refine blk_alloc ?_ _)); exact BK303.out⟩
                       have n4_ : Aside0 ((((w74.setCell ⟨gb327, 0, none⟩ (.int .u64 t324)).setCell ⟨gb327, 1, none⟩ (.int .i64 t325)).setCell ⟨gb327, 2, none⟩ (.int .i64 t326)).heap[gb327]? = some (.cells #[.int .u64 t324, .int .i64 t325, .int .i64 t326] 27 (0, 0))) := ⟨by (with_reducible repeat (first | refine blk_drewN ?_ _ | refine blk_drew ?_ | refine blk_alloc ?_ _)); refine blk_put (cs := #[.int .u64 t324, .int .i64 t325, .int .i64 0]) ?_ 2 _ rfl; (with_reducible repeat (first | refine blk_drewN ?_ _ | refine blk_drew ?_ | refine blk_alloc ?_ _)); refine blk_put (cs := #[.int .u64 t324, .int .i64 0, .int .i64 0]) ?_ 1 _ rfl; (with_reducible repeat (first | refine blk_drewN ?_ _ | refine blk_drew ?_ | refine blk_alloc ?_ _)); refine blk_put (cs := #[.int .u64 0, .int .i64 0, .int .i64 0]) ?_ 0 _ rfl; (with_reducible repeat (first | refine blk_drewN ?_ _ | refine blk_drew ?_ | refine blk_alloc ?_ _)); exact BK327.out⟩
                       have n5_ : Aside0 (Below w.heap.size w (((w74.setCell ⟨gb327, 0, none⟩ (.int .u64 t324)).setCell ⟨gb327, 1, none⟩ (.int .i64 t325)).setCell ⟨gb327, 2, none⟩ (.int .i64 t326))) := ⟨by repeat (first | (with_reducible first | exact HB.out | apply below_alloc | apply pw_below_drewN | apply below_drew1 | refine below_set ?_ GE302.out | refine below_set ?_ GE303.out | refine below_set ?_ GE327.out) | exact HB.out)⟩
                       (try clear HO319)
                       (try clear HO323)
                       (try clear BK302)
                       (try clear BK303)
                       (try clear BK327)
                       (try clear HB)
                       generalize (((w74.setCell ⟨gb327, 0, none⟩ (.int .u64 t324)).setCell ⟨gb327, 1, none⟩ (.int .i64 t325)).setCell ⟨gb327, 2, none⟩ (.int .i64 t326)) = w78 at n0_ n1_ n2_ n3_ n4_ n5_ ⊢
                       have HO319 := n0_
                       have HO323 := n1_
                       have BK302 := n2_
                       have BK303 := n3_
                       have BK327 := n4_
                       have HB := n5_
                       clear n0_ n1_ n2_ n3_ n4_ n5_
                       replace HO319 := Aside0.mk (Kd.R_drew HO319.out)
                       replace HO323 := Aside0.mk (Kd.R_drew HO323.out)
                       replace BK302 := Aside0.mk (blk_drew BK302.out)
                       replace BK303 := Aside0.mk (blk_drew BK303.out)
                       replace BK327 := Aside0.mk (blk_drew BK327.out)
                       replace HB := Aside0.mk (below_drew1 HB.out)
                       obtain ⟨Ao80, co80, eo80⟩ := Kd.R_slice HO323.out
                       (first | subst eo80 | (injection eo80 with f1_ f2_ f3_; have f4_ := f1_.symm; have f5_ := f3_.symm; clear f1_ f2_ f3_; subst f4_; subst f5_))
                       obtain ⟨i081, hi081, _, hsz81, _⟩ := info_parts info5
                       obtain ⟨hcut81, hA81, hC81⟩ := print_take_of (P := Tryd.prog) (Value.int .u8) 0 25 5 .i64 Tryd.underlying25 hi081 hsz81 (some ad304) c1 l1 (ji59) (of_decide_eq_true (by first | (with_reducible assumption) | assumption)) (of_decide_eq_true (by first | (with_reducible assumption) | assumption)) HC1.out
                       have HR328 := Aside0.mk (Kd.C_of_reads (h1 := fun _ => rfl) (hA81 _ (Kd.reads_of_C HR1.out)))
                       have HC328 := Aside0.mk hC81
                       clear hA81 hC81 hi081 hsz81
                       refine start_ (n := 17) (S := fun w' => True) (ds := []) (bl 17 0) (by kernel_rfl) rfl rfl trivial (fun hHeld => ?_); refine with_tabW gaiterref01_GetXor.tab24 gaiterref01_GetXor.bits24 (fun HT_ HW_ => ?_)
                       generalize w78.drew = w79 at HO319 HO323 BK302 BK303 BK327 HB HR328 hHeld ⊢
                       refine pu 0 (some 93) (bl 17 1) (h := ?_)
                       refine pu 1 (some 94) (bl 17 3) (h := ?_)
                       refine pu 2 (some 95) (bl 17 7) (h := ?_)
                       refine pu 3 (some 96) (bl 17 15) (h := ?_)
                       refine pu 4 (some 97) (bl 17 31) (h := ?_)
                       refine pu 5 (some 98) (bl 17 63) (h := ?_)
                       refine pu 6 (some 99) (bl 17 127) (h := ?_)
                       refine pu 7 (some 100) (bl 17 255) (h := ?_)
                       refine pu 9 (some 102) (bl 17 767) (h := ?_)
                       refine pu 10 (some 103) (bl 17 1791) (h := ?_)
                       refine pu 11 (some 104) (bl 17 3839) (h := ?_)
                       refine pu 12 (some 105) (bl 17 7935) (h := ?_)
                       refine pu 13 (some 106) (bl 17 16127) (h := ?_)
                       refine join_ (σ := Unit) 2 #[true, true, true, true, true, true, true, true, true, true, true, true, true, true, true, false, false] (fun s_ => [(101, .string (strOfNums t321)), (107, .string (strOfNums (l1.take ((ji59) : Int).toNat)))]) (fun s_ w' => (Kd.R (Kd.int .u8) 5 w' w.heap.size (fun k_ => some k_ ≠ (.slice Ao80 t321.length co80 : Value).ownBlock) (.slice Ao70 y317.length co70) y317) ∧ (Kd.R (Kd.int .u8) 5 w' w.heap.size (fun k_ => some k_ ≠ (.slice Ao70 y317.length co70 : Value).ownBlock) (.slice Ao80 t321.length co80) t321) ∧ (w'.heap[gb302]? = some (.cells #[.int .u64 a0_0, .int .i64 a0_1, .int .i64 a0_2] 27 (0, 0))) ∧ (w'.heap[gb303]? = some (.cells #[.int .u64 x304000_21, .int .i64 x304001_21, .int .i64 x304002_21] 27 (0, 0))) ∧ (w'.heap[gb327]? = some (.cells #[.int .u64 t324, .int .i64 t325, .int .i64 t326] 27 (0, 0))) ∧ (Below w.heap.size w w')) ?_ ?_
                       rotate_left
                       ·intro hCont
                        refine two_ (i := 8) (j := 14) (Ni := some 101) (Nj := some 107) #[true, true, true, true, true, true, true, true, true, true, true, true, true, true, false, false, false] #[true, true, true, true, true, true, true, true, false, true, true, true, true, true, true, false, false] rfl rfl rfl rfl (two_of HT_.out (by kernel_rfl)) (by decide) (by decide) (fun K hK => ?_) (fun K hK => ?_)
                        ·skip
                         have hcv82 := own_string (P := Tryd.prog) Tryd.underlying25 Tryd.underlying5 Tryd.underlying9 (Kd.own_of_R HO323.out)
                         refine value_ (w1 := ?_) (v := ?_) (by rfl) rfl ?_ ?_
                         rotate_left 2
                         ·go_simp
                          constructor
                          ·rfl
                          ·rfl
                         clear hcv82
                         refine hK.out _ _ trivial (fun hHeld => ?_)
                         clear hK K
                         refine norm_ (a' := ?_) ?_ ?_
                         rotate_left
                         ·show Act.put _ (some 101) _ = _
                          simp only [Act.put, List.setIfInBounds_toArray, List.set_cons_zero, List.set_cons_succ, i64_w, i32_w]
                          rfl
                         refine one_ (i := 14) (N := some 107) #[true, true, true, true, true, true, true, true, true, true, true, true, true, true, true, false, false] rfl rfl (one_of HT_.out (by kernel_rfl)) (by decide) (fun K hK => ?_)
                         have hcv83 := Kd.C_string (P := Tryd.prog) (A := (some ad304)) (c := c1) Tryd.underlying25 Tryd.underlying5 Tryd.underlying9 (by first | exact (Kd.C_below HR328.out HB.out) | exact Kd.C_below HR328.out HB.out | exact HR328.out); (try (have hle_ : ji59 ≤ (l1.length : Int) := of_decide_eq_true (by first | (with_reducible assumption) | assumption); have hln_ : (l1.take (ji59 : Int).toNat).length = (ji59 : Int).toNat := (by rw [List.length_take]; omega); rw [hln_] at hcv83; clear hle_ hln_))
                         refine value_ (w1 := ?_) (v := ?_) (by rfl) rfl ?_ ?_
                         rotate_left 2
                         ·go_simp
                          constructor
                          ·rfl
                          ·rfl
                         clear hcv83
                         refine hK.out _ _ trivial (fun hHeld => ?_)
                         clear hK K
                         refine norm_ (a' := ?_) ?_ ?_
                         rotate_left
                         ·show Act.put _ (some 107) _ = _
                          simp only [Act.put, List.setIfInBounds_toArray, List.set_cons_zero, List.set_cons_succ, i64_w, i32_w]
                          rfl
                         exact norm_ (by simp only [putAll, Act.put, List.setIfInBounds_toArray, List.set_cons_zero, List.set_cons_succ]) (hCont () _ ⟨(kr HO319), (kr HO323), (kb BK302), (kb BK303), (kb BK327), (kl HB)⟩)
                        ·skip
                         have hcv82 := Kd.C_string (P := Tryd.prog) (A := (some ad304)) (c := c1) Tryd.underlying25 Tryd.underlying5 Tryd.underlying9 (by first | exact (Kd.C_below HR328.out HB.out) | exact Kd.C_below HR328.out HB.out | exact HR328.out); (try (have hle_ : ji59 ≤ (l1.length : Int) := of_decide_eq_true (by first | (with_reducible assumption) | assumption); have hln_ : (l1.take (ji59 : Int).toNat).length = (ji59 : Int).toNat := (by rw [List.length_take]; omega); rw [hln_] at hcv82; clear hle_ hln_))
                         refine value_ (w1 := ?_) (v := ?_) (by rfl) rfl ?_ ?_
                         rotate_left 2
                         ·go_simp
                          constructor
                          ·rfl
                          ·rfl
                         clear hcv82
                         refine hK.out _ _ trivial (fun hHeld => ?_)
                         clear hK K
                         refine norm_ (a' := ?_) ?_ ?_
                         rotate_left
                         ·show Act.put _ (some 107) _ = _
                          simp only [Act.put, List.setIfInBounds_toArray, List.set_cons_zero, List.set_cons_succ, i64_w, i32_w]
                          rfl
                         refine one_ (i := 8) (N := some 101) #[true, true, true, true, true, true, true, true, true, true, true, true, true, true, true, false, false] rfl rfl (one_of HT_.out (by kernel_rfl)) (by decide) (fun K hK => ?_)
                         have hcv83 := own_string (P := Tryd.prog) Tryd.underlying25 Tryd.underlying5 Tryd.underlying9 (Kd.own_of_R HO323.out)
                         refine value_ (w1 := ?_) (v := ?_) (by rfl) rfl ?_ ?_
                         rotate_left 2
                         ·go_simp
                          constructor
                          ·rfl
                          ·rfl
                         clear hcv83
                         refine hK.out _ _ trivial (fun hHeld => ?_)
                         clear hK K
                         refine norm_ (a' := ?_) ?_ ?_
                         rotate_left
                         ·show Act.put _ (some 101) _ = _
                          simp only [Act.put, List.setIfInBounds_toArray, List.set_cons_zero, List.set_cons_succ, i64_w, i32_w]
                          rfl
                         exact norm_ (by simp only [putAll, Act.put, List.setIfInBounds_toArray, List.set_cons_zero, List.set_cons_succ]) (hCont () _ ⟨(kr HO319), (kr HO323), (kb BK302), (kb BK303), (kb BK327), (kl HB)⟩)
                       rintro _ w84 ⟨h0_, h1_, h2_, h3_, h4_, h5_⟩
                       have n0_ : Aside0 (Kd.R (Kd.int .u8) 5 w84 w.heap.size (fun k_ => some k_ ≠ (.slice Ao80 t321.length co80 : Value).ownBlock) (.slice Ao70 y317.length co70) y317) := ⟨h0_⟩
                       have n1_ : Aside0 (Kd.R (Kd.int .u8) 5 w84 w.heap.size (fun k_ => some k_ ≠ (.slice Ao70 y317.length co70 : Value).ownBlock) (.slice Ao80 t321.length co80) t321) := ⟨h1_⟩
                       have n2_ : Aside0 (w84.heap[gb302]? = some (.cells #[.int .u64 a0_0, .int .i64 a0_1, .int .i64 a0_2] 27 (0, 0))) := ⟨h2_⟩
                       have n3_ : Aside0 (w84.heap[gb303]? = some (.cells #[.int .u64 x304000_21, .int .i64 x304001_21, .int .i64 x304002_21] 27 (0, 0))) := ⟨h3_⟩
                       have n4_ : Aside0 (w84.heap[gb327]? = some (.cells #[.int .u64 t324, .int .i64 t325, .int .i64 t326] 27 (0, 0))) := ⟨h4_⟩
                       have n5_ : Aside0 (Below w.heap.size w w84) := ⟨h5_⟩
                       clear HO319
                       clear HO323
                       clear BK302
                       clear BK303
                       clear BK327
                       clear HB
                       clear h0_ h1_ h2_ h3_ h4_ h5_
                       have HO319 := n0_
                       have HO323 := n1_
                       have BK302 := n2_
                       have BK303 := n3_
                       have BK327 := n4_
                       have HB := n5_
                       clear n0_ n1_ n2_ n3_ n4_ n5_
                       have hHeld := trivial
                       refine norm_ (a' := ?_) ?_ ?_
                       rotate_left
                       ·simp only [putAll, Act.put, List.setIfInBounds_toArray, List.set_cons_zero, List.set_cons_succ]
                        rfl
                       refine pu 15 (some 108) (bl 17 65535) (h := ?_)
                       refine pu 16 (some 109) (bl 17 131071) (h := ?_)
                       refine done_ (done_of HT_.out (by kernel_rfl)) ?_
                       try go_wp2
                       replace HO319 := Aside0.mk (Kd.R_drew HO319.out)
                       replace HO323 := Aside0.mk (Kd.R_drew HO323.out)
                       replace BK302 := Aside0.mk (blk_drew BK302.out)
                       replace BK303 := Aside0.mk (blk_drew BK303.out)
                       replace BK327 := Aside0.mk (blk_drew BK327.out)
                       replace HB := Aside0.mk (below_drew1 HB.out)
                       refine start_ (n := 8) (S := fun w' => w'.cell? ⟨gb327, 0, none⟩ = some (.int .u64 t324) ∧ w'.cell? ⟨gb327, 1, none⟩ = some (.int .i64 t325) ∧ w'.cell? ⟨gb327, 2, none⟩ = some (.int .i64 t326)) (ds := []) (bl 8 0) (by kernel_rfl) rfl rfl kz (fun hHeld => ?_); refine with_tabW gaiterref01_GetXor.tab26 gaiterref01_GetXor.bits26 (fun HT_ HW_ => ?_)
                       generalize w84.drew = w85 at HO319 HO323 BK302 BK303 BK327 HB hHeld ⊢
                       refine pu 0 (some 111) (bl 8 1) (h := ?_)
                       refine pu 2 (some 113) (bl 8 5) (h := ?_)
                       refine pu 3 (some 114) (bl 8 13) (h := ?_)
                       refine pu 4 (some 4) (bl 8 29) (h := ?_)
                       refine ta 1 (some 112) (bl 8 31) (h := ?_)
                       refine one_ (i := 5) (N := none) #[true, true, true, true, true, true, false, false] rfl rfl (one_of HT_.out (by kernel_rfl)) (by decide) (fun K hK => ?_)
                       have hs86 : w85.cell? ⟨gb303, 0, none⟩ = some (.int .u64 x304000_21) := (blk_cell BK303.out 0).trans rfl
                       have hfs86 := blk_frozen BK303.out 0
                       have hns86_0 := NB302_303.out
                       have hns86_2 := NB327_303.out
                       have hms86_0 := NB303_302.out
                       have hms86_2 := NB303_327.out
                       have hs87 : w85.cell? ⟨gb303, 1, none⟩ = some (.int .i64 x304001_21) := (blk_cell BK303.out 1).trans rfl
                       have hfs87 := blk_frozen BK303.out 1
                       have hs88 : w85.cell? ⟨gb303, 2, none⟩ = some (.int .i64 x304002_21) := (blk_cell BK303.out 2).trans rfl
                       have hfs88 := blk_frozen BK303.out 2
                       refine skip_ (w1 := ?_) (by rfl) rfl ?_ ?_
                       rotate_left
                       ·go_simp
                        rfl
                       refine hK.out _ _ (ks hHeld) (fun hHeld => ?_)
                       clear hK K
                       refine pu 6 (some 6) (bl 8 127) (h := ?_)
                       refine pu 7 (some 7) (bl 8 255) (h := ?_)
                       refine done_ (done_of HT_.out (by kernel_rfl)) ?_
                       try go_wp2
                       refine bodyPost_ret (results_list (rs := [.tmp 4, .cell 5 27, .tmp 6, .tmp 7]) rfl (by simp) (.tmp (.cell gb303 27 #[.int .u64 t324, .int .i64 t325, .int .i64 t326] (0, 0) _ rfl (kb BK303) Tryd.underlying27 rfl (by kernel_rfl) (.tmp (.tmp .nil))))) rfl ?_
                       exact ⟨by first | rfl | (simp [errW_none, errW_some] <;> rfl) | (simp only [← hji53, ← hji59]; first | rfl | (simp [errW_none, errW_some] <;> rfl)) | (simp [*, errW_none, errW_some] <;> rfl), by repeat (first | (with_reducible first | exact HB.out | apply below_alloc | apply pw_below_drewN | apply below_drew1 | refine below_set ?_ GE302.out | refine below_set ?_ GE303.out | refine below_set ?_ GE327.out) | exact HB.out)⟩
                      ·rw [if_neg c62] at H
                       have c62b0 : ((strOfNums t321).toList == (strOfNums (l1.take ((ji59) : Int).toNat)).toList) = false := beq_eq_false_iff_ne.mpr c62
                       have c62b1 : ((strOfNums t321).toList != (strOfNums (l1.take ((ji59) : Int).toNat)).toList) = true := bne_iff_ne.mpr c62
                       simp only [Option.some.injEq, Prod.mk.injEq] at H
                       obtain ⟨rfl, rfl, rfl, rfl, rfl, rfl⟩ := H
                       try go_wp2
                       replace BK302 := Aside0.mk (blk_drew BK302.out)
                       replace BK303 := Aside0.mk (blk_drew BK303.out)
                       replace HB := Aside0.mk (below_drew1 HB.out)
                       obtain ⟨i090, hi090, _, hsz90, _⟩ := info_parts info5
                       obtain ⟨A90, hcut90, hA90, hC90⟩ := print_mid_of (P := Tryd.prog) (Value.int .u8) 0 25 5 .i64 .i64 Tryd.underlying25 hi090 hsz90 (some ad304) c1 l1 x10_21 (ji59) (of_decide_eq_true (by first | (with_reducible assumption) | assumption)) (by first | omega | exact of_decide_eq_true (by first | (with_reducible assumption) | assumption)) (of_decide_eq_true (by first | (with_reducible assumption) | assumption)) HC1.out
                       have HR313 := Aside0.mk (Kd.C_of_reads (h1 := fun _ => rfl) (hA90 _ (Kd.reads_of_C HR1.out)))
                       have HC313 := Aside0.mk hC90
                       clear hA90 hC90 hi090 hsz90
                       refine start_ (n := 10) (S := fun w' => True) (ds := []) (bl 10 0) (by kernel_rfl) rfl rfl trivial (fun hHeld => ?_); refine with_tabW gaiterref01_GetXor.tab20 gaiterref01_GetXor.bits20 (fun HT_ HW_ => ?_)
                       generalize wc.drew = w89 at BK302 BK303 HB HR313 hHeld ⊢
                       refine pu 0 (some 67) (bl 10 1) (h := ?_)
                       refine pu 2 (some 69) (bl 10 5) (h := ?_)
                       refine pu 3 (some 70) (bl 10 13) (h := ?_)
                       refine pu 4 (some 71) (bl 10 29) (h := ?_)
                       refine pu 5 (some 72) (bl 10 61) (h := ?_)
                       refine pu 6 (some 73) (bl 10 125) (h := ?_)
                       refine pu 7 (some 74) (bl 10 253) (h := ?_)
                       refine one_ (i := 1) (N := some 68) #[true, true, true, true, true, true, true, true, false, false] rfl rfl (one_of HT_.out (by kernel_rfl)) (by decide) (fun K hK => ?_)
                       refine Kd.R_make_step (Kd.int .u8) _ 5 (by rfl) (N := 68) rfl 25 _ _ rfl x8_21 rfl rfl Tryd.underlying25 (.int .u8 0) 1 info5 rfl (by decide) (by omega) 0 (ok := fun _ => True) (okp := fun _ => True) rfl (fun _ hk => hk) trivial (of_decide_eq_true (by first | (with_reducible assumption) | assumption)) (Nat.le_trans (Nat.mul_le_mul_right _ (of_decide_eq_true (by first | (with_reducible assumption) | assumption) : x8_21.toNat ≤ 281474976710656)) (by omega)) (Below.refl _ _) (Nat.le_refl _) ?_
                       intro v311 w91 ho92 hb hg_ hnew_
                       clear hg_ hnew_
                       (first | rw [← Ny310.out] at ho92 | (simp only [Int.reduceToNat] at ho92; rw [← Ny310.out] at ho92))
                       have HO312 := Aside0.mk (Kd.R_lower ho92 (below_size (kl HB)))
                       replace BK302 := kB BK302 hb
                       replace BK303 := kB BK303 hb
                       replace HB := kH HB hb
                       clear hb ho92
                       refine hK.out _ _ trivial (fun hHeld => ?_)
                       clear hK K
                       refine norm_ (a' := ?_) ?_ ?_
                       rotate_left
                       ·show Act.put _ (some 68) _ = _
                        simp only [Act.put, List.setIfInBounds_toArray, List.set_cons_zero, List.set_cons_succ, i64_w, i32_w]
                        rfl
                       refine one_ (i := 8) (N := some 75) #[true, true, true, true, true, true, true, true, true, false] rfl rfl (one_of HT_.out (by kernel_rfl)) (by decide) (fun K hK => ?_)
                       refine Kd.R_append_rows_step (Kd.int .u8) (w0 := w) w.heap.size (by rfl) (.tmp 68) (.tmp 74) 25 5 (.int .u8 0) 1 rfl Tryd.underlying25 info5 rfl (by decide) (by omega) v311 y310 ((l1.take ((ji59) : Int).toNat).drop (x10_21 : Int).toNat) _ _ _ (fun _ => True) (fun _ => False) rfl rfl ?aO ?aR (fun _ _ h => h) (fun _ h => h.elim) ?aF ?aB ?aS ?aL ?_
                       (case aR => first | (rw [← show ((l1.take ((ji59) : Int).toNat).drop (x10_21 : Int).toNat).length = ((ji59).toNat - x10_21.toNat) from (by rw [List.length_drop, List.length_take]; have h_ : ((ji59) : Int) ≤ (l1.length : Int) := of_decide_eq_true (by first | (with_reducible assumption) | assumption); omega)]; repeat (first | exact (Kd.C_below HR313.out HB.out) | (with_reducible refine Kd.C_alloc ?_ _) | (with_reducible refine Kd.C_drewN ?_ _) | (with_reducible refine Kd.C_drew ?_))) | (repeat (first | exact (Kd.C_below HR313.out HB.out) | (with_reducible refine Kd.C_alloc ?_ _) | (with_reducible refine Kd.C_drewN ?_ _) | (with_reducible refine Kd.C_drew ?_))))
                       (case aB => exact (kl HB))
                       (case aF => exact (fun _ _ => trivial))
                       (case aO => exact (kr HO312))
                       (case aS => exact (below_size (kl HB)))
                       (case aL => have := LMc52.out; have hlx_ := (show ((l1.take ((ji59) : Int).toNat).drop (x10_21 : Int).toNat).length = ((ji59).toNat - x10_21.toNat) from (by rw [List.length_drop, List.length_take]; have h_ : ((ji59) : Int) ≤ (l1.length : Int) := of_decide_eq_true (by first | (with_reducible assumption) | assumption); omega)); omega)
                       intro v315 w93 ho hb hg hat
                       rw [← Ny314.out] at ho
                       have n0_ := Aside0.mk (blk_grown (g := gb302) (o := .cells #[.int .u64 a0_0, .int .i64 a0_1, .int .i64 a0_2] 27 (0, 0)) (kb BK302) hg (Kd.R_ne HO312.out BK302.out (by decide)))
                       have n1_ := Aside0.mk (blk_grown (g := gb303) (o := .cells #[.int .u64 x304000_21, .int .i64 x304001_21, .int .i64 x304002_21] 27 (0, 0)) (kb BK303) hg (Kd.R_ne HO312.out BK303.out (by decide)))
                       have n2_ := Aside0.mk (hb)
                       have n3_ := Aside0.mk (ho)
                       clear BK302
                       clear BK303
                       clear HB
                       clear HO312
                       have BK302 := n0_
                       have BK303 := n1_
                       have HB := n2_
                       have HO316 := n3_
                       clear n0_ n1_ n2_ n3_
                       clear ho hb hg hat
                       refine hK.out _ _ trivial (fun hHeld => ?_)
                       clear hK K
                       refine norm_ (a' := ?_) ?_ ?_
                       rotate_left
                       ·show Act.put _ (some 75) _ = _
                        simp only [Act.put, List.setIfInBounds_toArray, List.set_cons_zero, List.set_cons_succ, i64_w, i32_w]
                        rfl
                       refine pu 9 (some 11) (bl 10 1023) (h := ?_)
                       refine done_ (done_of HT_.out (by kernel_rfl)) ?_
                       try go_wp2_with (first | (at_builtin; refine Kd.R_append_zeros (Kd.int .u8) (w0 := w) w.heap.size rfl (.tmp 76) (.tmp 80) 25 3 5 (.int .u8 0) 1 rfl Tryd.underlying25 Tryd.underlying3 info5 rfl (by decide) (by omega) v315 y314 0 (ji53 : Int) (fun _ => True) rfl rfl rfl ?aF ?aO (of_decide_eq_true (by first | (with_reducible assumption) | assumption)) ?aB ?aS ?aL ?_; (case aB => exact (kl HB)); (case aF => exact (fun _ _ => trivial)); (case aO => exact (kr HO316)); (case aS => exact (below_size (kl HB))); (case aL => have := LMc55.out; omega); intro v318 w94 ho hb hg hat; (try simp only [Int.reduceToNat] at ho); rw [← Ny317.out] at ho; have n0_ := Aside0.mk (blk_grown (g := gb302) (o := .cells #[.int .u64 a0_0, .int .i64 a0_1, .int .i64 a0_2] 27 (0, 0)) (kb BK302) hg (Kd.R_ne HO316.out BK302.out (by decide))); have n1_ := Aside0.mk (blk_grown (g := gb303) (o := .cells #[.int .u64 x304000_21, .int .i64 x304001_21, .int .i64 x304002_21] 27 (0, 0)) (kb BK303) hg (Kd.R_ne HO316.out BK303.out (by decide))); have n2_ := Aside0.mk (hb); have n3_ := Aside0.mk (ho); clear BK302; clear BK303; clear HB; clear HO316; have BK302 := n0_; have BK303 := n1_; have HB := n2_; have HO319 := n3_; clear n0_ n1_ n2_ n3_; clear ho hb hg hat))
                       replace HO319 := Aside0.mk (Kd.R_drew HO319.out)
                       replace BK302 := Aside0.mk (blk_drew BK302.out)
                       replace BK303 := Aside0.mk (blk_drew BK303.out)
                       replace HB := Aside0.mk (below_drew1 HB.out)
                       obtain ⟨Ao96, co96, eo96⟩ := Kd.R_slice HO319.out
                       (first | subst eo96 | (injection eo96 with f1_ f2_ f3_; have f4_ := f1_.symm; have f5_ := f3_.symm; clear f1_ f2_ f3_; subst f4_; subst f5_))
                       refine start_ (n := 6) (S := fun w' => w'.cell? ⟨gb302, 0, none⟩ = some (.int .u64 a0_0) ∧ w'.cell? ⟨gb302, 1, none⟩ = some (.int .i64 a0_1) ∧ w'.cell? ⟨gb302, 2, none⟩ = some (.int .i64 a0_2)) (ds := []) (bl 6 0) (by kernel_rfl) rfl rfl kz (fun hHeld => ?_)
                       generalize w94.drew = w95 at HO319 BK302 BK303 HB hHeld ⊢
                       refine pu 0 (some 82) (bl 6 1) (h := ?_)
                       refine pu 2 (some 84) (bl 6 5) (h := ?_)
                       refine ta 1 (some 83) (bl 6 7) (h := ?_)
                       refine one_ (i := 3) (N := some 85) #[true, true, true, true, false, false] rfl rfl (by kernel_rfl) (by decide) (fun K hK => ?_)
                       refine goes_ Tryd.func50 (by kernel_rfl) rfl #[.slice Ao96 y317.length co96] (by rfl) rfl rfl km ?_
                       with_reducible refine (gaiterref01_Number.calls kj38 _ _ y317 t320 _ ?side1 ?side2 A56.out).mono ?_
                       (case side1 => repeat (first | exact (Kd.R_reads' HO319.out).2.2 | (with_reducible refine Kd.C_alloc ?_ _) | (with_reducible refine Kd.C_drewN ?_ _) | (with_reducible refine Kd.C_drew ?_)))
                       (case side2 => exact (Kd.R_reads' HO319.out).2.1)
                       rintro e w' ⟨rfl, ⟨nd, rfl⟩⟩
                       refine ⟨_, rfl, ?_⟩
                       refine hK.out _ _ kz (fun hHeld => ?_)
                       clear hK K
                       refine norm_ (a' := ?_) ?_ ?_
                       rotate_left
                       ·show Act.put _ (some 85) _ = _
                        simp only [Act.put, List.setIfInBounds_toArray, List.set_cons_zero, List.set_cons_succ, i64_w, i32_w]
                        rfl
                       refine pu 4 (some 86) (bl 6 31) (h := ?_)
                       refine pu 5 (some 12) (bl 6 63) (h := ?_)
                       refine done_ (by kernel_rfl) ?_
                       have hnb97 := NB302_303.out
                       have hnc97 := NB303_302.out
                       obtain ⟨hcz98_0, hcz98_1, hcz98_2⟩ := kc3 BK302
                       obtain ⟨hfz98_0, hfz98_1, hfz98_2⟩ := kf3 BK302
                       try go_wp2_with (first | ((with_reducible refine gate_callee (f := 15) rfl ?_); refine goesL_ (some 90) rfl rfl Tryd.func15 (by kernel_rfl) rfl #[.agg #[.int .u64 a0_0, .int .i64 a0_1, .int .i64 a0_2], .int .u64 (Go.bits .xor .u64 a0_0 t320)] rfl km ?_; (with_reducible refine (gaiterref01_Code.calls kj38 a0_0 a0_1 a0_2 (Go.bits .xor .u64 a0_0 t320) t321 t324 t325 t326 _ A57.out).mono ?_); rintro e w99 ⟨v322, rfl, ho0, hb⟩; refine ⟨_, rfl, ?_⟩; have HO323 := Aside0.mk (Kd.R_lower (Kd.R_new' ho0 (Kd.R_lt (kr HO319))) (below_size (kl HB))); replace HO319 := Aside0.mk (Kd.R_elder' (kr HO319) (Kd.R_base ho0) hb); replace BK302 := kB BK302 hb; replace BK303 := kB BK303 hb; replace HB := kH HB hb; (try clear hb); (try clear hb2); (try clear hk); (try clear hi); (try clear ho0)) | ((with_reducible refine gate_dst (N := 14) rfl ?_); refine box_event ?hg (N := 14) ?hd (cs := #[.int .u64 0, .int .i64 0, .int .i64 0]) (t := 27) ?hr ?_; (case hd => rfl); (case hg => rfl); (case hr => first | (go_simp; done) | (go_simp; rfl)); intro gb327 hg w100 hbox hb; replace HO319 := Aside0.mk (Kd.R_below (kr HO319) hb); replace HO323 := Aside0.mk (Kd.R_below (kr HO323) hb); have BK327 := Aside0.mk (hbox); have GW327 := kG hg HB; have GE327 := kG hg HB; replace HB := kH HB hb; obtain ⟨NB302_327, NB327_302⟩ := kN hg BK302; replace BK302 := kB BK302 hb; obtain ⟨NB303_327, NB327_303⟩ := kN hg BK303; replace BK303 := kB BK303 hb; clear hb hbox hg; have hnb101 := NB327_302.out; have hnc101 := NB302_327.out; have hnb102 := NB327_303.out; have hnc102 := NB303_327.out; have hcz103_0 : w100.cell? ⟨gb327, 0, none⟩ = some (.int .u64 0) := (blk_cell BK327.out 0).trans rfl; have hcz103_1 : w100.cell? ⟨gb327, 1, none⟩ = some (.int .i64 0) := (blk_cell BK327.out 1).trans rfl; have hcz103_2 : w100.cell? ⟨gb327, 2, none⟩ = some (.int .i64 0) := (blk_cell BK327.out 2).trans rfl; have hfz103_0 := blk_frozen BK327.out 0; have hfz103_1 := blk_frozen BK327.out 1; have hfz103_2 := blk_frozen BK327.out 2))
                       have n0_ : Aside0 (Kd.R (Kd.int .u8) 5 (((w100.setCell ⟨gb327, 0, none⟩ (.int .u64 t324)).setCell ⟨gb327, 1, none⟩ (.int .i64 t325)).setCell ⟨gb327, 2, none⟩ (.int .i64 t326)) w.heap.size (fun k_ => some k_ ≠ (v322 : Value).ownBlock) (.slice Ao96 y317.length co96) y317) := ⟨by (with_reducible repeat (first | apply Kd.R_alloc | apply Kd.R_drewN | apply Kd.R_drew)); exact Kd.R_mono (Kd.R_far (p := ⟨gb327, 2, none⟩) (Kd.R_far (p := ⟨gb327, 1, none⟩) (Kd.R_far (p := ⟨gb327, 0, none⟩) (Kd.R_types HO319.out BK327.out (by decide)) (fun _ hk => hk.2) (.int .u64 t324)) (fun _ hk => hk.2) (.int .i64 t325)) (fun _ hk => hk.2) (.int .i64 t326)) (fun _ hk => hk.1.2)⟩
                       have n1_ : Aside0 (Kd.R (Kd.int .u8) 5 (((w100.setCell ⟨gb327, 0, none⟩ (.int .u64 t324)).setCell ⟨gb327, 1, none⟩ (.int .i64 t325)).setCell ⟨gb327, 2, none⟩ (.int .i64 t326)) w.heap.size (fun k_ => some k_ ≠ (.slice Ao96 y317.length co96 : Value).ownBlock) v322 t321) := ⟨by (with_reducible repeat (first | apply Kd.R_alloc | apply Kd.R_drewN | apply Kd.R_drew)); exact Kd.R_mono (Kd.R_far (p := ⟨gb327, 2, none⟩) (Kd.R_far (p := ⟨gb327, 1, none⟩) (Kd.R_far (p := ⟨gb327, 0, none⟩) (Kd.R_types HO323.out BK327.out (by decide)) (fun _ hk => hk.2) (.int .u64 t324)) (fun _ hk => hk.2) (.int .i64 t325)) (fun _ hk => hk.2) (.int .i64 t326)) (fun _ hk => hk.1.2)⟩
                       have n2_ : Aside0 ((((w100.setCell ⟨gb327, 0, none⟩ (.int .u64 t324)).setCell ⟨gb327, 1, none⟩ (.int .i64 t325)).setCell ⟨gb327, 2, none⟩ (.int .i64 t326)).heap[gb302]? = some (.cells #[.int .u64 a0_0, .int .i64 a0_1, .int .i64 a0_2] 27 (0, 0))) := ⟨by (with_reducible repeat (first | refine blk_drewN ?_ _ | refine blk_drew ?_ | refine blk_alloc ?_ _)); refine blk_far ?_ NB302_327.out _; (with_reducible repeat (first | refine blk_drewN ?_ _ | refine blk_drew ?_ | refine blk_alloc ?_ _)); refine blk_far ?_ NB302_327.out _; (with_reducible repeat (first | refine blk_drewN ?_ _ | refine blk_drew ?_ | refine blk_alloc ?_ _)); refine blk_far ?_ NB302_327.out _; (with_reducible repeat (first | refine blk_drewN ?_ _ | refine blk_drew ?_ | refine blk_alloc ?_ _)); exact BK302.out⟩
                       have n3_ : Aside0 ((((w100.setCell ⟨gb327, 0, none⟩ (.int .u64 t324)).setCell ⟨gb327, 1, none⟩ (.int .i64 t325)).setCell ⟨gb327, 2, none⟩ (.int .i64 t326)).heap[gb303]? = some (.cells #[.int .u64 x304000_21, .int .i64 x304001_21, .int .i64 x304002_21] 27 (0, 0))) := ⟨by (with_reducible repeat (first | refine blk_drewN ?_ _ | refine blk_drew ?_ | refine blk_alloc ?_ _)); refine blk_far ?_ NB303_327.out _; (with_reducible repeat (first | refine blk_drewN ?_ _ | refine blk_drew ?_ | refine blk_alloc ?_ _)); refine blk_far ?_ NB303_327.out _; (with_reducible repeat (first | refine blk_drewN ?_ _ | refine blk_drew ?_ | refine blk_alloc ?_ _)); refine blk_far ?_ NB303_327.out _; (with_reducible repeat (first | refine blk_drewN ?_ _ | refine blk_drew ?_ | refine blk_alloc ?_ _)); exact BK303.out⟩
                       have n4_ : Aside0 ((((w100.setCell ⟨gb327, 0, none⟩ (.int .u64 t324)).setCell ⟨gb327, 1, none⟩ (.int .i64 t325)).setCell ⟨gb327, 2, none⟩ (.int .i64 t326)).heap[gb327]? = some (.cells #[.int .u64 t324, .int .i64 t325, .int .i64 t326] 27 (0, 0))) := ⟨by (with_reducible repeat (first | refine blk_drewN ?_ _ | refine blk_drew ?_ | refine blk_alloc ?_ _)); refine blk_put (cs := #[.int .u64 t324, .int .i64 t325, .int .i64 0]) ?_ 2 _ rfl; (with_reducible repeat (first | refine blk_drewN ?_ _ | refine blk_drew ?_ | refine blk_alloc ?_ _)); refine blk_put (cs := #[.int .u64 t324, .int .i64 0, .int .i64 0]) ?_ 1 _ rfl; (with_reducible repeat (first | refine blk_drewN ?_ _ | refine blk_drew ?_ | refine blk_alloc ?_ _)); refine blk_put (cs := #[.int .u64 0, .int .i64 0, .int .i64 0]) ?_ 0 _ rfl; (with_reducible repeat (first | refine blk_drewN ?_ _ | refine blk_drew ?_ | refine blk_alloc ?_ _)); exact BK327.out⟩
                       have n5_ : Aside0 (Below w.heap.size w (((w100.setCell ⟨gb327, 0, none⟩ (.int .u64 t324)).setCell ⟨gb327, 1, none⟩ (.int .i64 t325)).setCell ⟨gb327, 2, none⟩ (.int .i64 t326))) := ⟨by repeat (first | (with_reducible first | exact HB.out | apply below_alloc | apply pw_below_drewN | apply below_drew1 | refine below_set ?_ GE302.out | refine below_set ?_ GE303.out | refine below_set ?_ GE327.out) | exact HB.out)⟩
                       (try clear HO319)
                       (try clear HO323)
                       (try clear BK302)
                       (try clear BK303)
                       (try clear BK327)
                       (try clear HB)
                       generalize (((w100.setCell ⟨gb327, 0, none⟩ (.int .u64 t324)).setCell ⟨gb327, 1, none⟩ (.int .i64 t325)).setCell ⟨gb327, 2, none⟩ (.int .i64 t326)) = w104 at n0_ n1_ n2_ n3_ n4_ n5_ ⊢
                       have HO319 := n0_
                       have HO323 := n1_
                       have BK302 := n2_
                       have BK303 := n3_
                       have BK327 := n4_
                       have HB := n5_
                       clear n0_ n1_ n2_ n3_ n4_ n5_
                       replace HO319 := Aside0.mk (Kd.R_drew HO319.out)
                       replace HO323 := Aside0.mk (Kd.R_drew HO323.out)
                       replace BK302 := Aside0.mk (blk_drew BK302.out)
                       replace BK303 := Aside0.mk (blk_drew BK303.out)
                       replace BK327 := Aside0.mk (blk_drew BK327.out)
                       replace HB := Aside0.mk (below_drew1 HB.out)
                       obtain ⟨Ao106, co106, eo106⟩ := Kd.R_slice HO323.out
                       (first | subst eo106 | (injection eo106 with f1_ f2_ f3_; have f4_ := f1_.symm; have f5_ := f3_.symm; clear f1_ f2_ f3_; subst f4_; subst f5_))
                       obtain ⟨i0107, hi0107, _, hsz107, _⟩ := info_parts info5
                       obtain ⟨hcut107, hA107, hC107⟩ := print_take_of (P := Tryd.prog) (Value.int .u8) 0 25 5 .i64 Tryd.underlying25 hi0107 hsz107 (some ad304) c1 l1 (ji59) (of_decide_eq_true (by first | (with_reducible assumption) | assumption)) (of_decide_eq_true (by first | (with_reducible assumption) | assumption)) HC1.out
                       have HR328 := Aside0.mk (Kd.C_of_reads (h1 := fun _ => rfl) (hA107 _ (Kd.reads_of_C HR1.out)))
                       have HC328 := Aside0.mk hC107
                       clear hA107 hC107 hi0107 hsz107
                       refine start_ (n := 17) (S := fun w' => True) (ds := []) (bl 17 0) (by kernel_rfl) rfl rfl trivial (fun hHeld => ?_); refine with_tabW gaiterref01_GetXor.tab24 gaiterref01_GetXor.bits24 (fun HT_ HW_ => ?_)
                       generalize w104.drew = w105 at HO319 HO323 BK302 BK303 BK327 HB HR328 hHeld ⊢
                       refine pu 0 (some 93) (bl 17 1) (h := ?_)
                       refine pu 1 (some 94) (bl 17 3) (h := ?_)
                       refine pu 2 (some 95) (bl 17 7) (h := ?_)
                       refine pu 3 (some 96) (bl 17 15) (h := ?_)
                       refine pu 4 (some 97) (bl 17 31) (h := ?_)
                       refine pu 5 (some 98) (bl 17 63) (h := ?_)
                       refine pu 6 (some 99) (bl 17 127) (h := ?_)
                       refine pu 7 (some 100) (bl 17 255) (h := ?_)
                       refine pu 9 (some 102) (bl 17 767) (h := ?_)
                       refine pu 10 (some 103) (bl 17 1791) (h := ?_)
                       refine pu 11 (some 104) (bl 17 3839) (h := ?_)
                       refine pu 12 (some 105) (bl 17 7935) (h := ?_)
                       refine pu 13 (some 106) (bl 17 16127) (h := ?_)
                       refine join_ (σ := Unit) 2 #[true, true, true, true, true, true, true, true, true, true, true, true, true, true, true, false, false] (fun s_ => [(101, .string (strOfNums t321)), (107, .string (strOfNums (l1.take ((ji59) : Int).toNat)))]) (fun s_ w' => (Kd.R (Kd.int .u8) 5 w' w.heap.size (fun k_ => some k_ ≠ (.slice Ao106 t321.length co106 : Value).ownBlock) (.slice Ao96 y317.length co96) y317) ∧ (Kd.R (Kd.int .u8) 5 w' w.heap.size (fun k_ => some k_ ≠ (.slice Ao96 y317.length co96 : Value).ownBlock) (.slice Ao106 t321.length co106) t321) ∧ (w'.heap[gb302]? = some (.cells #[.int .u64 a0_0, .int .i64 a0_1, .int .i64 a0_2] 27 (0, 0))) ∧ (w'.heap[gb303]? = some (.cells #[.int .u64 x304000_21, .int .i64 x304001_21, .int .i64 x304002_21] 27 (0, 0))) ∧ (w'.heap[gb327]? = some (.cells #[.int .u64 t324, .int .i64 t325, .int .i64 t326] 27 (0, 0))) ∧ (Below w.heap.size w w')) ?_ ?_
                       rotate_left
                       ·intro hCont
                        refine two_ (i := 8) (j := 14) (Ni := some 101) (Nj := some 107) #[true, true, true, true, true, true, true, true, true, true, true, true, true, true, false, false, false] #[true, true, true, true, true, true, true, true, false, true, true, true, true, true, true, false, false] rfl rfl rfl rfl (two_of HT_.out (by kernel_rfl)) (by decide) (by decide) (fun K hK => ?_) (fun K hK => ?_)
                        ·skip
                         have hcv108 := own_string (P := Tryd.prog) Tryd.underlying25 Tryd.underlying5 Tryd.underlying9 (Kd.own_of_R HO323.out)
                         refine value_ (w1 := ?_) (v := ?_) (by rfl) rfl ?_ ?_
                         rotate_left 2
                         ·go_simp
                          constructor
                          ·rfl
                          ·rfl
                         clear hcv108
                         refine hK.out _ _ trivial (fun hHeld => ?_)
                         clear hK K
                         refine norm_ (a' := ?_) ?_ ?_
                         rotate_left
                         ·show Act.put _ (some 101) _ = _
                          simp only [Act.put, List.setIfInBounds_toArray, List.set_cons_zero, List.set_cons_succ, i64_w, i32_w]
                          rfl
                         refine one_ (i := 14) (N := some 107) #[true, true, true, true, true, true, true, true, true, true, true, true, true, true, true, false, false] rfl rfl (one_of HT_.out (by kernel_rfl)) (by decide) (fun K hK => ?_)
                         have hcv109 := Kd.C_string (P := Tryd.prog) (A := (some ad304)) (c := c1) Tryd.underlying25 Tryd.underlying5 Tryd.underlying9 (by first | exact (Kd.C_below HR328.out HB.out) | exact Kd.C_below HR328.out HB.out | exact HR328.out); (try (have hle_ : ji59 ≤ (l1.length : Int) := of_decide_eq_true (by first | (with_reducible assumption) | assumption); have hln_ : (l1.take (ji59 : Int).toNat).length = (ji59 : Int).toNat := (by rw [List.length_take]; omega); rw [hln_] at hcv109; clear hle_ hln_))
                         refine value_ (w1 := ?_) (v := ?_) (by rfl) rfl ?_ ?_
                         rotate_left 2
                         ·go_simp
                          constructor
                          ·rfl
                          ·rfl
                         clear hcv109
                         refine hK.out _ _ trivial (fun hHeld => ?_)
                         clear hK K
                         refine norm_ (a' := ?_) ?_ ?_
                         rotate_left
                         ·show Act.put _ (some 107) _ = _
                          simp only [Act.put, List.setIfInBounds_toArray, List.set_cons_zero, List.set_cons_succ, i64_w, i32_w]
                          rfl
                         exact norm_ (by simp only [putAll, Act.put, List.setIfInBounds_toArray, List.set_cons_zero, List.set_cons_succ]) (hCont () _ ⟨(kr HO319), (kr HO323), (kb BK302), (kb BK303), (kb BK327), (kl HB)⟩)
                        ·skip
                         have hcv108 := Kd.C_string (P := Tryd.prog) (A := (some ad304)) (c := c1) Tryd.underlying25 Tryd.underlying5 Tryd.underlying9 (by first | exact (Kd.C_below HR328.out HB.out) | exact Kd.C_below HR328.out HB.out | exact HR328.out); (try (have hle_ : ji59 ≤ (l1.length : Int) := of_decide_eq_true (by first | (with_reducible assumption) | assumption); have hln_ : (l1.take (ji59 : Int).toNat).length = (ji59 : Int).toNat := (by rw [List.length_take]; omega); rw [hln_] at hcv108; clear hle_ hln_))
                         refine value_ (w1 := ?_) (v := ?_) (by rfl) rfl ?_ ?_
                         rotate_left 2
                         ·go_simp
                          constructor
                          ·rfl
                          ·rfl
                         clear hcv108
                         refine hK.out _ _ trivial (fun hHeld => ?_)
                         clear hK K
                         refine norm_ (a' := ?_) ?_ ?_
                         rotate_left
                         ·show Act.put _ (some 107) _ = _
                          simp only [Act.put, List.setIfInBounds_toArray, List.set_cons_zero, List.set_cons_succ, i64_w, i32_w]
                          rfl
                         refine one_ (i := 8) (N := some 101) #[true, true, true, true, true, true, true, true, true, true, true, true, true, true, true, false, false] rfl rfl (one_of HT_.out (by kernel_rfl)) (by decide) (fun K hK => ?_)
                         have hcv109 := own_string (P := Tryd.prog) Tryd.underlying25 Tryd.underlying5 Tryd.underlying9 (Kd.own_of_R HO323.out)
                         refine value_ (w1 := ?_) (v := ?_) (by rfl) rfl ?_ ?_
                         rotate_left 2
                         ·go_simp
                          constructor
                          ·rfl
                          ·rfl
                         clear hcv109
                         refine hK.out _ _ trivial (fun hHeld => ?_)
                         clear hK K
                         refine norm_ (a' := ?_) ?_ ?_
                         rotate_left
                         ·show Act.put _ (some 101) _ = _
                          simp only [Act.put, List.setIfInBounds_toArray, List.set_cons_zero, List.set_cons_succ, i64_w, i32_w]
                          rfl
                         exact norm_ (by simp only [putAll, Act.put, List.setIfInBounds_toArray, List.set_cons_zero, List.set_cons_succ]) (hCont () _ ⟨(kr HO319), (kr HO323), (kb BK302), (kb BK303), (kb BK327), (kl HB)⟩)
                       rintro _ w110 ⟨h0_, h1_, h2_, h3_, h4_, h5_⟩
                       have n0_ : Aside0 (Kd.R (Kd.int .u8) 5 w110 w.heap.size (fun k_ => some k_ ≠ (.slice Ao106 t321.length co106 : Value).ownBlock) (.slice Ao96 y317.length co96) y317) := ⟨h0_⟩
                       have n1_ : Aside0 (Kd.R (Kd.int .u8) 5 w110 w.heap.size (fun k_ => some k_ ≠ (.slice Ao96 y317.length co96 : Value).ownBlock) (.slice Ao106 t321.length co106) t321) := ⟨h1_⟩
                       have n2_ : Aside0 (w110.heap[gb302]? = some (.cells #[.int .u64 a0_0, .int .i64 a0_1, .int .i64 a0_2] 27 (0, 0))) := ⟨h2_⟩
                       have n3_ : Aside0 (w110.heap[gb303]? = some (.cells #[.int .u64 x304000_21, .int .i64 x304001_21, .int .i64 x304002_21] 27 (0, 0))) := ⟨h3_⟩
                       have n4_ : Aside0 (w110.heap[gb327]? = some (.cells #[.int .u64 t324, .int .i64 t325, .int .i64 t326] 27 (0, 0))) := ⟨h4_⟩
                       have n5_ : Aside0 (Below w.heap.size w w110) := ⟨h5_⟩
                       clear HO319
                       clear HO323
                       clear BK302
                       clear BK303
                       clear BK327
                       clear HB
                       clear h0_ h1_ h2_ h3_ h4_ h5_
                       have HO319 := n0_
                       have HO323 := n1_
                       have BK302 := n2_
                       have BK303 := n3_
                       have BK327 := n4_
                       have HB := n5_
                       clear n0_ n1_ n2_ n3_ n4_ n5_
                       have hHeld := trivial
                       refine norm_ (a' := ?_) ?_ ?_
                       rotate_left
                       ·simp only [putAll, Act.put, List.setIfInBounds_toArray, List.set_cons_zero, List.set_cons_succ]
                        rfl
                       refine pu 15 (some 108) (bl 17 65535) (h := ?_)
                       refine pu 16 (some 109) (bl 17 131071) (h := ?_)
                       refine done_ (done_of HT_.out (by kernel_rfl)) ?_
                       obtain ⟨hcz111_0, hcz111_1, hcz111_2⟩ := kc3 BK303
                       obtain ⟨hfz111_0, hfz111_1, hfz111_2⟩ := kf3 BK303
                       try go_wp2
                       refine bodyPost_ret (results_list (rs := [.tmp 4, .cell 5 27, .tmp 6, .tmp 7]) rfl (by simp) (.tmp (.cell gb303 27 #[.int .u64 0, .int .i64 0, .int .i64 0] (0, 0) _ rfl (kb BK303) Tryd.underlying27 rfl (by kernel_rfl) (.tmp (.tmp .nil))))) rfl ?_
                       exact ⟨by first | rfl | (simp [errW_none, errW_some] <;> rfl) | (simp only [← hji53, ← hji59]; first | rfl | (simp [errW_none, errW_some] <;> rfl)) | (simp [*, errW_none, errW_some] <;> rfl), by repeat (first | (with_reducible first | exact HB.out | apply below_alloc | apply pw_below_drewN | apply below_drew1 | refine below_set ?_ GE302.out | refine below_set ?_ GE303.out | refine below_set ?_ GE327.out) | exact HB.out)⟩
                     ·rw [if_neg c60] at H
                      exact absurd H (by simp)
                    ·rw [if_neg c58] at H
                     have c58b0 : ((t321.length : Int) == (wrap64 (x10_21 + x9_21))) = false := beq_eq_false_iff_ne.mpr c58
                     have c58b1 : ((t321.length : Int) != (wrap64 (x10_21 + x9_21))) = true := bne_iff_ne.mpr c58
                     simp only [Option.some.injEq, Prod.mk.injEq] at H
                     obtain ⟨rfl, rfl, rfl, rfl, rfl, rfl⟩ := H
                     try go_wp2
                     replace BK302 := Aside0.mk (blk_drew BK302.out)
                     replace BK303 := Aside0.mk (blk_drew BK303.out)
                     replace HB := Aside0.mk (below_drew1 HB.out)
                     obtain ⟨i0113, hi0113, _, hsz113, _⟩ := info_parts info5
                     obtain ⟨A113, hcut113, hA113, hC113⟩ := print_mid_of (P := Tryd.prog) (Value.int .u8) 0 25 5 .i64 .i64 Tryd.underlying25 hi0113 hsz113 (some ad304) c1 l1 x10_21 (wrap64 (x10_21 + x9_21)) (of_decide_eq_true (by first | (with_reducible assumption) | assumption)) (by first | omega | exact of_decide_eq_true (by first | (with_reducible assumption) | assumption)) (of_decide_eq_true (by first | (with_reducible assumption) | assumption)) HC1.out
                     have HR313 := Aside0.mk (Kd.C_of_reads (h1 := fun _ => rfl) (hA113 _ (Kd.reads_of_C HR1.out)))
                     have HC313 := Aside0.mk hC113
                     clear hA113 hC113 hi0113 hsz113
                     refine start_ (n := 10) (S := fun w' => True) (ds := []) (bl 10 0) (by kernel_rfl) rfl rfl trivial (fun hHeld => ?_); refine with_tabW gaiterref01_GetXor.tab20 gaiterref01_GetXor.bits20 (fun HT_ HW_ => ?_)
                     generalize wc.drew = w112 at BK302 BK303 HB HR313 hHeld ⊢
                     refine pu 0 (some 67) (bl 10 1) (h := ?_)
                     refine pu 2 (some 69) (bl 10 5) (h := ?_)
                     refine pu 3 (some 70) (bl 10 13) (h := ?_)
                     refine pu 4 (some 71) (bl 10 29) (h := ?_)
                     refine pu 5 (some 72) (bl 10 61) (h := ?_)
                     refine pu 6 (some 73) (bl 10 125) (h := ?_)
                     refine pu 7 (some 74) (bl 10 253) (h := ?_)
                     refine one_ (i := 1) (N := some 68) #[true, true, true, true, true, true, true, true, false, false] rfl rfl (one_of HT_.out (by kernel_rfl)) (by decide) (fun K hK => ?_)
                     refine Kd.R_make_step (Kd.int .u8) _ 5 (by rfl) (N := 68) rfl 25 _ _ rfl x8_21 rfl rfl Tryd.underlying25 (.int .u8 0) 1 info5 rfl (by decide) (by omega) 0 (ok := fun _ => True) (okp := fun _ => True) rfl (fun _ hk => hk) trivial (of_decide_eq_true (by first | (with_reducible assumption) | assumption)) (Nat.le_trans (Nat.mul_le_mul_right _ (of_decide_eq_true (by first | (with_reducible assumption) | assumption) : x8_21.toNat ≤ 281474976710656)) (by omega)) (Below.refl _ _) (Nat.le_refl _) ?_
                     intro v311 w114 ho115 hb hg_ hnew_
                     clear hg_ hnew_
                     (first | rw [← Ny310.out] at ho115 | (simp only [Int.reduceToNat] at ho115; rw [← Ny310.out] at ho115))
                     have HO312 := Aside0.mk (Kd.R_lower ho115 (below_size (kl HB)))
                     replace BK302 := kB BK302 hb
                     replace BK303 := kB BK303 hb
                     replace HB := kH HB hb
                     clear hb ho115
                     refine hK.out _ _ trivial (fun hHeld => ?_)
                     clear hK K
                     refine norm_ (a' := ?_) ?_ ?_
                     rotate_left
                     ·show Act.put _ (some 68) _ = _
                      simp only [Act.put, List.setIfInBounds_toArray, List.set_cons_zero, List.set_cons_succ, i64_w, i32_w]
                      rfl
                     refine one_ (i := 8) (N := some 75) #[true, true, true, true, true, true, true, true, true, false] rfl rfl (one_of HT_.out (by kernel_rfl)) (by decide) (fun K hK => ?_)
                     refine Kd.R_append_rows_step (Kd.int .u8) (w0 := w) w.heap.size (by rfl) (.tmp 68) (.tmp 74) 25 5 (.int .u8 0) 1 rfl Tryd.underlying25 info5 rfl (by decide) (by omega) v311 y310 ((l1.take ((wrap64 (x10_21 + x9_21)) : Int).toNat).drop (x10_21 : Int).toNat) _ _ _ (fun _ => True) (fun _ => False) rfl rfl ?aO ?aR (fun _ _ h => h) (fun _ h => h.elim) ?aF ?aB ?aS ?aL ?_
                     (case aR => first | (rw [← show ((l1.take ((wrap64 (x10_21 + x9_21)) : Int).toNat).drop (x10_21 : Int).toNat).length = ((wrap64 (x10_21 + x9_21)).toNat - x10_21.toNat) from (by rw [List.length_drop, List.length_take]; have h_ : ((wrap64 (x10_21 + x9_21)) : Int) ≤ (l1.length : Int) := of_decide_eq_true (by first | (with_reducible assumption) | assumption); omega)]; repeat (first | exact (Kd.C_below HR313.out HB.out) | (with_reducible refine Kd.C_alloc ?_ _) | (with_reducible refine Kd.C_drewN ?_ _) | (with_reducible refine Kd.C_drew ?_))) | (repeat (first | exact (Kd.C_below HR313.out HB.out) | (with_reducible refine Kd.C_alloc ?_ _) | (with_reducible refine Kd.C_drewN ?_ _) | (with_reducible refine Kd.C_drew ?_))))
                     (case aB => exact (kl HB))
                     (case aF => exact (fun _ _ => trivial))
                     (case aO => exact (kr HO312))
                     (case aS => exact (below_size (kl HB)))
                     (case aL => have := LMc52.out; have hlx_ := (show ((l1.take ((wrap64 (x10_21 + x9_21)) : Int).toNat).drop (x10_21 : Int).toNat).length = ((wrap64 (x10_21 + x9_21)).toNat - x10_21.toNat) from (by rw [List.length_drop, List.length_take]; have h_ : ((wrap64 (x10_21 + x9_21)) : Int) ≤ (l1.length : Int) := of_decide_eq_true (by first | (with_reducible assumption) | assumption); omega)); omega)
                     intro v315 w116 ho hb hg hat
                     rw [← Ny314.out] at ho
                     have n0_ := Aside0.mk (blk_grown (g := gb302) (o := .cells #[.int .u64 a0_0, .int .i64 a0_1, .int .i64 a0_2] 27 (0, 0)) (kb BK302) hg (Kd.R_ne HO312.out BK302.out (by decide)))
                     have n1_ := Aside0.mk (blk_grown (g := gb303) (o := .cells #[.int .u64 x304000_21, .int .i64 x304001_21, .int .i64 x304002_21] 27 (0, 0)) (kb BK303) hg (Kd.R_ne HO312.out BK303.out (by decide)))
                     have n2_ := Aside0.mk (hb)
                     have n3_ := Aside0.mk (ho)
                     clear BK302
                     clear BK303
                     clear HB
                     clear HO312
                     have BK302 := n0_
                     have BK303 := n1_
                     have HB := n2_
                     have HO316 := n3_
                     clear n0_ n1_ n2_ n3_
                     clear ho hb hg hat
                     refine hK.out _ _ trivial (fun hHeld => ?_)
                     clear hK K
                     refine norm_ (a' := ?_) ?_ ?_
                     rotate_left
                     ·show Act.put _ (some 75) _ = _
                      simp only [Act.put, List.setIfInBounds_toArray, List.set_cons_zero, List.set_cons_succ, i64_w, i32_w]
                      rfl
                     refine pu 9 (some 11) (bl 10 1023) (h := ?_)
                     refine done_ (done_of HT_.out (by kernel_rfl)) ?_
                     try go_wp2_with (first | (at_builtin; refine Kd.R_append_zeros (Kd.int .u8) (w0 := w) w.heap.size rfl (.tmp 76) (.tmp 80) 25 3 5 (.int .u8 0) 1 rfl Tryd.underlying25 Tryd.underlying3 info5 rfl (by decide) (by omega) v315 y314 0 (ji53 : Int) (fun _ => True) rfl rfl rfl ?aF ?aO (of_decide_eq_true (by first | (with_reducible assumption) | assumption)) ?aB ?aS ?aL ?_; (case aB => exact (kl HB)); (case aF => exact (fun _ _ => trivial)); (case aO => exact (kr HO316)); (case aS => exact (below_size (kl HB))); (case aL => have := LMc55.out; omega); intro v318 w117 ho hb hg hat; (try simp only [Int.reduceToNat] at ho); rw [← Ny317.out] at ho; have n0_ := Aside0.mk (blk_grown (g := gb302) (o := .cells #[.int .u64 a0_0, .int .i64 a0_1, .int .i64 a0_2] 27 (0, 0)) (kb BK302) hg (Kd.R_ne HO316.out BK302.out (by decide))); have n1_ := Aside0.mk (blk_grown (g := gb303) (o := .cells #[.int .u64 x304000_21, .int .i64 x304001_21, .int .i64 x304002_21] 27 (0, 0)) (kb BK303) hg (Kd.R_ne HO316.out BK303.out (by decide))); have n2_ := Aside0.mk (hb); have n3_ := Aside0.mk (ho); clear BK302; clear BK303; clear HB; clear HO316; have BK302 := n0_; have BK303 := n1_; have HB := n2_; have HO319 := n3_; clear n0_ n1_ n2_ n3_; clear ho hb hg hat))
                     replace HO319 := Aside0.mk (Kd.R_drew HO319.out)
                     replace BK302 := Aside0.mk (blk_drew BK302.out)
                     replace BK303 := Aside0.mk (blk_drew BK303.out)
                     replace HB := Aside0.mk (below_drew1 HB.out)
                     obtain ⟨Ao119, co119, eo119⟩ := Kd.R_slice HO319.out
                     (first | subst eo119 | (injection eo119 with f1_ f2_ f3_; have f4_ := f1_.symm; have f5_ := f3_.symm; clear f1_ f2_ f3_; subst f4_; subst f5_))
                     refine start_ (n := 6) (S := fun w' => w'.cell? ⟨gb302, 0, none⟩ = some (.int .u64 a0_0) ∧ w'.cell? ⟨gb302, 1, none⟩ = some (.int .i64 a0_1) ∧ w'.cell? ⟨gb302, 2, none⟩ = some (.int .i64 a0_2)) (ds := []) (bl 6 0) (by kernel_rfl) rfl rfl kz (fun hHeld => ?_)
                     generalize w117.drew = w118 at HO319 BK302 BK303 HB hHeld ⊢
                     refine pu 0 (some 82) (bl 6 1) (h := ?_)
                     refine pu 2 (some 84) (bl 6 5) (h := ?_)
                     refine ta 1 (some 83) (bl 6 7) (h := ?_)
                     refine one_ (i := 3) (N := some 85) #[true, true, true, true, false, false] rfl rfl (by kernel_rfl) (by decide) (fun K hK => ?_)
                     refine goes_ Tryd.func50 (by kernel_rfl) rfl #[.slice Ao119 y317.length co119] (by rfl) rfl rfl km ?_
                     with_reducible refine (gaiterref01_Number.calls kj38 _ _ y317 t320 _ ?side1 ?side2 A56.out).mono ?_
                     (case side1 => repeat (first | exact (Kd.R_reads' HO319.out).2.2 | (with_reducible refine Kd.C_alloc ?_ _) | (with_reducible refine Kd.C_drewN ?_ _) | (with_reducible refine Kd.C_drew ?_)))
                     (case side2 => exact (Kd.R_reads' HO319.out).2.1)
                     rintro e w' ⟨rfl, ⟨nd, rfl⟩⟩
                     refine ⟨_, rfl, ?_⟩
                     refine hK.out _ _ kz (fun hHeld => ?_)
                     clear hK K
                     refine norm_ (a' := ?_) ?_ ?_
                     rotate_left
                     ·show Act.put _ (some 85) _ = _
                      simp only [Act.put, List.setIfInBounds_toArray, List.set_cons_zero, List.set_cons_succ, i64_w, i32_w]
                      rfl
                     refine pu 4 (some 86) (bl 6 31) (h := ?_)
                     refine pu 5 (some 12) (bl 6 63) (h := ?_)
                     refine done_ (by kernel_rfl) ?_
                     have hnb120 := NB302_303.out
                     have hnc120 := NB303_302.out
                     obtain ⟨hcz121_0, hcz121_1, hcz121_2⟩ := kc3 BK302
                     obtain ⟨hfz121_0, hfz121_1, hfz121_2⟩ := kf3 BK302
                     try go_wp2_with (first | ((with_reducible refine gate_callee (f := 15) rfl ?_); refine goesL_ (some 90) rfl rfl Tryd.func15 (by kernel_rfl) rfl #[.agg #[.int .u64 a0_0, .int .i64 a0_1, .int .i64 a0_2], .int .u64 (Go.bits .xor .u64 a0_0 t320)] rfl km ?_; (with_reducible refine (gaiterref01_Code.calls kj38 a0_0 a0_1 a0_2 (Go.bits .xor .u64 a0_0 t320) t321 t324 t325 t326 _ A57.out).mono ?_); rintro e w122 ⟨v322, rfl, ho0, hb⟩; refine ⟨_, rfl, ?_⟩; have HO323 := Aside0.mk (Kd.R_lower (Kd.R_new' ho0 (Kd.R_lt (kr HO319))) (below_size (kl HB))); replace HO319 := Aside0.mk (Kd.R_elder' (kr HO319) (Kd.R_base ho0) hb); replace BK302 := kB BK302 hb; replace BK303 := kB BK303 hb; replace HB := kH HB hb; (try clear hb); (try clear hb2); (try clear hk); (try clear hi); (try clear ho0)) | ((with_reducible refine gate_dst (N := 14) rfl ?_); refine box_event ?hg (N := 14) ?hd (cs := #[.int .u64 0, .int .i64 0, .int .i64 0]) (t := 27) ?hr ?_; (case hd => rfl); (case hg => rfl); (case hr => first | (go_simp; done) | (go_simp; rfl)); intro gb327 hg w123 hbox hb; replace HO319 := Aside0.mk (Kd.R_below (kr HO319) hb); replace HO323 := Aside0.mk (Kd.R_below (kr HO323) hb); have BK327 := Aside0.mk (hbox); have GW327 := kG hg HB; have GE327 := kG hg HB; replace HB := kH HB hb; obtain ⟨NB302_327, NB327_302⟩ := kN hg BK302; replace BK302 := kB BK302 hb; obtain ⟨NB303_327, NB327_303⟩ := kN hg BK303; replace BK303 := kB BK303 hb; clear hb hbox hg; have hnb124 := NB327_302.out; have hnc124 := NB302_327.out; have hnb125 := NB327_303.out; have hnc125 := NB303_327.out; have hcz126_0 : w123.cell? ⟨gb327, 0, none⟩ = some (.int .u64 0) := (blk_cell BK327.out 0).trans rfl; have hcz126_1 : w123.cell? ⟨gb327, 1, none⟩ = some (.int .i64 0) := (blk_cell BK327.out 1).trans rfl; have hcz126_2 : w123.cell? ⟨gb327, 2, none⟩ = some (.int .i64 0) := (blk_cell BK327.out 2).trans rfl; have hfz126_0 := blk_frozen BK327.out 0; have hfz126_1 := blk_frozen BK327.out 1; have hfz126_2 := blk_frozen BK327.out 2))
                     have n0_ : Aside0 (Kd.R (Kd.int .u8) 5 (((w123.setCell ⟨gb327, 0, none⟩ (.int .u64 t324)).setCell ⟨gb327, 1, none⟩ (.int .i64 t325)).setCell ⟨gb327, 2, none⟩ (.int .i64 t326)) w.heap.size (fun k_ => some k_ ≠ (v322 : Value).ownBlock) (.slice Ao119 y317.length co119) y317) := ⟨by (with_reducible repeat (first | apply Kd.R_alloc | apply Kd.R_drewN | apply Kd.R_drew)); exact Kd.R_mono (Kd.R_far (p := ⟨gb327, 2, none⟩) (Kd.R_far (p := ⟨gb327, 1, none⟩) (Kd.R_far (p := ⟨gb327, 0, none⟩) (Kd.R_types HO319.out BK327.out (by decide)) (fun _ hk => hk.2) (.int .u64 t324)) (fun _ hk => hk.2) (.int .i64 t325)) (fun _ hk => hk.2) (.int .i64 t326)) (fun _ hk => hk.1.2)⟩
                     have n1_ : Aside0 (Kd.R (Kd.int .u8) 5 (((w123.setCell ⟨gb327, 0, none⟩ (.int .u64 t324)).setCell ⟨gb327, 1, none⟩ (.int .i64 t325)).setCell ⟨gb327, 2, none⟩ (.int .i64 t326)) w.heap.size (fun k_ => some k_ ≠ (.slice Ao119 y317.length co119 : Value).ownBlock) v322 t321) := ⟨by (with_reducible repeat (first | apply Kd.R_alloc | apply Kd.R_drewN | apply Kd.R_drew)); exact Kd.R_mono (Kd.R_far (p := ⟨gb327, 2, none⟩) (Kd.R_far (p := ⟨gb327, 1, none⟩) (Kd.R_far (p := ⟨gb327, 0, none⟩) (Kd.R_types HO323.out BK327.out (by decide)) (fun _ hk => hk.2) (.int .u64 t324)) (fun _ hk => hk.2) (.int .i64 t325)) (fun _ hk => hk.2) (.int .i64 t326)) (fun _ hk => hk.1.2)⟩
                     have n2_ : Aside0 ((((w123.setCell ⟨gb327, 0, none⟩ (.int .u64 t324)).setCell ⟨gb327, 1, none⟩ (.int .i64 t325)).setCell ⟨gb327, 2, none⟩ (.int .i64 t326)).heap[gb302]? = some (.cells #[.int .u64 a0_0, .int .i64 a0_1, .int .i64 a0_2] 27 (0, 0))) := ⟨by (with_reducible repeat (first | refine blk_drewN ?_ _ | refine blk_drew ?_ | refine blk_alloc ?_ _)); refine blk_far ?_ NB302_327.out _; (with_reducible repeat (first | refine blk_drewN ?_ _ | refine blk_drew ?_ | refine blk_alloc ?_ _)); refine blk_far ?_ NB302_327.out _; (with_reducible repeat (first | refine blk_drewN ?_ _ | refine blk_drew ?_ | refine blk_alloc ?_ _)); refine blk_far ?_ NB302_327.out _; (with_reducible repeat (first | refine blk_drewN ?_ _ | refine blk_drew ?_ | refine blk_alloc ?_ _)); exact BK302.out⟩
                     have n3_ : Aside0 ((((w123.setCell ⟨gb327, 0, none⟩ (.int .u64 t324)).setCell ⟨gb327, 1, none⟩ (.int .i64 t325)).setCell ⟨gb327, 2, none⟩ (.int .i64 t326)).heap[gb303]? = some (.cells #[.int .u64 x304000_21, .int .i64 x304001_21, .int .i64 x304002_21] 27 (0, 0))) := ⟨by (with_reducible repeat (first | refine blk_drewN ?_ _ | refine blk_drew ?_ | refine blk_alloc ?_ _)); refine blk_far ?_ NB303_327.out _; (with_reducible repeat (first | refine blk_drewN ?_ _ | refine blk_drew ?_ | refine blk_alloc ?_ _)); refine blk_far ?_ NB303_327.out _; (with_reducible repeat (first | refine blk_drewN ?_ _ | refine blk_drew ?_ | refine blk_alloc ?_ _)); refine blk_far ?_ NB303_327.out _; (with_reducible repeat (first | refine blk_drewN ?_ _ | refine blk_drew ?_ | refine blk_alloc ?_ _)); exact BK303.out⟩
                     have n4_ : Aside0 ((((w123.setCell ⟨gb327, 0, none⟩ (.int .u64 t324)).setCell ⟨gb327, 1, none⟩ (.int .i64 t325)).setCell ⟨gb327, 2, none⟩ (.int .i64 t326)).heap[gb327]? = some (.cells #[.int .u64 t324, .int .i64 t325, .int .i64 t326] 27 (0, 0))) := ⟨by (with_reducible repeat (first | refine blk_drewN ?_ _ | refine blk_drew ?_ | refine blk_alloc ?_ _)); refine blk_put (cs := #[.int .u64 t324, .int .i64 t325, .int .i64 0]) ?_ 2 _ rfl; (with_reducible repeat (first | refine blk_drewN ?_ _ | refine blk_drew ?_ | refine blk_alloc ?_ _)); refine blk_put (cs := #[.int .u64 t324, .int .i64 0, .int .i64 0]) ?_ 1 _ rfl; (with_reducible repeat (first | refine blk_drewN ?_ _ | refine blk_drew ?_ | refine blk_alloc ?_ _)); refine blk_put (cs := #[.int .u64 0, .int .i64 0, .int .i64 0]) ?_ 0 _ rfl; (with_reducible repeat (first | refine blk_drewN ?_ _ | refine blk_drew ?_ | refine blk_alloc ?_ _)); exact BK327.out⟩
                     have n5_ : Aside0 (Below w.heap.size w (((w123.setCell ⟨gb327, 0, none⟩ (.int .u64 t324)).setCell ⟨gb327, 1, none⟩ (.int .i64 t325)).setCell ⟨gb327, 2, none⟩ (.int .i64 t326))) := ⟨by repeat (first | (with_reducible first | exact HB.out | apply below_alloc | apply pw_below_drewN | apply below_drew1 | refine below_set ?_ GE302.out | refine below_set ?_ GE303.out | refine below_set ?_ GE327.out) | exact HB.out)⟩
                     (try clear HO319)
                     (try clear HO323)
                     (try clear BK302)
                     (try clear BK303)
                     (try clear BK327)
                     (try clear HB)
                     generalize (((w123.setCell ⟨gb327, 0, none⟩ (.int .u64 t324)).setCell ⟨gb327, 1, none⟩ (.int .i64 t325)).setCell ⟨gb327, 2, none⟩ (.int .i64 t326)) = w127 at n0_ n1_ n2_ n3_ n4_ n5_ ⊢
                     have HO319 := n0_
                     have HO323 := n1_
                     have BK302 := n2_
                     have BK303 := n3_
                     have BK327 := n4_
                     have HB := n5_
                     clear n0_ n1_ n2_ n3_ n4_ n5_
                     replace HO319 := Aside0.mk (Kd.R_drew HO319.out)
                     replace HO323 := Aside0.mk (Kd.R_drew HO323.out)
                     replace BK302 := Aside0.mk (blk_drew BK302.out)
                     replace BK303 := Aside0.mk (blk_drew BK303.out)
                     replace BK327 := Aside0.mk (blk_drew BK327.out)
                     replace HB := Aside0.mk (below_drew1 HB.out)
                     obtain ⟨Ao129, co129, eo129⟩ := Kd.R_slice HO323.out
                     (first | subst eo129 | (injection eo129 with f1_ f2_ f3_; have f4_ := f1_.symm; have f5_ := f3_.symm; clear f1_ f2_ f3_; subst f4_; subst f5_))
                     refine start_ (n := 17) (S := fun w' => True) (ds := []) (bl 17 0) (by kernel_rfl) rfl rfl trivial (fun hHeld => ?_); refine with_tabW gaiterref01_GetXor.tab24 gaiterref01_GetXor.bits24 (fun HT_ HW_ => ?_)
                     generalize w127.drew = w128 at HO319 HO323 BK302 BK303 BK327 HB hHeld ⊢
                     refine pu 0 (some 93) (bl 17 1) (h := ?_)
                     refine pu 1 (some 94) (bl 17 3) (h := ?_)
                     refine pu 2 (some 95) (bl 17 7) (h := ?_)
                     refine pu 3 (some 96) (bl 17 15) (h := ?_)
                     refine pu 4 (some 97) (bl 17 31) (h := ?_)
                     refine pu 5 (some 98) (bl 17 63) (h := ?_)
                     refine pu 6 (some 99) (bl 17 127) (h := ?_)
                     refine pure_ (i := 7) (N := some 100) (v := undef) (a' := ?_) #[true, true, true, true, true, true, true, true, false, false, false, false, false, false, false, false, false] rfl rfl (any_of HT_.out (by kernel_rfl)) (fun _ _ _ h => h) (Or.inr ⟨by rfl, rfl⟩) ?_ ?_
                     rotate_left
                     ·simp only [Act.put, List.setIfInBounds_toArray, List.set_cons_zero, List.set_cons_succ, i64_w, i32_w]
                      rfl
                     refine pure_ (i := 8) (N := some 101) (v := undef) (a' := ?_) #[true, true, true, true, true, true, true, true, true, false, false, false, false, false, false, false, false] rfl rfl (any_of HT_.out (by kernel_rfl)) (fun _ _ _ h => h) (Or.inr ⟨by rfl, rfl⟩) ?_ ?_
                     rotate_left
                     ·simp only [Act.put, List.setIfInBounds_toArray, List.set_cons_zero, List.set_cons_succ, i64_w, i32_w]
                      rfl
                     refine pure_ (i := 9) (N := some 102) (v := undef) (a' := ?_) #[true, true, true, true, true, true, true, true, true, true, false, false, false, false, false, false, false] rfl rfl (any_of HT_.out (by kernel_rfl)) (fun _ _ _ h => h) (Or.inr ⟨by rfl, rfl⟩) ?_ ?_
                     rotate_left
                     ·simp only [Act.put, List.setIfInBounds_toArray, List.set_cons_zero, List.set_cons_succ, i64_w, i32_w]
                      rfl
                     refine pure_ (i := 10) (N := some 103) (v := undef) (a' := ?_) #[true, true, true, true, true, true, true, true, true, true, true, false, false, false, false, false, false] rfl rfl (any_of HT_.out (by kernel_rfl)) (fun _ _ _ h => h) (Or.inr ⟨by rfl, rfl⟩) ?_ ?_
                     rotate_left
                     ·simp only [Act.put, List.setIfInBounds_toArray, List.set_cons_zero, List.set_cons_succ, i64_w, i32_w]
                      rfl
                     refine pure_ (i := 11) (N := some 104) (v := undef) (a' := ?_) #[true, true, true, true, true, true, true, true, true, true, true, true, false, false, false, false, false] rfl rfl (any_of HT_.out (by kernel_rfl)) (fun _ _ _ h => h) (Or.inr ⟨by rfl, rfl⟩) ?_ ?_
                     rotate_left
                     ·simp only [Act.put, List.setIfInBounds_toArray, List.set_cons_zero, List.set_cons_succ, i64_w, i32_w]
                      rfl
                     refine pure_ (i := 12) (N := some 105) (v := undef) (a' := ?_) #[true, true, true, true, true, true, true, true, true, true, true, true, true, false, false, false, false] rfl rfl (any_of HT_.out (by kernel_rfl)) (fun _ _ _ h => h) (Or.inr ⟨by rfl, rfl⟩) ?_ ?_
                     rotate_left
                     ·simp only [Act.put, List.setIfInBounds_toArray, List.set_cons_zero, List.set_cons_succ, i64_w, i32_w]
                      rfl
                     refine pure_ (i := 13) (N := some 106) (v := undef) (a' := ?_) #[true, true, true, true, true, true, true, true, true, true, true, true, true, true, false, false, false] rfl rfl (any_of HT_.out (by kernel_rfl)) (fun _ _ _ h => h) (Or.inr ⟨by rfl, rfl⟩) ?_ ?_
                     rotate_left
                     ·simp only [Act.put, List.setIfInBounds_toArray, List.set_cons_zero, List.set_cons_succ, i64_w, i32_w]
                      rfl
                     refine pure_ (i := 14) (N := some 107) (v := undef) (a' := ?_) #[true, true, true, true, true, true, true, true, true, true, true, true, true, true, true, false, false] rfl rfl (any_of HT_.out (by kernel_rfl)) (fun _ _ _ h => h) (Or.inr ⟨by rfl, rfl⟩) ?_ ?_
                     rotate_left
                     ·simp only [Act.put, List.setIfInBounds_toArray, List.set_cons_zero, List.set_cons_succ, i64_w, i32_w]
                      rfl
                     refine pure_ (i := 15) (N := some 108) (v := undef) (a' := ?_) #[true, true, true, true, true, true, true, true, true, true, true, true, true, true, true, true, false] rfl rfl (any_of HT_.out (by kernel_rfl)) (fun _ _ _ h => h) (Or.inr ⟨by rfl, rfl⟩) ?_ ?_
                     rotate_left
                     ·simp only [Act.put, List.setIfInBounds_toArray, List.set_cons_zero, List.set_cons_succ, i64_w, i32_w]
                      rfl
                     refine pu 16 (some 109) (bl 17 131071) (h := ?_)
                     refine done_ (done_of HT_.out (by kernel_rfl)) ?_
                     obtain ⟨hcz130_0, hcz130_1, hcz130_2⟩ := kc3 BK303
                     obtain ⟨hfz130_0, hfz130_1, hfz130_2⟩ := kf3 BK303
                     try go_wp2
                     refine bodyPost_ret (results_list (rs := [.tmp 4, .cell 5 27, .tmp 6, .tmp 7]) rfl (by simp) (.tmp (.cell gb303 27 #[.int .u64 0, .int .i64 0, .int .i64 0] (0, 0) _ rfl (kb BK303) Tryd.underlying27 rfl (by kernel_rfl) (.tmp (.tmp .nil))))) rfl ?_
                     exact ⟨by first | rfl | (simp [errW_none, errW_some] <;> rfl) | (simp only [← hji53]; first | rfl | (simp [errW_none, errW_some] <;> rfl)) | (simp [*, errW_none, errW_some] <;> rfl), by repeat (first | (with_reducible first | exact HB.out | apply below_alloc | apply pw_below_drewN | apply below_drew1 | refine below_set ?_ GE302.out | refine below_set ?_ GE303.out | refine below_set ?_ GE327.out) | exact HB.out)⟩
                   ·rw [if_neg c55] at H
                    exact absurd H (by simp)
                  ·rw [if_neg c54] at H
                   exact absurd H (by simp)
                 ·rw [if_neg c52] at H
                  exact absurd H (by simp)
                ·rw [if_neg c51] at H
                 exact absurd H (by simp)
               ·rw [if_neg c50] at H
                exact absurd H (by simp)
              ·rw [if_neg c49] at H
               exact absurd H (by simp)
             ·rw [if_neg c48] at H
              exact absurd H (by simp)
            ·rw [if_neg c47] at H
             exact absurd H (by simp)
     ·rw [if_neg c21] at H
      exact absurd H (by simp)
  ·rw [if_neg c8] at H
   exact absurd H (by simp)

end Go.Proofs.YtiahbcaoikoogaaDoor.All
