-- written by a program of the session out of the translation; Lean checks it
import Derived.Test.YtiahbcaoikoogaaDoorAllx0
import Derived.Test.YtiahbcaoikoogaaDoorAllx1
import Derived.Test.YtiahbcaoikoogaaDoorAllx8
import Derived.Test.YtiahbcaoikoogaaDoorAllx11
namespace Go.Proofs.YtiahbcaoikoogaaDoor.All
open Go.RowKit Go.Proofs.YtiahbcaoikoogaaDoorW.PrintWords Go.Proofs.YtiahbcaoikoogaaDoorW.PrintLast Go.Proofs.YtiahbcaoikoogaaDoorW.PrintMore
attribute [local go_sem] max2_int min2_int max_two min_two max_three min_three max_four min_four   -- for this text's walks alone
set_option linter.unusedVariables false
set_option linter.unusedSimpArgs false

attribute [local go_sem high] eqA24
/-! ### gaiterlaw07_up: function 11 -/
def gaiterlaw07_up.f (k : Nat)  : Option (Bool) := (xor_Code.f k 5 0 0 5).bind fun bt232 => ((xor_Get.f k 5 0 0 (([0] : List Int)) 0).bind fun bt244 => (if bt232.2.1 = 1 then (if (bt232.2.2.1 == 5 && (bt232.2.2.2.1 == 0 && (bt232.2.2.2.2 == 0))) = true then (if bt244.1 = 5 then (if (bt244.2.1 == bt232.2.2.1 && (bt244.2.2.1 == bt232.2.2.2.1 && (bt244.2.2.2.1 == bt232.2.2.2.2))) = true then (if bt244.2.2.2.2.1 = 1 then (if bt244.2.2.2.2.2.isNone = true then (some true) else (none)) else (none)) else (none)) else (none)) else (none)) else (none)))
theorem gaiterlaw07_up.mono : ∀ k, LeO (gaiterlaw07_up.f k ) (gaiterlaw07_up.f (k + 1) ) := by
  intro  k
  unfold gaiterlaw07_up.f
  repeat' first
      | (with_reducible exact xor_Code.mono _ _ _ _ _)
      | (with_reducible exact xor_Get.mono _ _ _ _ _ _)
      | (with_reducible exact LeO.refl _)
      | (with_reducible exact LeO.none _)
      | (with_reducible refine LeO.ite ?_ ?_)
      | (with_reducible refine LeO.bind ?_ (fun _ => ?_))
      | exact xor_Code.mono _ _ _ _ _
      | exact xor_Get.mono _ _ _ _ _ _
      | exact LeO.none _
      | refine LeO.ite ?_ ?_
      | refine LeO.bind ?_ (fun _ => ?_)
set_option maxHeartbeats 8000000 in
set_option maxRecDepth 100000 in
theorem gaiterlaw07_up.calls (k : Nat)  (r : Bool) (w : World) (hT : TabOk w) (h : gaiterlaw07_up.f k  = some r) :
    Calls Tryd.prog 11 #[] w fun e w' => e = .returned (.bool r) ∧ Below w.heap.size w w' := by
  have hu24 := Tryd.underlying24
  have hu31 := Tryd.underlying31
  have hu37 := Tryd.underlying37
  have hu95 := Tryd.underlying95
  have HT := Aside0.mk hT
  clear hT
  have HB := Aside0.mk (Below.refl w.heap.size w)
  have H : ((xor_Code.f k 5 0 0 5).bind fun bt232 => ((xor_Get.f k 5 0 0 (([0] : List Int)) 0).bind fun bt244 => (if bt232.2.1 = 1 then (if (bt232.2.2.1 == 5 && (bt232.2.2.2.1 == 0 && (bt232.2.2.2.2 == 0))) = true then (if bt244.1 = 5 then (if (bt244.2.1 == bt232.2.2.1 && (bt244.2.2.1 == bt232.2.2.2.1 && (bt244.2.2.2.1 == bt232.2.2.2.2))) = true then (if bt244.2.2.2.2.1 = 1 then (if bt244.2.2.2.2.2.isNone = true then (some true) else (none)) else (none)) else (none)) else (none)) else (none)) else (none)))) = some r := h
  clear h
  replace H := Option.bind_eq_some_iff.mp H
  obtain ⟨⟨t232, t235, t236, t237, t238⟩, A10, H⟩ := H
  replace H : ((xor_Get.f k 5 0 0 (([0] : List Int)) 0).bind fun bt244 => (if t235 = 1 then (if (t236 == 5 && (t237 == 0 && (t238 == 0))) = true then (if bt244.1 = 5 then (if (bt244.2.1 == t236 && (bt244.2.2.1 == t237 && (bt244.2.2.2.1 == t238))) = true then (if bt244.2.2.2.2.1 = 1 then (if bt244.2.2.2.2.2.isNone = true then (some true) else (none)) else (none)) else (none)) else (none)) else (none)) else (none))) = some r := H
  have A1 := Aside0.mk A10
  clear A10
  obtain ⟨y241, hy241⟩ : ∃ y_ : List Int, y_ = (([0] : List Int)) := ⟨_, rfl⟩
  replace H : ((xor_Get.f k 5 0 0 y241 0).bind fun bt244 => (if t235 = 1 then (if (t236 == 5 && (t237 == 0 && (t238 == 0))) = true then (if bt244.1 = 5 then (if (bt244.2.1 == t236 && (bt244.2.2.1 == t237 && (bt244.2.2.2.1 == t238))) = true then (if bt244.2.2.2.2.1 = 1 then (if bt244.2.2.2.2.2.isNone = true then (some true) else (none)) else (none)) else (none)) else (none)) else (none)) else (none))) = some r := by first | (rw [hy241]; with_reducible exact H) | (have H2_ := (Option.bind_some _ _).symm.trans H; rw [hy241]; with_reducible exact H2_) | (have H2_ := (Option.bind_some _ _).symm.trans H; with_reducible exact H2_) | with_reducible exact H | (rw [hy241]; exact H) | exact H
  have Ny241 := Aside0.mk hy241
  clear hy241
  replace H := Option.bind_eq_some_iff.mp H
  obtain ⟨⟨t244, t245, t246, t247, t248, t249⟩, A20, H⟩ := H
  replace H : (if t235 = 1 then (if (t236 == 5 && (t237 == 0 && (t238 == 0))) = true then (if t244 = 5 then (if (t245 == t236 && (t246 == t237 && (t247 == t238))) = true then (if t248 = 1 then (if t249.isNone = true then (some true) else (none)) else (none)) else (none)) else (none)) else (none)) else (none)) = some r := H
  have A2 := Aside0.mk A20
  clear A20
  by_cases c3 : t235 = 1
  · rw [if_pos c3] at H
    have c3b0 : (t235 == 1) = true := beq_iff_eq.mpr c3
    have c3b1 : (t235 != 1) = false := bne_eq_false_iff_eq.mpr c3
    clear c3
    by_cases c4 : (t236 == 5 && (t237 == 0 && (t238 == 0))) = true
    · rw [if_pos c4] at H
      have c4b0 : (t236 == 5 && (t237 == 0 && (t238 == 0))) = true := c4
      (try (have c4b1 : decide (t236 = 5 && (t237 == 0 && (t238 == 0))) = true := by simpa using c4))
      (try (have c4b2 : (t236 == 5 && (t237 == 0 && (t238 == 0))) = true := by simpa using c4))
      clear c4
      by_cases c5 : t244 = 5
      · rw [if_pos c5] at H
        have c5b0 : (t244 == 5) = true := beq_iff_eq.mpr c5
        have c5b1 : (t244 != 5) = false := bne_eq_false_iff_eq.mpr c5
        clear c5
        by_cases c6 : (t245 == t236 && (t246 == t237 && (t247 == t238))) = true
        · rw [if_pos c6] at H
          have c6b0 : (t245 == t236 && (t246 == t237 && (t247 == t238))) = true := c6
          (try (have c6b1 : decide (t245 = t236 && (t246 == t237 && (t247 == t238))) = true := by simpa using c6))
          (try (have c6b2 : (t245 == t236 && (t246 == t237 && (t247 == t238))) = true := by simpa using c6))
          clear c6
          by_cases c7 : t248 = 1
          · rw [if_pos c7] at H
            have c7b0 : (t248 == 1) = true := beq_iff_eq.mpr c7
            have c7b1 : (t248 != 1) = false := bne_eq_false_iff_eq.mpr c7
            clear c7
            rcases t249 with _ | q251
            · have H1 : (some true) = some r := by rw [if_pos (show (none : Option Int).isNone = true by rfl)] at H; exact H
              clear H
              have H := H1
              clear H1
              try simp only [errW_none, errW_some]
              obtain rfl := Option.some.inj H
              go_enter Tryd.func11, Tryd.ntmps11
              go_wp2_with (first | ((with_reducible refine gate_callee (f := 14) rfl ?_); refine goesL_ (some 9) rfl rfl Tryd.func14 (by kernel_rfl) rfl #[.agg #[.int .u64 5, .int .i64 0, .int .i64 0], .int .u64 5] rfl km ?_; (with_reducible refine (xor_Code.calls k 5 0 0 5 t232 t235 t236 t237 t238 _ ?side1 A1.out).mono ?_); (case side1 => exact TabOk.below HT.out (kl HB) (Nat.le_refl _)); rintro e w8 ⟨v233, rfl, ho0, hb⟩; refine ⟨_, rfl, ?_⟩; have HO234 := Aside0.mk (Kd.R_lower ho0 (below_size (kl HB))); replace HB := kH HB hb; (try clear hb); (try clear hb2); (try clear hk); (try clear hi); (try clear ho0)) | ((with_reducible refine gate_dst (N := 1) rfl ?_); refine box_event ?hg (N := 1) ?hd (cs := #[.slice none 0 0, .int .i64 0]) (t := 31) ?hr ?_; (case hd => rfl); (case hg => rfl); (case hr => first | (go_simp; done) | (go_simp; rfl)); intro gb239 hg w9 hbox hb; replace HO234 := Aside0.mk (Kd.R_below (kr HO234) hb); have BK239 := Aside0.mk (hbox); have GW239 := kG hg HB; have GE239 := kG hg HB; replace HB := kH HB hb; clear hb hbox hg) | ((with_reducible refine gate_dst (N := 2) rfl ?_); refine box_event ?hg (N := 2) ?hd (cs := #[.int .u64 0, .int .i64 0, .int .i64 0]) (t := 24) ?hr ?_; (case hd => rfl); (case hg => rfl); (case hr => first | (go_simp; done) | (go_simp; rfl)); intro gb240 hg w10 hbox hb; replace HO234 := Aside0.mk (Kd.R_below (kr HO234) hb); have BK240 := Aside0.mk (hbox); have GW240 := kG hg HB; have GE240 := kG hg HB; replace HB := kH HB hb; obtain ⟨NB239_240, NB240_239⟩ := kN hg BK239; replace BK239 := kB BK239 hb; clear hb hbox hg; obtain ⟨Ao11, co11, eo11⟩ := Kd.R_slice HO234.out; subst eo11; have hnb12 := NB239_240.out; have hnc12 := NB240_239.out; have hcz13_0 : w10.cell? ⟨gb239, 0, none⟩ = some (.slice none 0 0) := (blk_cell BK239.out 0).trans rfl; have hcz13_1 : w10.cell? ⟨gb239, 1, none⟩ = some (.int .i64 0) := (blk_cell BK239.out 1).trans rfl; have hfz13_0 := blk_frozen BK239.out 0; have hfz13_1 := blk_frozen BK239.out 1; have hcz14_0 : w10.cell? ⟨gb240, 0, none⟩ = some (.int .u64 0) := (blk_cell BK240.out 0).trans rfl; have hcz14_1 : w10.cell? ⟨gb240, 1, none⟩ = some (.int .i64 0) := (blk_cell BK240.out 1).trans rfl; have hcz14_2 : w10.cell? ⟨gb240, 2, none⟩ = some (.int .i64 0) := (blk_cell BK240.out 2).trans rfl; have hfz14_0 := blk_frozen BK240.out 0; have hfz14_1 := blk_frozen BK240.out 1; have hfz14_2 := blk_frozen BK240.out 2) | ((with_reducible refine gate_dst (N := 14) rfl ?_); refine Kd.R_lit (Kd.int .u8) _ 5 ?hg (N := 14) ?hd (xs := ([0] : List Int)) (inner := [.int .u8 0]) (ok := fun _ => True) (okp := fun _ => True) ?hr ?hp (fun _ hk => hk) trivial (Below.refl _ _) (Nat.le_refl _) (by simp) ?_; (case hd => rfl); (case hg => rfl); (case hr => first | (go_simp; done) | (go_simp; rfl)); (case hp => exact (Reps.one (show Kd.M (Kd.int .u8) _ _ _ 0 [.int .u8 0] from rfl) (Reps.none _ _))); intro v242 w15 ho16 hb hg_ hnew_; clear hg_ hnew_; (first | rw [← Ny241.out] at ho16 | (simp only [Int.reduceToNat] at ho16; rw [← Ny241.out] at ho16)); have HO243 := Aside0.mk (Kd.R_lower (Kd.R_new' ho16 (Kd.R_lt (by (with_reducible repeat (first | apply Kd.R_alloc | apply Kd.R_drewN | apply Kd.R_drew)); exact (Kd.R_mono (Kd.R_mono (Kd.R_far (p := ⟨gb240, 2, none⟩) (Kd.R_far (p := ⟨gb240, 1, none⟩) (Kd.R_far (p := ⟨gb240, 0, none⟩) (Kd.R_far (p := ⟨gb239, 1, none⟩) (Kd.R_far (p := ⟨gb239, 0, none⟩) (Kd.R_types (Kd.R_types HO234.out BK239.out (by decide)) BK240.out (by decide)) (fun _ hk => hk.1.2) (.slice Ao11 t232.length co11)) (fun _ hk => hk.1.2) (.int .i64 t235)) (fun _ hk => hk.2) (.int .u64 t236)) (fun _ hk => hk.2) (.int .i64 t237)) (fun _ hk => hk.2) (.int .i64 t238)) (fun _ h_ => h_.1)) (fun _ h_ => h_.1))))) (below_size (kl HB))); replace HO234 := Aside0.mk (Kd.R_elder' (by (with_reducible repeat (first | apply Kd.R_alloc | apply Kd.R_drewN | apply Kd.R_drew)); exact (Kd.R_mono (Kd.R_mono (Kd.R_far (p := ⟨gb240, 2, none⟩) (Kd.R_far (p := ⟨gb240, 1, none⟩) (Kd.R_far (p := ⟨gb240, 0, none⟩) (Kd.R_far (p := ⟨gb239, 1, none⟩) (Kd.R_far (p := ⟨gb239, 0, none⟩) (Kd.R_types (Kd.R_types HO234.out BK239.out (by decide)) BK240.out (by decide)) (fun _ hk => hk.1.2) (.slice Ao11 t232.length co11)) (fun _ hk => hk.1.2) (.int .i64 t235)) (fun _ hk => hk.2) (.int .u64 t236)) (fun _ hk => hk.2) (.int .i64 t237)) (fun _ hk => hk.2) (.int .i64 t238)) (fun _ h_ => h_.1)) (fun _ h_ => h_.1))) (Kd.R_base ho16) hb); replace BK239 := Aside0.mk (blk_below (g := gb239) (o := .cells #[.slice Ao11 t232.length co11, .int .i64 t235] 31 (0, 0)) (kb BK239) hb); replace BK240 := Aside0.mk (blk_below (g := gb240) (o := .cells #[.int .u64 t236, .int .i64 t237, .int .i64 t238] 24 (0, 0)) (kb BK240) hb); replace HB := kH HB hb; clear hb ho16; obtain ⟨Ao17, co17, eo17⟩ := Kd.R_slice HO243.out; subst eo17) | ((with_reducible refine gate_callee (f := 16) rfl ?_); refine goesL_ (some 15) rfl rfl Tryd.func16 (by kernel_rfl) rfl #[.agg #[.int .u64 5, .int .i64 0, .int .i64 0], .slice Ao17 y241.length co17, .int .i64 0] rfl km ?_; (with_reducible refine (xor_Get.calls k 5 0 0 _ _ y241 0 t244 t245 t246 t247 t248 none _ ?side1 ?side2 ?side3 A2.out).mono ?_); (case side1 => exact TabOk.below HT.out (kl HB) (Nat.le_refl _)); (case side2 => repeat (first | exact (Kd.R_reads' HO243.out).2.2 | (with_reducible refine Kd.C_alloc ?_ _) | (with_reducible refine Kd.C_drewN ?_ _) | (with_reducible refine Kd.C_drew ?_))); (case side3 => exact (Kd.R_reads' HO243.out).2.1); rintro e w18 ⟨rfl, hb⟩; refine ⟨_, rfl, ?_⟩; replace HO234 := Aside0.mk (Kd.R_below (kr HO234) hb); replace HO243 := Aside0.mk (Kd.R_below (kr HO243) hb); replace BK239 := kB BK239 hb; replace BK240 := kB BK240 hb; replace HB := kH HB hb; (try clear hb); (try clear hb2); (try clear hk); (try clear hi); (try simp only [errW_none, errW_some])) | ((with_reducible refine gate_dst (N := 4) rfl ?_); refine box_event ?hg (N := 4) ?hd (cs := #[.int .u64 0, .int .i64 0, .int .i64 0]) (t := 24) ?hr ?_; (case hd => rfl); (case hg => rfl); (case hr => first | (go_simp; done) | (go_simp; rfl)); intro gb250 hg w19 hbox hb; replace HO234 := Aside0.mk (Kd.R_below (kr HO234) hb); replace HO243 := Aside0.mk (Kd.R_below (kr HO243) hb); have BK250 := Aside0.mk (hbox); have GW250 := kG hg HB; have GE250 := kG hg HB; replace HB := kH HB hb; obtain ⟨NB239_250, NB250_239⟩ := kN hg BK239; replace BK239 := kB BK239 hb; obtain ⟨NB240_250, NB250_240⟩ := kN hg BK240; replace BK240 := kB BK240 hb; clear hb hbox hg; have hnb20 := NB250_239.out; have hnc20 := NB239_250.out; have hnb21 := NB250_240.out; have hnc21 := NB240_250.out; have hcz22_0 : w19.cell? ⟨gb250, 0, none⟩ = some (.int .u64 0) := (blk_cell BK250.out 0).trans rfl; have hcz22_1 : w19.cell? ⟨gb250, 1, none⟩ = some (.int .i64 0) := (blk_cell BK250.out 1).trans rfl; have hcz22_2 : w19.cell? ⟨gb250, 2, none⟩ = some (.int .i64 0) := (blk_cell BK250.out 2).trans rfl; have hfz22_0 := blk_frozen BK250.out 0; have hfz22_1 := blk_frozen BK250.out 1; have hfz22_2 := blk_frozen BK250.out 2; have hcz23_0 : w19.cell? ⟨gb239, 0, none⟩ = some (.slice Ao11 t232.length co11) := (blk_cell BK239.out 0).trans rfl; have hcz23_1 : w19.cell? ⟨gb239, 1, none⟩ = some (.int .i64 t235) := (blk_cell BK239.out 1).trans rfl; have hfz23_0 := blk_frozen BK239.out 0; have hfz23_1 := blk_frozen BK239.out 1; have hcz24_0 : w19.cell? ⟨gb240, 0, none⟩ = some (.int .u64 t236) := (blk_cell BK240.out 0).trans rfl; have hcz24_1 : w19.cell? ⟨gb240, 1, none⟩ = some (.int .i64 t237) := (blk_cell BK240.out 1).trans rfl; have hcz24_2 : w19.cell? ⟨gb240, 2, none⟩ = some (.int .i64 t238) := (blk_cell BK240.out 2).trans rfl; have hfz24_0 := blk_frozen BK240.out 0; have hfz24_1 := blk_frozen BK240.out 1; have hfz24_2 := blk_frozen BK240.out 2))
              go_ret
              exact ⟨by first | rfl | (simp [errW_none, errW_some] <;> rfl) | (simp [*, errW_none, errW_some] <;> rfl), by repeat (first | (with_reducible first | exact HB.out | apply below_alloc | apply pw_below_drewN | apply below_drew1 | refine below_set ?_ GE239.out | refine below_set ?_ GE240.out | refine below_set ?_ GE250.out) | exact HB.out)⟩
            · have H1 : (none) = some r := by rw [if_neg (show ¬ (some q251).isNone = true by simp)] at H; exact H
              clear H
              have H := H1
              clear H1
              try simp only [errW_none, errW_some]
              exact absurd H (by simp)
          · rw [if_neg c7] at H
            exact absurd H (by simp)
        · rw [if_neg c6] at H
          exact absurd H (by simp)
      · rw [if_neg c5] at H
        exact absurd H (by simp)
    · rw [if_neg c4] at H
      exact absurd H (by simp)
  · rw [if_neg c3] at H
    exact absurd H (by simp)

end Go.Proofs.YtiahbcaoikoogaaDoor.All
