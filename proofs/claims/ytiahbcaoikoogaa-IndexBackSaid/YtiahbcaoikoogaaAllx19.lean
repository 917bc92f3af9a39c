-- written by a program of the session out of the translation; Lean checks it
import Derived.Test.YtiahbcaoikoogaaAllx0
import Derived.Test.YtiahbcaoikoogaaAllx13
import Derived.Test.YtiahbcaoikoogaaAllx18
namespace Go.Proofs.Ytiahbcaoikoogaa.All
open Go.RowKit Go.Proofs.YtiahbcaoikoogaaW.PrintWords Go.Proofs.YtiahbcaoikoogaaW.PrintLast Go.Proofs.YtiahbcaoikoogaaW.PrintMore
attribute [local go_sem] max2_int min2_int max_two min_two max_three min_three max_four min_four   -- for this text's walks alone
set_option linter.unusedVariables false
set_option linter.unusedSimpArgs false

attribute [local go_sem high] errW_cells errW_match run_store_errW
/-! ### gaiterlaw14_up: function 21 -/
def gaiterlaw14_up.f (k : Nat)  : Option (Bool) := (index_Put.f k 1 ([] : List (S72))).bind fun bt339 => ((index_Get.f k bt339.1).bind fun bt343 => ((index_Get.f k ([] : List Int)).bind fun bt350 => (if bt339.2.isNone = true then (if bt343.2.2.2.isNone = true then (if (bt339.1.length : Int) = 10 then (if bt343.2.2.1 = 10 then (if bt343.1 = 1 then (if (bt343.2.1.length : Int) = 0 then ((gaiterlaw00_Code.f bt350.2.2.2).bind fun t359 => (some (t359 == 5))) else (none)) else (none)) else (none)) else (none)) else (none)) else (none))))
theorem gaiterlaw14_up.mono : ∀ k, LeO (gaiterlaw14_up.f k ) (gaiterlaw14_up.f (k + 1) ) := by
 intro  k
 unfold gaiterlaw14_up.f
 repeat' first
   | (with_reducible exact index_Get.mono _ _)
   | (with_reducible exact index_Put.mono _ _ _)
   | (with_reducible exact LeO.refl _)
   | (with_reducible exact LeO.none _)
   | (with_reducible refine LeO.ite ?_ ?_)
   | (with_reducible refine LeO.bind ?_ (fun _ => ?_))
   | exact index_Get.mono _ _
   | exact index_Put.mono _ _ _
   | exact LeO.none _
   | refine LeO.ite ?_ ?_
   | refine LeO.bind ?_ (fun _ => ?_)
set_option maxHeartbeats 8000000 in
set_option maxRecDepth 100000 in
theorem gaiterlaw14_up.calls (k : Nat)  (r : Bool) (w : World) (h : gaiterlaw14_up.f k  = some r) :
  Calls Try.prog 21 #[] w fun e w' => e = .returned (.bool r) ∧ Below w.heap.size w w' := by
 have hu53 := Try.underlying53
 have hu27 := Try.underlying27
 have hu29 := Try.underlying29
 have HB := Aside0.mk (Below.refl w.heap.size w)
 have H : ((index_Put.f k 1 ([] : List (S72))).bind fun bt339 => ((index_Get.f k bt339.1).bind fun bt343 => ((index_Get.f k ([] : List Int)).bind fun bt350 => (if bt339.2.isNone = true then (if bt343.2.2.2.isNone = true then (if (bt339.1.length : Int) = 10 then (if bt343.2.2.1 = 10 then (if bt343.1 = 1 then (if (bt343.2.1.length : Int) = 0 then ((gaiterlaw00_Code.f bt350.2.2.2).bind fun t359 => (some (t359 == 5))) else (none)) else (none)) else (none)) else (none)) else (none)) else (none))))) = some r := h
 clear h
 replace H := Option.bind_eq_some_iff.mp H
 obtain ⟨⟨t339, t342⟩, A10, H⟩ := H
 replace H : ((index_Get.f k t339).bind fun bt343 => ((index_Get.f k ([] : List Int)).bind fun bt350 => (if t342.isNone = true then (if bt343.2.2.2.isNone = true then (if (t339.length : Int) = 10 then (if bt343.2.2.1 = 10 then (if bt343.1 = 1 then (if (bt343.2.1.length : Int) = 0 then ((gaiterlaw00_Code.f bt350.2.2.2).bind fun t359 => (some (t359 == 5))) else (none)) else (none)) else (none)) else (none)) else (none)) else (none)))) = some r := H
 have A1 := Aside0.mk A10
 clear A10
 replace H := Option.bind_eq_some_iff.mp H
 obtain ⟨⟨t343, t344, t347, t348⟩, A20, H⟩ := H
 replace H : ((index_Get.f k ([] : List Int)).bind fun bt350 => (if t342.isNone = true then (if t348.isNone = true then (if (t339.length : Int) = 10 then (if t347 = 10 then (if t343 = 1 then (if (t344.length : Int) = 0 then ((gaiterlaw00_Code.f bt350.2.2.2).bind fun t359 => (some (t359 == 5))) else (none)) else (none)) else (none)) else (none)) else (none)) else (none))) = some r := H
 have A2 := Aside0.mk A20
 clear A20
 replace H := Option.bind_eq_some_iff.mp H
 obtain ⟨⟨t350, t351, t354, t355⟩, A30, H⟩ := H
 replace H : (if t342.isNone = true then (if t348.isNone = true then (if (t339.length : Int) = 10 then (if t347 = 10 then (if t343 = 1 then (if (t344.length : Int) = 0 then ((gaiterlaw00_Code.f t355).bind fun t359 => (some (t359 == 5))) else (none)) else (none)) else (none)) else (none)) else (none)) else (none)) = some r := H
 have A3 := Aside0.mk A30
 clear A30
 rcases t342 with _ | q357
 ·have H1 : (if t348.isNone = true then (if (t339.length : Int) = 10 then (if t347 = 10 then (if t343 = 1 then (if (t344.length : Int) = 0 then ((gaiterlaw00_Code.f t355).bind fun t359 => (some (t359 == 5))) else (none)) else (none)) else (none)) else (none)) else (none)) = some r := by rw [if_pos (show (none : Option Int).isNone = true by rfl)] at H; exact H
  clear H
  have H := H1
  clear H1
  try simp only [errW_none, errW_some]
  rcases t348 with _ | q358
  ·have H1 : (if (t339.length : Int) = 10 then (if t347 = 10 then (if t343 = 1 then (if (t344.length : Int) = 0 then ((gaiterlaw00_Code.f t355).bind fun t359 => (some (t359 == 5))) else (none)) else (none)) else (none)) else (none)) = some r := by rw [if_pos (show (none : Option Int).isNone = true by rfl)] at H; exact H
   clear H
   have H := H1
   clear H1
   try simp only [errW_none, errW_some]
   by_cases c4 : (t339.length : Int) = 10
   ·rw [if_pos c4] at H
    have c4b0 : ((t339.length : Int) == 10) = true := beq_iff_eq.mpr c4
    have c4b1 : ((t339.length : Int) != 10) = false := bne_eq_false_iff_eq.mpr c4
    clear c4
    by_cases c5 : t347 = 10
    ·rw [if_pos c5] at H
     have c5b0 : (t347 == 10) = true := beq_iff_eq.mpr c5
     have c5b1 : (t347 != 10) = false := bne_eq_false_iff_eq.mpr c5
     clear c5
     by_cases c6 : t343 = 1
     ·rw [if_pos c6] at H
      have c6b0 : (t343 == 1) = true := beq_iff_eq.mpr c6
      have c6b1 : (t343 != 1) = false := bne_eq_false_iff_eq.mpr c6
      clear c6
      by_cases c7 : (t344.length : Int) = 0
      ·rw [if_pos c7] at H
       have c7b0 : ((t344.length : Int) == 0) = true := beq_iff_eq.mpr c7
       have c7b1 : ((t344.length : Int) != 0) = false := bne_eq_false_iff_eq.mpr c7
       clear c7
       replace H := Option.bind_eq_some_iff.mp H
       obtain ⟨t359, A80, H⟩ := H
       replace H : (some (t359 == 5)) = some r := H
       have A8 := Aside0.mk A80
       clear A80
       obtain rfl := Option.some.inj H
       go_enter Try.func21, Try.ntmps21
       go_wp2_with (first | ((with_reducible refine gate_callee (f := 22) rfl ?_); refine goesL_ (some 11) rfl rfl Try.func22 (by kernel_rfl) rfl #[.agg #[.int .i64 1, .slice none 0 0]] rfl km ?_; (refine (index_Put.calls k 1 _ _ ([] : List (S72)) t339 none _ ?side1 ?side2 A1.out).mono ?_); (case side1 => exact Kd.C_nil _ _); (case side2 => exact Nat.le_refl _); rintro e w9 ⟨v340, rfl, ho0, hb⟩; refine ⟨_, rfl, ?_⟩; have HO341 := Aside0.mk (Kd.R_lower ho0 (below_size (kl HB))); replace HB := kH HB hb; (try clear hb); (try clear hb2); (try clear hk); (try clear hi); (try clear ho0); (try simp only [errW_none, errW_some]); obtain ⟨Ao10, co10, eo10⟩ := Kd.R_slice HO341.out; subst eo10) | ((with_reducible refine gate_callee (f := 27) rfl ?_); refine goesL_ (some 16) rfl rfl Try.func27 (by kernel_rfl) rfl #[.slice Ao10 t339.length co10] rfl km ?_; (with_reducible refine (index_Get.calls k _ _ t339 t343 t344 t347 none _ ?side1 ?side2 A2.out).mono ?_); (case side1 => repeat (first | exact (Kd.R_reads' HO341.out).2.2 | (with_reducible refine Kd.C_alloc ?_ _) | (with_reducible refine Kd.C_drewN ?_ _) | (with_reducible refine Kd.C_drew ?_))); (case side2 => exact (Kd.R_reads' HO341.out).2.1); rintro e w11 ⟨v345, rfl, ho0, hb⟩; refine ⟨_, rfl, ?_⟩; replace HO341 := Aside0.mk (Kd.R_below (kr HO341) hb); have HO346 := Aside0.mk (Kd.R_lower ho0 (below_size (kl HB))); replace HB := kH HB hb; (try clear hb); (try clear hb2); (try clear hk); (try clear hi); (try clear ho0); (try simp only [errW_none, errW_some])) | ((with_reducible refine gate_dst (N := 3) rfl ?_); (try (refine gate_guard (by rfl) ?_; dsimp only)); refine box_event ?hg (N := 3) ?hd (cs := #[.int .i64 0, .slice none 0 0]) (t := 53) ?hr ?_; (case hd => rfl); (case hg => rfl); (case hr => first | (go_simp; done) | (go_simp; rfl)); intro gb349 hg w12 hbox hb; replace HO341 := Aside0.mk (Kd.R_below (kr HO341) hb); replace HO346 := Aside0.mk (Kd.R_below (kr HO346) hb); have BK349 := Aside0.mk (hbox); have GW349 := kG hg HB; have GE349 := kG hg HB; replace HB := kH HB hb; clear hb hbox hg; have hcz13_0 : w12.cell? ⟨gb349, 0, none⟩ = some (.int .i64 0) := (blk_cell BK349.out 0).trans rfl; have hcz13_1 : w12.cell? ⟨gb349, 1, none⟩ = some (.slice none 0 0) := (blk_cell BK349.out 1).trans rfl; have hfz13_0 := blk_frozen BK349.out 0; have hfz13_1 := blk_frozen BK349.out 1; obtain ⟨Ao14, co14, eo14⟩ := Kd.R_slice HO346.out; subst eo14) | ((with_reducible refine gate_callee (f := 27) rfl ?_); refine goesL_ (some 21) rfl rfl Try.func27 (by kernel_rfl) rfl #[.slice none 0 0] rfl km ?_; (refine (index_Get.calls k _ _ ([] : List Int) t350 t351 t354 t355 _ ?side1 ?side2 A3.out).mono ?_); (case side1 => exact Kd.C_nil _ _); (case side2 => exact Nat.le_refl _); rintro e w15 ⟨v352, rfl, ho0, hb⟩; refine ⟨_, rfl, ?_⟩; replace HO341 := Aside0.mk (Kd.R_below (by (with_reducible repeat (first | apply Kd.R_alloc | apply Kd.R_drewN | apply Kd.R_drew)); exact (Kd.R_mono (Kd.R_far (p := ⟨gb349, 1, none⟩) (Kd.R_far (p := ⟨gb349, 0, none⟩) (Kd.R_types HO341.out BK349.out (by decide)) (fun _ hk => hk.2) (.int .i64 t343)) (fun _ hk => hk.2) (.slice Ao14 t344.length co14)) (fun _ h_ => h_.1))) hb); have HO353 := Aside0.mk (Kd.R_lower (Kd.R_new' ho0 (Kd.R_lt (by (with_reducible repeat (first | apply Kd.R_alloc | apply Kd.R_drewN | apply Kd.R_drew)); exact (Kd.R_mono (Kd.R_far (p := ⟨gb349, 1, none⟩) (Kd.R_far (p := ⟨gb349, 0, none⟩) (Kd.R_types HO346.out BK349.out (by decide)) (fun _ hk => hk.2) (.int .i64 t343)) (fun _ hk => hk.2) (.slice Ao14 t344.length co14)) (fun _ h_ => h_.1))))) (below_size (kl HB))); replace HO346 := Aside0.mk (Kd.R_elder' (by (with_reducible repeat (first | apply Kd.R_alloc | apply Kd.R_drewN | apply Kd.R_drew)); exact (Kd.R_mono (Kd.R_far (p := ⟨gb349, 1, none⟩) (Kd.R_far (p := ⟨gb349, 0, none⟩) (Kd.R_types HO346.out BK349.out (by decide)) (fun _ hk => hk.2) (.int .i64 t343)) (fun _ hk => hk.2) (.slice Ao14 t344.length co14)) (fun _ h_ => h_.1))) (Kd.R_base ho0) hb); replace BK349 := Aside0.mk (blk_below (g := gb349) (o := .cells #[.int .i64 t343, .slice Ao14 t344.length co14] 53 (0, 0)) (kb BK349) hb); replace HB := kH HB hb; (try clear hb); (try clear hb2); (try clear hk); (try clear hi); (try clear ho0); (try simp only [errW_none, errW_some])) | ((with_reducible refine gate_dst (N := 6) rfl ?_); (try (refine gate_guard (by rfl) ?_; dsimp only)); refine box_event ?hg (N := 6) ?hd (cs := #[.int .i64 0, .slice none 0 0]) (t := 53) ?hr ?_; (case hd => rfl); (case hg => rfl); (case hr => first | (go_simp; done) | (go_simp; rfl)); intro gb356 hg w16 hbox hb; replace HO341 := Aside0.mk (Kd.R_below (kr HO341) hb); replace HO346 := Aside0.mk (Kd.R_below (kr HO346) hb); replace HO353 := Aside0.mk (Kd.R_below (kr HO353) hb); have BK356 := Aside0.mk (hbox); have GW356 := kG hg HB; have GE356 := kG hg HB; replace HB := kH HB hb; obtain ⟨NB349_356, NB356_349⟩ := kN hg BK349; replace BK349 := kB BK349 hb; clear hb hbox hg; have hnb17 := NB356_349.out; have hnc17 := NB349_356.out; have hcz18_0 : w16.cell? ⟨gb356, 0, none⟩ = some (.int .i64 0) := (blk_cell BK356.out 0).trans rfl; have hcz18_1 : w16.cell? ⟨gb356, 1, none⟩ = some (.slice none 0 0) := (blk_cell BK356.out 1).trans rfl; have hfz18_0 := blk_frozen BK356.out 0; have hfz18_1 := blk_frozen BK356.out 1; obtain ⟨Ao19, co19, eo19⟩ := Kd.R_slice HO353.out; subst eo19; have hcz20_0 : w16.cell? ⟨gb349, 0, none⟩ = some (.int .i64 t343) := (blk_cell BK349.out 0).trans rfl; have hcz20_1 : w16.cell? ⟨gb349, 1, none⟩ = some (.slice Ao14 t344.length co14) := (blk_cell BK349.out 1).trans rfl; have hfz20_0 := blk_frozen BK349.out 0; have hfz20_1 := blk_frozen BK349.out 1; have CA8 := fun W => gaiterlaw00_Code.calls t355 t359 W A8.out; try simp only [errW_none, errW_some] at CA8) | (go_at_call 18; (with_reducible refine (CA8 _).mono ?_); rintro e w' ⟨rfl, ⟨nd, rfl⟩⟩))
       go_ret
       exact ⟨by first | rfl | (simp [errW_none, errW_some] <;> rfl) | (simp [*, errW_none, errW_some] <;> rfl), (kl HB)⟩
      ·rw [if_neg c7] at H
       exact absurd H (by simp)
     ·rw [if_neg c6] at H
      exact absurd H (by simp)
    ·rw [if_neg c5] at H
     exact absurd H (by simp)
   ·rw [if_neg c4] at H
    exact absurd H (by simp)
  ·have H1 : (none) = some r := by rw [if_neg (show ¬ (some q358).isNone = true by simp)] at H; exact H
   clear H
   have H := H1
   clear H1
   try simp only [errW_none, errW_some]
   exact absurd H (by simp)
 ·have H1 : (none) = some r := by rw [if_neg (show ¬ (some q357).isNone = true by simp)] at H; exact H
  clear H
  have H := H1
  clear H1
  try simp only [errW_none, errW_some]
  exact absurd H (by simp)

end Go.Proofs.Ytiahbcaoikoogaa.All
