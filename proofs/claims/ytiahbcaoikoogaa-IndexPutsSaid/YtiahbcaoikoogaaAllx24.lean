-- written by a program of the session out of the translation; Lean checks it
import Derived.Test.YtiahbcaoikoogaaAllx0
import Derived.Test.YtiahbcaoikoogaaAllx13
import Derived.Test.YtiahbcaoikoogaaAllx19
import Derived.Test.YtiahbcaoikoogaaAllx20
import Derived.Test.YtiahbcaoikoogaaAllx21
import Derived.Test.YtiahbcaoikoogaaAllx23
namespace Go.Proofs.Ytiahbcaoikoogaa.All
open Go.RowKit Go.Proofs.YtiahbcaoikoogaaW.PrintWords Go.Proofs.YtiahbcaoikoogaaW.PrintLast Go.Proofs.YtiahbcaoikoogaaW.PrintMore
attribute [local go_sem] max2_int min2_int max_two min_two max_three min_three max_four min_four   -- for this text's walks alone
set_option linter.unusedVariables false
set_option linter.unusedSimpArgs false

attribute [local go_sem high] errW_cells errW_match run_store_errW
/-! ### gaiterlaw14_IndexPuts: function 4 -/
def gaiterlaw14_IndexPuts.f (k : Nat) (a0_0 : Int) (l0_1 : List (S72)) : Option (Bool) := (gaiterlaw14_up.f k).bind fun t427 => (if (l0_1.length : Int) > 200 then (some t427) else ((index_Put.f k a0_0 l0_1).bind fun bt428 => ((gaiterlaw14_list.f k l0_1).bind fun t432 => ((gaiterref09_MayIndex.f k a0_0 t432).bind fun t435 => (if t435 = true then (if t427 = true then (if bt428.2.isNone = true then ((gaiterlaw14_list.f k l0_1).bind fun t437 => ((gaiterref09_Index.f k a0_0 t437).bind fun t440 => (some ((strOfNums bt428.1).toList == (strOfNums t440).toList)))) else (none)) else (none)) else (if t427 = true then ((gaiterlaw00_Code.f bt428.2).bind fun t443 => (if t443 = 1 then (some ((bt428.1.length : Int) == 0)) else (none))) else (none)))))))
theorem gaiterlaw14_IndexPuts.mono : ∀ a0 a1 k, LeO (gaiterlaw14_IndexPuts.f k a0 a1) (gaiterlaw14_IndexPuts.f (k + 1) a0 a1) := by
 intro a0 a1 k
 unfold gaiterlaw14_IndexPuts.f
 repeat' first
   | (with_reducible exact gaiterlaw14_list.mono _ _)
   | (with_reducible exact gaiterlaw14_up.mono _)
   | (with_reducible exact gaiterref09_Index.mono _ _ _)
   | (with_reducible exact gaiterref09_MayIndex.mono _ _ _)
   | (with_reducible exact index_Put.mono _ _ _)
   | (with_reducible exact LeO.refl _)
   | (with_reducible exact LeO.none _)
   | (with_reducible refine LeO.ite ?_ ?_)
   | (with_reducible refine LeO.bind ?_ (fun _ => ?_))
   | exact gaiterlaw14_list.mono _ _
   | exact gaiterlaw14_up.mono _
   | exact gaiterref09_Index.mono _ _ _
   | exact gaiterref09_MayIndex.mono _ _ _
   | exact index_Put.mono _ _ _
   | exact LeO.none _
   | refine LeO.ite ?_ ?_
   | refine LeO.bind ?_ (fun _ => ?_)
def gaiterlaw14_IndexPuts.T8 : Bool × List (List Nat × List Nat) := (true, [([], []), ([0], [0]), ([1], [1]), ([2, 1], [1, 2]), ([1, 3], [1, 3]), ([4, 1], [4]), ([5], [5]), ([6, 5], [5, 6]), ([5], [5]), ([8, 5], [5, 8]), ([5], [5]), ([10, 5], [5, 10]), ([11, 5, 5], [5, 11]), ([9, 12, 12, 5], [5, 9, 12]), ([13, 5], [5, 13]), ([7, 14, 5], [5, 7, 14]), ([5, 15], [5, 15]), ([16, 13, 0, 1, 2, 3, 4, 5, 6, 7, 8, 9, 10, 11, 12, 13, 14, 15, 16], [16])])
def gaiterlaw14_IndexPuts.B8 : List Nat := [0, 1, 3, 7, 15, 31, 63, 127, 63, 319, 63, 1087, 3135, 7999, 16191, 32767, 65535, 131071]
theorem gaiterlaw14_IndexPuts.tab8 : rtab .any (opsOf Try.f4 8) = gaiterlaw14_IndexPuts.T8 := by kernel_rfl
theorem gaiterlaw14_IndexPuts.bits8 : waitsOk gaiterlaw14_IndexPuts.T8.2 gaiterlaw14_IndexPuts.B8 = true := by kernel_rfl
set_option maxHeartbeats 8000000 in
set_option maxRecDepth 100000 in
theorem gaiterlaw14_IndexPuts.calls (k : Nat) (a0_0 : Int) (A0_1 : Option Addr) (c0_1 : Nat) (l0_1 : List (S72)) (r : Bool) (w : World) (hr0_1 : Kd.C k72 w A0_1 l0_1.length l0_1) (hc0_1 : l0_1.length ≤ c0_1) (h : gaiterlaw14_IndexPuts.f k a0_0 l0_1 = some r) :
  Calls Try.prog 4 #[.agg #[.int .i64 a0_0, .slice A0_1 l0_1.length c0_1]] w fun e w' => e = .returned (.bool r) ∧ Below w.heap.size w w' := by
 have hu53 := Try.underlying53
 have hu27 := Try.underlying27
 have hu29 := Try.underlying29
 have HR0_1 := Aside0.mk hr0_1
 have HC0_1 := Aside0.mk hc0_1
 clear hr0_1 hc0_1
 have HB := Aside0.mk (Below.refl w.heap.size w)
 have H : ((gaiterlaw14_up.f k).bind fun t427 => (if (l0_1.length : Int) > 200 then (some t427) else ((index_Put.f k a0_0 l0_1).bind fun bt428 => ((gaiterlaw14_list.f k l0_1).bind fun t432 => ((gaiterref09_MayIndex.f k a0_0 t432).bind fun t435 => (if t435 = true then (if t427 = true then (if bt428.2.isNone = true then ((gaiterlaw14_list.f k l0_1).bind fun t437 => ((gaiterref09_Index.f k a0_0 t437).bind fun t440 => (some ((strOfNums bt428.1).toList == (strOfNums t440).toList)))) else (none)) else (none)) else (if t427 = true then ((gaiterlaw00_Code.f bt428.2).bind fun t443 => (if t443 = 1 then (some ((bt428.1.length : Int) == 0)) else (none))) else (none)))))))) = some r := h
 clear h
 replace H := Option.bind_eq_some_iff.mp H
 obtain ⟨t427, A20, H⟩ := H
 replace H : (if (l0_1.length : Int) > 200 then (some t427) else ((index_Put.f k a0_0 l0_1).bind fun bt428 => ((gaiterlaw14_list.f k l0_1).bind fun t432 => ((gaiterref09_MayIndex.f k a0_0 t432).bind fun t435 => (if t435 = true then (if t427 = true then (if bt428.2.isNone = true then ((gaiterlaw14_list.f k l0_1).bind fun t437 => ((gaiterref09_Index.f k a0_0 t437).bind fun t440 => (some ((strOfNums bt428.1).toList == (strOfNums t440).toList)))) else (none)) else (none)) else (if t427 = true then ((gaiterlaw00_Code.f bt428.2).bind fun t443 => (if t443 = 1 then (some ((bt428.1.length : Int) == 0)) else (none))) else (none))))))) = some r := H
 have A2 := Aside0.mk A20
 clear A20
 by_cases c3 : (l0_1.length : Int) > 200
 ·rw [if_pos c3] at H
  have c3b0 : decide (200 < (l0_1.length : Int)) = true := decide_eq_true c3
  have c3b1 : decide (200 < l0_1.length) = true := decide_eq_true (by omega)
  clear c3
  obtain rfl := Option.some.inj H
  go_enter Try.func4, Try.ntmps4
  go_wp2_with (first | ((with_reducible refine gate_dst (N := 1) rfl ?_); (try (refine gate_guard (by rfl) ?_; dsimp only)); refine box_event ?hg (N := 1) ?hd (cs := #[.int .i64 a0_0, .slice A0_1 l0_1.length c0_1]) (t := 53) ?hr ?_; (case hd => rfl); (case hg => rfl); (case hr => first | (go_simp; done) | (go_simp; rfl)); intro gb426 hg w4 hbox hb; have BK426 := Aside0.mk (hbox); have GW426 := kG hg HB; have GE426 := kG hg HB; replace HB := kH HB hb; clear hb hbox hg) | ((with_reducible refine gate_callee (f := 21) rfl ?_); refine goesL_ (some 7) rfl rfl Try.func21 (by kernel_rfl) rfl #[] rfl km ?_; (with_reducible refine (gaiterlaw14_up.calls k  t427 _ A2.out).mono ?_); rintro e w5 ⟨rfl, hb⟩; refine ⟨_, rfl, ?_⟩; replace BK426 := kB BK426 hb; replace HB := kH HB hb; (try clear hb); (try clear hb2); (try clear hk); (try clear hi); have hcz6_0 : w5.cell? ⟨gb426, 0, none⟩ = some (.int .i64 a0_0) := (blk_cell BK426.out 0).trans rfl; have hcz6_1 : w5.cell? ⟨gb426, 1, none⟩ = some (.slice A0_1 l0_1.length c0_1) := (blk_cell BK426.out 1).trans rfl; have hfz6_0 := blk_frozen BK426.out 0; have hfz6_1 := blk_frozen BK426.out 1))
  go_ret
  exact ⟨by first | rfl | (simp [errW_none, errW_some] <;> rfl) | (simp [*, errW_none, errW_some] <;> rfl), (kl HB)⟩
 ·rw [if_neg c3] at H
  have c3b0 : decide (200 < (l0_1.length : Int)) = false := decide_eq_false c3
  have c3b1 : decide (200 < l0_1.length) = false := decide_eq_false (by omega)
  clear c3
  replace H := Option.bind_eq_some_iff.mp H
  obtain ⟨⟨t428, t431⟩, A70, H⟩ := H
  replace H : ((gaiterlaw14_list.f k l0_1).bind fun t432 => ((gaiterref09_MayIndex.f k a0_0 t432).bind fun t435 => (if t435 = true then (if t427 = true then (if t431.isNone = true then ((gaiterlaw14_list.f k l0_1).bind fun t437 => ((gaiterref09_Index.f k a0_0 t437).bind fun t440 => (some ((strOfNums t428).toList == (strOfNums t440).toList)))) else (none)) else (none)) else (if t427 = true then ((gaiterlaw00_Code.f t431).bind fun t443 => (if t443 = 1 then (some ((t428.length : Int) == 0)) else (none))) else (none))))) = some r := H
  have A7 := Aside0.mk A70
  clear A70
  replace H := Option.bind_eq_some_iff.mp H
  obtain ⟨t432, A80, H⟩ := H
  replace H : ((gaiterref09_MayIndex.f k a0_0 t432).bind fun t435 => (if t435 = true then (if t427 = true then (if t431.isNone = true then ((gaiterlaw14_list.f k l0_1).bind fun t437 => ((gaiterref09_Index.f k a0_0 t437).bind fun t440 => (some ((strOfNums t428).toList == (strOfNums t440).toList)))) else (none)) else (none)) else (if t427 = true then ((gaiterlaw00_Code.f t431).bind fun t443 => (if t443 = 1 then (some ((t428.length : Int) == 0)) else (none))) else (none)))) = some r := H
  have A8 := Aside0.mk A80
  clear A80
  replace H := Option.bind_eq_some_iff.mp H
  obtain ⟨t435, A90, H⟩ := H
  replace H : (if t435 = true then (if t427 = true then (if t431.isNone = true then ((gaiterlaw14_list.f k l0_1).bind fun t437 => ((gaiterref09_Index.f k a0_0 t437).bind fun t440 => (some ((strOfNums t428).toList == (strOfNums t440).toList)))) else (none)) else (none)) else (if t427 = true then ((gaiterlaw00_Code.f t431).bind fun t443 => (if t443 = 1 then (some ((t428.length : Int) == 0)) else (none))) else (none))) = some r := H
  have A9 := Aside0.mk A90
  clear A90
  by_cases c10 : t435 = true
  ·subst c10
   have H1 : (if t427 = true then (if t431.isNone = true then ((gaiterlaw14_list.f k l0_1).bind fun t437 => ((gaiterref09_Index.f k a0_0 t437).bind fun t440 => (some ((strOfNums t428).toList == (strOfNums t440).toList)))) else (none)) else (none)) = some r := by rw [if_pos rfl] at H; exact H
   clear H
   have H := H1
   clear H1
   by_cases c11 : t427 = true
   ·subst c11
    have H1 : (if t431.isNone = true then ((gaiterlaw14_list.f k l0_1).bind fun t437 => ((gaiterref09_Index.f k a0_0 t437).bind fun t440 => (some ((strOfNums t428).toList == (strOfNums t440).toList)))) else (none)) = some r := by rw [if_pos rfl] at H; exact H
    clear H
    have H := H1
    clear H1
    rcases t431 with _ | q436
    ·have H1 : ((gaiterlaw14_list.f k l0_1).bind fun t437 => ((gaiterref09_Index.f k a0_0 t437).bind fun t440 => (some ((strOfNums t428).toList == (strOfNums t440).toList)))) = some r := by rw [if_pos (show (none : Option Int).isNone = true by rfl)] at H; exact H
     clear H
     have H := H1
     clear H1
     try simp only [errW_none, errW_some]
     replace H := Option.bind_eq_some_iff.mp H
     obtain ⟨t437, A120, H⟩ := H
     replace H : ((gaiterref09_Index.f k a0_0 t437).bind fun t440 => (some ((strOfNums t428).toList == (strOfNums t440).toList))) = some r := H
     have A12 := Aside0.mk A120
     clear A120
     replace H := Option.bind_eq_some_iff.mp H
     obtain ⟨t440, A130, H⟩ := H
     replace H : (some ((strOfNums t428).toList == (strOfNums t440).toList)) = some r := H
     have A13 := Aside0.mk A130
     clear A130
     obtain rfl := Option.some.inj H
     go_enter Try.func4, Try.ntmps4
     try go_wp2_with (first | ((with_reducible refine gate_dst (N := 1) rfl ?_); (try (refine gate_guard (by rfl) ?_; dsimp only)); refine box_event ?hg (N := 1) ?hd (cs := #[.int .i64 a0_0, .slice A0_1 l0_1.length c0_1]) (t := 53) ?hr ?_; (case hd => rfl); (case hg => rfl); (case hr => first | (go_simp; done) | (go_simp; rfl)); intro gb426 hg w14 hbox hb; have BK426 := Aside0.mk (hbox); have GW426 := kG hg HB; have GE426 := kG hg HB; replace HB := kH HB hb; clear hb hbox hg) | ((with_reducible refine gate_callee (f := 21) rfl ?_); refine goesL_ (some 7) rfl rfl Try.func21 (by kernel_rfl) rfl #[] rfl km ?_; (with_reducible refine (gaiterlaw14_up.calls k  true _ A2.out).mono ?_); rintro e w15 ⟨rfl, hb⟩; refine ⟨_, rfl, ?_⟩; replace BK426 := kB BK426 hb; replace HB := kH HB hb; (try clear hb); (try clear hb2); (try clear hk); (try clear hi); have hcz16_0 : w15.cell? ⟨gb426, 0, none⟩ = some (.int .i64 a0_0) := (blk_cell BK426.out 0).trans rfl; have hcz16_1 : w15.cell? ⟨gb426, 1, none⟩ = some (.slice A0_1 l0_1.length c0_1) := (blk_cell BK426.out 1).trans rfl; have hfz16_0 := blk_frozen BK426.out 0; have hfz16_1 := blk_frozen BK426.out 1) | ((with_reducible refine gate_callee (f := 22) rfl ?_); refine goesL_ (some 15) rfl rfl Try.func22 (by kernel_rfl) rfl #[.agg #[.int .i64 a0_0, .slice A0_1 l0_1.length c0_1]] rfl km ?_; (with_reducible refine (index_Put.calls k a0_0 _ _ l0_1 t428 none _ ?side1 ?side2 A7.out).mono ?_); (case side1 => repeat (first | exact (Kd.C_below HR0_1.out HB.out) | (with_reducible refine Kd.C_alloc ?_ _) | (with_reducible refine Kd.C_drewN ?_ _) | (with_reducible refine Kd.C_drew ?_))); (case side2 => exact HC0_1.out); rintro e w17 ⟨v429, rfl, ho0, hb⟩; refine ⟨_, rfl, ?_⟩; have HO430 := Aside0.mk (Kd.R_lower ho0 (below_size (kl HB))); replace BK426 := kB BK426 hb; replace HB := kH HB hb; (try clear hb); (try clear hb2); (try clear hk); (try clear hi); (try clear ho0); (try simp only [errW_none, errW_some])))
     replace HO430 := Aside0.mk (Kd.R_drew HO430.out)
     replace BK426 := Aside0.mk (blk_drew BK426.out)
     replace HB := Aside0.mk (below_drew1 HB.out)
     refine start_ (n := 7) (S := fun w' => w'.cell? ⟨gb426, 0, none⟩ = some (.int .i64 a0_0) ∧ w'.cell? ⟨gb426, 1, none⟩ = some (.slice A0_1 l0_1.length c0_1)) (ds := []) (bl 7 0) (by kernel_rfl) rfl rfl kz (fun hHeld => ?_)
     generalize w17.drew = w18 at HO430 BK426 HB hHeld ⊢
     refine pu 0 (some 18) (bl 7 1) (h := ?_)
     refine pu 2 (some 20) (bl 7 5) (h := ?_)
     refine ta 1 (some 19) (bl 7 7) (h := ?_)
     refine ta 3 (some 21) (bl 7 15) (h := ?_)
     refine one_ (i := 4) (N := some 22) #[true, true, true, true, true, false, false] rfl rfl (by kernel_rfl) (by decide) (fun K hK => ?_)
     refine goes_ Try.func24 (by kernel_rfl) rfl #[.slice A0_1 l0_1.length c0_1] (by rfl) rfl rfl km ?_
     with_reducible refine (gaiterlaw14_list.calls k _ _ l0_1 t432 _ ?side1 ?side2 A8.out).mono ?_
     (case side1 => repeat (first | exact (Kd.C_below HR0_1.out HB.out) | (with_reducible refine Kd.C_alloc ?_ _) | (with_reducible refine Kd.C_drewN ?_ _) | (with_reducible refine Kd.C_drew ?_)))
     (case side2 => exact HC0_1.out)
     rintro e w19 ⟨v433, rfl, ho0, hb⟩
     refine ⟨_, rfl, ?_⟩
     replace HO430 := Aside0.mk (Kd.R_below (kr HO430) hb)
     have HO434 := Aside0.mk (Kd.R_lower ho0 (below_size (kl HB)))
     replace BK426 := kB BK426 hb
     replace HB := kH HB hb
     (try clear hb)
     (try clear hb2)
     (try clear hk)
     (try clear hi)
     (try clear ho0)
     obtain ⟨Ao20, co20, eo20⟩ := Kd.R_slice HO434.out
     (first | subst eo20 | (injection eo20 with f1_ f2_ f3_; have f4_ := f1_.symm; have f5_ := f3_.symm; clear f1_ f2_ f3_; subst f4_; subst f5_))
     refine hK.out _ _ kz (fun hHeld => ?_)
     clear hK K
     refine norm_ (a' := ?_) ?_ ?_
     rotate_left
     ·show Act.put _ (some 22) _ = _
      simp only [Act.put, List.setIfInBounds_toArray, List.set_cons_zero, List.set_cons_succ, i64_w, i32_w]
      rfl
     refine one_ (i := 5) (N := some 23) #[true, true, true, true, true, true, false] rfl rfl (by kernel_rfl) (by decide) (fun K hK => ?_)
     refine goes_ Try.func23 (by kernel_rfl) rfl #[.int .i64 a0_0, .slice Ao20 t432.length co20] (by rfl) rfl rfl km ?_
     with_reducible refine (gaiterref09_MayIndex.calls k a0_0 _ _ t432 true _ ?side1 ?side2 A9.out).mono ?_
     (case side1 => repeat (first | exact (Kd.R_reads' HO434.out).2.2 | (with_reducible refine Kd.C_alloc ?_ _) | (with_reducible refine Kd.C_drewN ?_ _) | (with_reducible refine Kd.C_drew ?_)))
     (case side2 => exact (Kd.R_reads' HO434.out).2.1)
     rintro e w21 ⟨rfl, hb⟩
     refine ⟨_, rfl, ?_⟩
     replace HO430 := Aside0.mk (Kd.R_below (kr HO430) hb)
     replace HO434 := Aside0.mk (Kd.R_below (kr HO434) hb)
     replace BK426 := kB BK426 hb
     replace HB := kH HB hb
     (try clear hb)
     (try clear hb2)
     (try clear hk)
     (try clear hi)
     refine hK.out _ _ kz (fun hHeld => ?_)
     clear hK K
     refine norm_ (a' := ?_) ?_ ?_
     rotate_left
     ·show Act.put _ (some 23) _ = _
      simp only [Act.put, List.setIfInBounds_toArray, List.set_cons_zero, List.set_cons_succ, i64_w, i32_w]
      rfl
     refine pu 6 (some 6) (bl 7 127) (h := ?_)
     refine done_ (by kernel_rfl) ?_
     try go_wp2
     replace HO430 := Aside0.mk (Kd.R_drew HO430.out)
     replace HO434 := Aside0.mk (Kd.R_drew HO434.out)
     replace BK426 := Aside0.mk (blk_drew BK426.out)
     replace HB := Aside0.mk (below_drew1 HB.out)
     refine start_ (n := 18) (S := fun w' => w'.cell? ⟨gb426, 0, none⟩ = some (.int .i64 a0_0) ∧ w'.cell? ⟨gb426, 1, none⟩ = some (.slice A0_1 l0_1.length c0_1)) (ds := []) (bl 18 0) (by kernel_rfl) rfl rfl kz (fun hHeld => ?_); refine with_tabW gaiterlaw14_IndexPuts.tab8 gaiterlaw14_IndexPuts.bits8 (fun HT_ HW_ => ?_)
     generalize w21.drew = w22 at HO430 HO434 BK426 HB hHeld ⊢
     refine pu 0 (some 37) (bl 18 1) (h := ?_)
     refine pu 1 (some 38) (bl 18 3) (h := ?_)
     refine pu 2 (some 39) (bl 18 7) (h := ?_)
     refine pu 3 (some 40) (bl 18 15) (h := ?_)
     refine pu 4 (some 41) (bl 18 31) (h := ?_)
     refine pu 5 (some 42) (bl 18 63) (h := ?_)
     refine pu 6 (some 43) (bl 18 127) (h := ?_)
     refine pu 8 (some 45) (bl 18 383) (h := ?_)
     refine pu 10 (some 47) (bl 18 1407) (h := ?_)
     refine ta 9 (some 46) (bl 18 1919) (h := ?_)
     refine ta 11 (some 48) (bl 18 3967) (h := ?_)
     refine join_ (σ := Value × Value) 3 #[true, true, true, true, true, true, true, true, true, true, true, true, true, true, true, false, false, false] (fun s_ => [(44, .string (strOfNums t428)), (49, s_.1), (50, s_.2), (51, .string (strOfNums t440))]) (fun s_ w' => (w'.cell? ⟨gb426, 0, none⟩ = some (.int .i64 a0_0) ∧ w'.cell? ⟨gb426, 1, none⟩ = some (.slice A0_1 l0_1.length c0_1)) ∧ (Kd.R (Kd.int .u8) 5 w' w.heap.size (fun k_ => some k_ ≠ (s_.2 : Value).ownBlock) v429 t428) ∧ (Kd.R k79 79 w' w.heap.size (fun k_ => some k_ ≠ (s_.1 : Value).ownBlock) (.slice Ao20 t432.length co20) t432) ∧ (Kd.R k79 79 w' w.heap.size (fun k_ => some k_ ≠ (.slice Ao20 t432.length co20 : Value).ownBlock) s_.1 t437) ∧ (Kd.R (Kd.int .u8) 5 w' w.heap.size (fun k_ => some k_ ≠ (v429 : Value).ownBlock) s_.2 t440) ∧ (w'.heap[gb426]? = some (.cells #[.int .i64 a0_0, .slice A0_1 l0_1.length c0_1] 53 (0, 0))) ∧ (Below w.heap.size w w')) ?_ ?_
     rotate_left
     ·intro hCont
      refine two_ (i := 7) (j := 12) (Ni := some 44) (Nj := some 49) #[true, true, true, true, true, true, true, true, true, true, true, true, false, false, false, false, false, false] #[true, true, true, true, true, true, true, false, true, true, true, true, true, false, false, false, false, false] rfl rfl rfl rfl (two_of HT_.out (by kernel_rfl)) (by decide) (by decide) (fun K hK => ?_) (fun K hK => ?_)
      ·skip
       have hcv23 := own_string (P := Try.prog) Try.underlying54 Try.underlying5 Try.underlying9 (Kd.own_of_R HO430.out)
       refine value_ (w1 := ?_) (v := ?_) (by rfl) rfl ?_ ?_
       rotate_left 2
       ·go_simp
        constructor
        ·rfl
        ·rfl
       clear hcv23
       refine hK.out _ _ kz (fun hHeld => ?_)
       clear hK K
       refine norm_ (a' := ?_) ?_ ?_
       rotate_left
       ·show Act.put _ (some 44) _ = _
        simp only [Act.put, List.setIfInBounds_toArray, List.set_cons_zero, List.set_cons_succ, i64_w, i32_w]
        rfl
       refine one_ (i := 12) (N := some 49) #[true, true, true, true, true, true, true, true, true, true, true, true, true, false, false, false, false, false] rfl rfl (one_of HT_.out (by kernel_rfl)) (by decide) (fun K hK => ?_)
       refine goes_ Try.func24 (by kernel_rfl) rfl #[.slice A0_1 l0_1.length c0_1] (by rfl) rfl rfl km ?_
       with_reducible refine (gaiterlaw14_list.calls k _ _ l0_1 t437 _ ?side1 ?side2 A12.out).mono ?_
       (case side1 => repeat (first | exact (Kd.C_below HR0_1.out HB.out) | (with_reducible refine Kd.C_alloc ?_ _) | (with_reducible refine Kd.C_drewN ?_ _) | (with_reducible refine Kd.C_drew ?_)))
       (case side2 => exact HC0_1.out)
       rintro e w24 ⟨v438, rfl, ho0, hb⟩
       refine ⟨_, rfl, ?_⟩
       replace HO430 := Aside0.mk (Kd.R_below (kr HO430) hb)
       have HO439 := Aside0.mk (Kd.R_lower (Kd.R_new' ho0 (Kd.R_lt (kr HO434))) (below_size (kl HB)))
       replace HO434 := Aside0.mk (Kd.R_elder' (kr HO434) (Kd.R_base ho0) hb)
       replace BK426 := kB BK426 hb
       replace HB := kH HB hb
       (try clear hb)
       (try clear hb2)
       (try clear hk)
       (try clear hi)
       (try clear ho0)
       obtain ⟨Ao25, co25, eo25⟩ := Kd.R_slice HO439.out
       (first | subst eo25 | (injection eo25 with f1_ f2_ f3_; have f4_ := f1_.symm; have f5_ := f3_.symm; clear f1_ f2_ f3_; subst f4_; subst f5_))
       refine hK.out _ _ kz (fun hHeld => ?_)
       clear hK K
       refine norm_ (a' := ?_) ?_ ?_
       rotate_left
       ·show Act.put _ (some 49) _ = _
        simp only [Act.put, List.setIfInBounds_toArray, List.set_cons_zero, List.set_cons_succ, i64_w, i32_w]
        rfl
       refine one_ (i := 13) (N := some 50) #[true, true, true, true, true, true, true, true, true, true, true, true, true, true, false, false, false, false] rfl rfl (one_of HT_.out (by kernel_rfl)) (by decide) (fun K hK => ?_)
       refine goes_ Try.func25 (by kernel_rfl) rfl #[.int .i64 a0_0, .slice Ao25 t437.length co25] (by rfl) rfl rfl km ?_
       with_reducible refine (gaiterref09_Index.calls k a0_0 _ _ t437 t440 _ ?side1 ?side2 A13.out).mono ?_
       (case side1 => repeat (first | exact (Kd.R_reads' HO439.out).2.2 | (with_reducible refine Kd.C_alloc ?_ _) | (with_reducible refine Kd.C_drewN ?_ _) | (with_reducible refine Kd.C_drew ?_)))
       (case side2 => exact (Kd.R_reads' HO439.out).2.1)
       rintro e w26 ⟨v441, rfl, ho0, hb⟩
       refine ⟨_, rfl, ?_⟩
       replace HO434 := Aside0.mk (Kd.R_below (kr HO434) hb)
       replace HO439 := Aside0.mk (Kd.R_below (kr HO439) hb)
       have HO442 := Aside0.mk (Kd.R_lower (Kd.R_new' ho0 (Kd.R_lt (kr HO430))) (below_size (kl HB)))
       replace HO430 := Aside0.mk (Kd.R_elder' (kr HO430) (Kd.R_base ho0) hb)
       replace BK426 := kB BK426 hb
       replace HB := kH HB hb
       (try clear hb)
       (try clear hb2)
       (try clear hk)
       (try clear hi)
       (try clear ho0)
       refine hK.out _ _ kz (fun hHeld => ?_)
       clear hK K
       refine norm_ (a' := ?_) ?_ ?_
       rotate_left
       ·show Act.put _ (some 50) _ = _
        simp only [Act.put, List.setIfInBounds_toArray, List.set_cons_zero, List.set_cons_succ, i64_w, i32_w]
        rfl
       refine one_ (i := 14) (N := some 51) #[true, true, true, true, true, true, true, true, true, true, true, true, true, true, true, false, false, false] rfl rfl (one_of HT_.out (by kernel_rfl)) (by decide) (fun K hK => ?_)
       have hcv27 := own_string (P := Try.prog) Try.underlying54 Try.underlying5 Try.underlying9 (Kd.own_of_R HO442.out)
       refine value_ (w1 := ?_) (v := ?_) (by rfl) rfl ?_ ?_
       rotate_left 2
       ·go_simp
        constructor
        ·rfl
        ·rfl
       clear hcv27
       refine hK.out _ _ kz (fun hHeld => ?_)
       clear hK K
       refine norm_ (a' := ?_) ?_ ?_
       rotate_left
       ·show Act.put _ (some 51) _ = _
        simp only [Act.put, List.setIfInBounds_toArray, List.set_cons_zero, List.set_cons_succ, i64_w, i32_w]
        rfl
       exact norm_ (by simp only [putAll, Act.put, List.setIfInBounds_toArray, List.set_cons_zero, List.set_cons_succ]) (hCont (.slice Ao25 t437.length co25, v441) _ ⟨hHeld, (by (with_reducible repeat (first | apply Kd.R_alloc | apply Kd.R_drewN | apply Kd.R_drew)); exact Kd.R_mono HO430.out (fun _ hk => hk.2)), (by (with_reducible repeat (first | apply Kd.R_alloc | apply Kd.R_drewN | apply Kd.R_drew)); exact Kd.R_mono HO434.out (fun _ hk => hk.2)), (by (with_reducible repeat (first | apply Kd.R_alloc | apply Kd.R_drewN | apply Kd.R_drew)); exact Kd.R_mono HO439.out (fun _ hk => hk.2)), (by (with_reducible repeat (first | apply Kd.R_alloc | apply Kd.R_drewN | apply Kd.R_drew)); exact Kd.R_mono HO442.out (fun _ hk => hk.2)), (kb BK426), (kl HB)⟩)
      ·skip
       refine goes_ Try.func24 (by kernel_rfl) rfl #[.slice A0_1 l0_1.length c0_1] (by rfl) rfl rfl km ?_
       with_reducible refine (gaiterlaw14_list.calls k _ _ l0_1 t437 _ ?side1 ?side2 A12.out).mono ?_
       (case side1 => repeat (first | exact (Kd.C_below HR0_1.out HB.out) | (with_reducible refine Kd.C_alloc ?_ _) | (with_reducible refine Kd.C_drewN ?_ _) | (with_reducible refine Kd.C_drew ?_)))
       (case side2 => exact HC0_1.out)
       rintro e w23 ⟨v438, rfl, ho0, hb⟩
       refine ⟨_, rfl, ?_⟩
       replace HO430 := Aside0.mk (Kd.R_below (kr HO430) hb)
       have HO439 := Aside0.mk (Kd.R_lower (Kd.R_new' ho0 (Kd.R_lt (kr HO434))) (below_size (kl HB)))
       replace HO434 := Aside0.mk (Kd.R_elder' (kr HO434) (Kd.R_base ho0) hb)
       replace BK426 := kB BK426 hb
       replace HB := kH HB hb
       (try clear hb)
       (try clear hb2)
       (try clear hk)
       (try clear hi)
       (try clear ho0)
       obtain ⟨Ao25, co25, eo25⟩ := Kd.R_slice HO439.out
       (first | subst eo25 | (injection eo25 with f1_ f2_ f3_; have f4_ := f1_.symm; have f5_ := f3_.symm; clear f1_ f2_ f3_; subst f4_; subst f5_))
       refine hK.out _ _ kz (fun hHeld => ?_)
       clear hK K
       refine norm_ (a' := ?_) ?_ ?_
       rotate_left
       ·show Act.put _ (some 49) _ = _
        simp only [Act.put, List.setIfInBounds_toArray, List.set_cons_zero, List.set_cons_succ, i64_w, i32_w]
        rfl
       refine two_ (i := 7) (j := 13) (Ni := some 44) (Nj := some 50) #[true, true, true, true, true, true, true, true, true, true, true, true, true, false, false, false, false, false] #[true, true, true, true, true, true, true, false, true, true, true, true, true, true, false, false, false, false] rfl rfl rfl rfl (two_of HT_.out (by kernel_rfl)) (by decide) (by decide) (fun K hK => ?_) (fun K hK => ?_)
       ·skip
        have hcv24 := own_string (P := Try.prog) Try.underlying54 Try.underlying5 Try.underlying9 (Kd.own_of_R HO430.out)
        refine value_ (w1 := ?_) (v := ?_) (by rfl) rfl ?_ ?_
        rotate_left 2
        ·go_simp
         constructor
         ·rfl
         ·rfl
        clear hcv24
        refine hK.out _ _ kz (fun hHeld => ?_)
        clear hK K
        refine norm_ (a' := ?_) ?_ ?_
        rotate_left
        ·show Act.put _ (some 44) _ = _
         simp only [Act.put, List.setIfInBounds_toArray, List.set_cons_zero, List.set_cons_succ, i64_w, i32_w]
         rfl
        refine one_ (i := 13) (N := some 50) #[true, true, true, true, true, true, true, true, true, true, true, true, true, true, false, false, false, false] rfl rfl (one_of HT_.out (by kernel_rfl)) (by decide) (fun K hK => ?_)
        refine goes_ Try.func25 (by kernel_rfl) rfl #[.int .i64 a0_0, .slice Ao25 t437.length co25] (by rfl) rfl rfl km ?_
        with_reducible refine (gaiterref09_Index.calls k a0_0 _ _ t437 t440 _ ?side1 ?side2 A13.out).mono ?_
        (case side1 => repeat (first | exact (Kd.R_reads' HO439.out).2.2 | (with_reducible refine Kd.C_alloc ?_ _) | (with_reducible refine Kd.C_drewN ?_ _) | (with_reducible refine Kd.C_drew ?_)))
        (case side2 => exact (Kd.R_reads' HO439.out).2.1)
        rintro e w26 ⟨v441, rfl, ho0, hb⟩
        refine ⟨_, rfl, ?_⟩
        replace HO434 := Aside0.mk (Kd.R_below (kr HO434) hb)
        replace HO439 := Aside0.mk (Kd.R_below (kr HO439) hb)
        have HO442 := Aside0.mk (Kd.R_lower (Kd.R_new' ho0 (Kd.R_lt (kr HO430))) (below_size (kl HB)))
        replace HO430 := Aside0.mk (Kd.R_elder' (kr HO430) (Kd.R_base ho0) hb)
        replace BK426 := kB BK426 hb
        replace HB := kH HB hb
        (try clear hb)
        (try clear hb2)
        (try clear hk)
        (try clear hi)
        (try clear ho0)
        refine hK.out _ _ kz (fun hHeld => ?_)
        clear hK K
        refine norm_ (a' := ?_) ?_ ?_
        rotate_left
        ·show Act.put _ (some 50) _ = _
         simp only [Act.put, List.setIfInBounds_toArray, List.set_cons_zero, List.set_cons_succ, i64_w, i32_w]
         rfl
        refine one_ (i := 14) (N := some 51) #[true, true, true, true, true, true, true, true, true, true, true, true, true, true, true, false, false, false] rfl rfl (one_of HT_.out (by kernel_rfl)) (by decide) (fun K hK => ?_)
        have hcv27 := own_string (P := Try.prog) Try.underlying54 Try.underlying5 Try.underlying9 (Kd.own_of_R HO442.out)
        refine value_ (w1 := ?_) (v := ?_) (by rfl) rfl ?_ ?_
        rotate_left 2
        ·go_simp
         constructor
         ·rfl
         ·rfl
        clear hcv27
        refine hK.out _ _ kz (fun hHeld => ?_)
        clear hK K
        refine norm_ (a' := ?_) ?_ ?_
        rotate_left
        ·show Act.put _ (some 51) _ = _
         simp only [Act.put, List.setIfInBounds_toArray, List.set_cons_zero, List.set_cons_succ, i64_w, i32_w]
         rfl
        exact norm_ (by simp only [putAll, Act.put, List.setIfInBounds_toArray, List.set_cons_zero, List.set_cons_succ]) (hCont (.slice Ao25 t437.length co25, v441) _ ⟨hHeld, (by (with_reducible repeat (first | apply Kd.R_alloc | apply Kd.R_drewN | apply Kd.R_drew)); exact Kd.R_mono HO430.out (fun _ hk => hk.2)), (by (with_reducible repeat (first | apply Kd.R_alloc | apply Kd.R_drewN | apply Kd.R_drew)); exact Kd.R_mono HO434.out (fun _ hk => hk.2)), (by (with_reducible repeat (first | apply Kd.R_alloc | apply Kd.R_drewN | apply Kd.R_drew)); exact Kd.R_mono HO439.out (fun _ hk => hk.2)), (by (with_reducible repeat (first | apply Kd.R_alloc | apply Kd.R_drewN | apply Kd.R_drew)); exact Kd.R_mono HO442.out (fun _ hk => hk.2)), (kb BK426), (kl HB)⟩)
       ·skip
        refine goes_ Try.func25 (by kernel_rfl) rfl #[.int .i64 a0_0, .slice Ao25 t437.length co25] (by rfl) rfl rfl km ?_
        with_reducible refine (gaiterref09_Index.calls k a0_0 _ _ t437 t440 _ ?side1 ?side2 A13.out).mono ?_
        (case side1 => repeat (first | exact (Kd.R_reads' HO439.out).2.2 | (with_reducible refine Kd.C_alloc ?_ _) | (with_reducible refine Kd.C_drewN ?_ _) | (with_reducible refine Kd.C_drew ?_)))
        (case side2 => exact (Kd.R_reads' HO439.out).2.1)
        rintro e w25 ⟨v441, rfl, ho0, hb⟩
        refine ⟨_, rfl, ?_⟩
        replace HO434 := Aside0.mk (Kd.R_below (kr HO434) hb)
        replace HO439 := Aside0.mk (Kd.R_below (kr HO439) hb)
        have HO442 := Aside0.mk (Kd.R_lower (Kd.R_new' ho0 (Kd.R_lt (kr HO430))) (below_size (kl HB)))
        replace HO430 := Aside0.mk (Kd.R_elder' (kr HO430) (Kd.R_base ho0) hb)
        replace BK426 := kB BK426 hb
        replace HB := kH HB hb
        (try clear hb)
        (try clear hb2)
        (try clear hk)
        (try clear hi)
        (try clear ho0)
        refine hK.out _ _ kz (fun hHeld => ?_)
        clear hK K
        refine norm_ (a' := ?_) ?_ ?_
        rotate_left
        ·show Act.put _ (some 50) _ = _
         simp only [Act.put, List.setIfInBounds_toArray, List.set_cons_zero, List.set_cons_succ, i64_w, i32_w]
         rfl
        refine two_ (i := 7) (j := 14) (Ni := some 44) (Nj := some 51) #[true, true, true, true, true, true, true, true, true, true, true, true, true, true, false, false, false, false] #[true, true, true, true, true, true, true, false, true, true, true, true, true, true, true, false, false, false] rfl rfl rfl rfl (two_of HT_.out (by kernel_rfl)) (by decide) (by decide) (fun K hK => ?_) (fun K hK => ?_)
        ·skip
         have hcv26 := own_string (P := Try.prog) Try.underlying54 Try.underlying5 Try.underlying9 (Kd.own_of_R HO430.out)
         refine value_ (w1 := ?_) (v := ?_) (by rfl) rfl ?_ ?_
         rotate_left 2
         ·go_simp
          constructor
          ·rfl
          ·rfl
         clear hcv26
         refine hK.out _ _ kz (fun hHeld => ?_)
         clear hK K
         refine norm_ (a' := ?_) ?_ ?_
         rotate_left
         ·show Act.put _ (some 44) _ = _
          simp only [Act.put, List.setIfInBounds_toArray, List.set_cons_zero, List.set_cons_succ, i64_w, i32_w]
          rfl
         refine one_ (i := 14) (N := some 51) #[true, true, true, true, true, true, true, true, true, true, true, true, true, true, true, false, false, false] rfl rfl (one_of HT_.out (by kernel_rfl)) (by decide) (fun K hK => ?_)
         have hcv27 := own_string (P := Try.prog) Try.underlying54 Try.underlying5 Try.underlying9 (Kd.own_of_R HO442.out)
         refine value_ (w1 := ?_) (v := ?_) (by rfl) rfl ?_ ?_
         rotate_left 2
         ·go_simp
          constructor
          ·rfl
          ·rfl
         clear hcv27
         refine hK.out _ _ kz (fun hHeld => ?_)
         clear hK K
         refine norm_ (a' := ?_) ?_ ?_
         rotate_left
         ·show Act.put _ (some 51) _ = _
          simp only [Act.put, List.setIfInBounds_toArray, List.set_cons_zero, List.set_cons_succ, i64_w, i32_w]
          rfl
         exact norm_ (by simp only [putAll, Act.put, List.setIfInBounds_toArray, List.set_cons_zero, List.set_cons_succ]) (hCont (.slice Ao25 t437.length co25, v441) _ ⟨hHeld, (by (with_reducible repeat (first | apply Kd.R_alloc | apply Kd.R_drewN | apply Kd.R_drew)); exact Kd.R_mono HO430.out (fun _ hk => hk.2)), (by (with_reducible repeat (first | apply Kd.R_alloc | apply Kd.R_drewN | apply Kd.R_drew)); exact Kd.R_mono HO434.out (fun _ hk => hk.2)), (by (with_reducible repeat (first | apply Kd.R_alloc | apply Kd.R_drewN | apply Kd.R_drew)); exact Kd.R_mono HO439.out (fun _ hk => hk.2)), (by (with_reducible repeat (first | apply Kd.R_alloc | apply Kd.R_drewN | apply Kd.R_drew)); exact Kd.R_mono HO442.out (fun _ hk => hk.2)), (kb BK426), (kl HB)⟩)
        ·skip
         have hcv26 := own_string (P := Try.prog) Try.underlying54 Try.underlying5 Try.underlying9 (Kd.own_of_R HO442.out)
         refine value_ (w1 := ?_) (v := ?_) (by rfl) rfl ?_ ?_
         rotate_left 2
         ·go_simp
          constructor
          ·rfl
          ·rfl
         clear hcv26
         refine hK.out _ _ kz (fun hHeld => ?_)
         clear hK K
         refine norm_ (a' := ?_) ?_ ?_
         rotate_left
         ·show Act.put _ (some 51) _ = _
          simp only [Act.put, List.setIfInBounds_toArray, List.set_cons_zero, List.set_cons_succ, i64_w, i32_w]
          rfl
         refine one_ (i := 7) (N := some 44) #[true, true, true, true, true, true, true, true, true, true, true, true, true, true, true, false, false, false] rfl rfl (one_of HT_.out (by kernel_rfl)) (by decide) (fun K hK => ?_)
         have hcv27 := own_string (P := Try.prog) Try.underlying54 Try.underlying5 Try.underlying9 (Kd.own_of_R HO430.out)
         refine value_ (w1 := ?_) (v := ?_) (by rfl) rfl ?_ ?_
         rotate_left 2
         ·go_simp
          constructor
          ·rfl
          ·rfl
         clear hcv27
         refine hK.out _ _ kz (fun hHeld => ?_)
         clear hK K
         refine norm_ (a' := ?_) ?_ ?_
         rotate_left
         ·show Act.put _ (some 44) _ = _
          simp only [Act.put, List.setIfInBounds_toArray, List.set_cons_zero, List.set_cons_succ, i64_w, i32_w]
          rfl
         exact norm_ (by simp only [putAll, Act.put, List.setIfInBounds_toArray, List.set_cons_zero, List.set_cons_succ]) (hCont (.slice Ao25 t437.length co25, v441) _ ⟨hHeld, (by (with_reducible repeat (first | apply Kd.R_alloc | apply Kd.R_drewN | apply Kd.R_drew)); exact Kd.R_mono HO430.out (fun _ hk => hk.2)), (by (with_reducible repeat (first | apply Kd.R_alloc | apply Kd.R_drewN | apply Kd.R_drew)); exact Kd.R_mono HO434.out (fun _ hk => hk.2)), (by (with_reducible repeat (first | apply Kd.R_alloc | apply Kd.R_drewN | apply Kd.R_drew)); exact Kd.R_mono HO439.out (fun _ hk => hk.2)), (by (with_reducible repeat (first | apply Kd.R_alloc | apply Kd.R_drewN | apply Kd.R_drew)); exact Kd.R_mono HO442.out (fun _ hk => hk.2)), (kb BK426), (kl HB)⟩)
     rintro ⟨v438, v441⟩ w28 ⟨hS_, h0_, h1_, h2_, h3_, h4_, h5_⟩
     have n0_ : Aside0 (Kd.R (Kd.int .u8) 5 w28 w.heap.size (fun k_ => some k_ ≠ (v441 : Value).ownBlock) v429 t428) := ⟨h0_⟩
     have n1_ : Aside0 (Kd.R k79 79 w28 w.heap.size (fun k_ => some k_ ≠ (v438 : Value).ownBlock) (.slice Ao20 t432.length co20) t432) := ⟨h1_⟩
     have n2_ : Aside0 (Kd.R k79 79 w28 w.heap.size (fun k_ => some k_ ≠ (.slice Ao20 t432.length co20 : Value).ownBlock) v438 t437) := ⟨h2_⟩
     have n3_ : Aside0 (Kd.R (Kd.int .u8) 5 w28 w.heap.size (fun k_ => some k_ ≠ (v429 : Value).ownBlock) v441 t440) := ⟨h3_⟩
     have n4_ : Aside0 (w28.heap[gb426]? = some (.cells #[.int .i64 a0_0, .slice A0_1 l0_1.length c0_1] 53 (0, 0))) := ⟨h4_⟩
     have n5_ : Aside0 (Below w.heap.size w w28) := ⟨h5_⟩
     clear HO430
     clear HO434
     clear BK426
     clear HB
     clear h0_ h1_ h2_ h3_ h4_ h5_
     have HO430 := n0_
     have HO434 := n1_
     have HO439 := n2_
     have HO442 := n3_
     have BK426 := n4_
     have HB := n5_
     clear n0_ n1_ n2_ n3_ n4_ n5_
     have hHeld : w28.cell? ⟨gb426, 0, none⟩ = some (.int .i64 a0_0) ∧ w28.cell? ⟨gb426, 1, none⟩ = some (.slice A0_1 l0_1.length c0_1) := hS_
     refine norm_ (a' := ?_) ?_ ?_
     rotate_left
     ·simp only [putAll, Act.put, List.setIfInBounds_toArray, List.set_cons_zero, List.set_cons_succ]
      rfl
     refine pu 15 (some 52) (bl 18 65535) (h := ?_)
     refine pu 16 (some 53) (bl 18 131071) (h := ?_)
     refine pu 17 (some 2) (bl 18 262143) (h := ?_)
     refine done_ (done_of HT_.out (by kernel_rfl)) ?_
     try go_wp2
     (try (have hd_ : t432 = t437 := Option.some.inj (A8.out.symm.trans A12.out); subst hd_))
     go_ret
     exact ⟨by first | rfl | (simp [errW_none, errW_some] <;> rfl) | (simp [*, errW_none, errW_some] <;> rfl), (kl HB)⟩
    ·have H1 : (none) = some r := by rw [if_neg (show ¬ (some q436).isNone = true by simp)] at H; exact H
     clear H
     have H := H1
     clear H1
     try simp only [errW_none, errW_some]
     exact absurd H (by simp)
   ·replace c11 := Bool.eq_false_iff.mpr c11
    subst c11
    have H1 : (none) = some r := by rw [if_neg (show ¬ (false = true) by decide)] at H; exact H
    clear H
    have H := H1
    clear H1
    exact absurd H (by simp)
  ·replace c10 := Bool.eq_false_iff.mpr c10
   subst c10
   have H1 : (if t427 = true then ((gaiterlaw00_Code.f t431).bind fun t443 => (if t443 = 1 then (some ((t428.length : Int) == 0)) else (none))) else (none)) = some r := by rw [if_neg (show ¬ (false = true) by decide)] at H; exact H
   clear H
   have H := H1
   clear H1
   by_cases c29 : t427 = true
   ·subst c29
    have H1 : ((gaiterlaw00_Code.f t431).bind fun t443 => (if t443 = 1 then (some ((t428.length : Int) == 0)) else (none))) = some r := by rw [if_pos rfl] at H; exact H
    clear H
    have H := H1
    clear H1
    replace H := Option.bind_eq_some_iff.mp H
    obtain ⟨t443, A300, H⟩ := H
    replace H : (if t443 = 1 then (some ((t428.length : Int) == 0)) else (none)) = some r := H
    have A30 := Aside0.mk A300
    clear A300
    by_cases c31 : t443 = 1
    ·rw [if_pos c31] at H
     have c31b0 : (t443 == 1) = true := beq_iff_eq.mpr c31
     have c31b1 : (t443 != 1) = false := bne_eq_false_iff_eq.mpr c31
     clear c31
     obtain rfl := Option.some.inj H
     go_enter Try.func4, Try.ntmps4
     try go_wp2_with (first | ((with_reducible refine gate_dst (N := 1) rfl ?_); (try (refine gate_guard (by rfl) ?_; dsimp only)); refine box_event ?hg (N := 1) ?hd (cs := #[.int .i64 a0_0, .slice A0_1 l0_1.length c0_1]) (t := 53) ?hr ?_; (case hd => rfl); (case hg => rfl); (case hr => first | (go_simp; done) | (go_simp; rfl)); intro gb426 hg w32 hbox hb; have BK426 := Aside0.mk (hbox); have GW426 := kG hg HB; have GE426 := kG hg HB; replace HB := kH HB hb; clear hb hbox hg) | ((with_reducible refine gate_callee (f := 21) rfl ?_); refine goesL_ (some 7) rfl rfl Try.func21 (by kernel_rfl) rfl #[] rfl km ?_; (with_reducible refine (gaiterlaw14_up.calls k  true _ A2.out).mono ?_); rintro e w33 ⟨rfl, hb⟩; refine ⟨_, rfl, ?_⟩; replace BK426 := kB BK426 hb; replace HB := kH HB hb; (try clear hb); (try clear hb2); (try clear hk); (try clear hi); have hcz34_0 : w33.cell? ⟨gb426, 0, none⟩ = some (.int .i64 a0_0) := (blk_cell BK426.out 0).trans rfl; have hcz34_1 : w33.cell? ⟨gb426, 1, none⟩ = some (.slice A0_1 l0_1.length c0_1) := (blk_cell BK426.out 1).trans rfl; have hfz34_0 := blk_frozen BK426.out 0; have hfz34_1 := blk_frozen BK426.out 1) | ((with_reducible refine gate_callee (f := 22) rfl ?_); refine goesL_ (some 15) rfl rfl Try.func22 (by kernel_rfl) rfl #[.agg #[.int .i64 a0_0, .slice A0_1 l0_1.length c0_1]] rfl km ?_; (with_reducible refine (index_Put.calls k a0_0 _ _ l0_1 t428 t431 _ ?side1 ?side2 A7.out).mono ?_); (case side1 => repeat (first | exact (Kd.C_below HR0_1.out HB.out) | (with_reducible refine Kd.C_alloc ?_ _) | (with_reducible refine Kd.C_drewN ?_ _) | (with_reducible refine Kd.C_drew ?_))); (case side2 => exact HC0_1.out); rintro e w35 ⟨v429, rfl, ho0, hb⟩; refine ⟨_, rfl, ?_⟩; have HO430 := Aside0.mk (Kd.R_lower ho0 (below_size (kl HB))); replace BK426 := kB BK426 hb; replace HB := kH HB hb; (try clear hb); (try clear hb2); (try clear hk); (try clear hi); (try clear ho0); (try simp only [errW_none, errW_some])))
     replace HO430 := Aside0.mk (Kd.R_drew HO430.out)
     replace BK426 := Aside0.mk (blk_drew BK426.out)
     replace HB := Aside0.mk (below_drew1 HB.out)
     refine start_ (n := 7) (S := fun w' => w'.cell? ⟨gb426, 0, none⟩ = some (.int .i64 a0_0) ∧ w'.cell? ⟨gb426, 1, none⟩ = some (.slice A0_1 l0_1.length c0_1)) (ds := []) (bl 7 0) (by kernel_rfl) rfl rfl kz (fun hHeld => ?_)
     generalize w35.drew = w36 at HO430 BK426 HB hHeld ⊢
     refine pu 0 (some 18) (bl 7 1) (h := ?_)
     refine pu 2 (some 20) (bl 7 5) (h := ?_)
     refine ta 1 (some 19) (bl 7 7) (h := ?_)
     refine ta 3 (some 21) (bl 7 15) (h := ?_)
     refine one_ (i := 4) (N := some 22) #[true, true, true, true, true, false, false] rfl rfl (by kernel_rfl) (by decide) (fun K hK => ?_)
     refine goes_ Try.func24 (by kernel_rfl) rfl #[.slice A0_1 l0_1.length c0_1] (by rfl) rfl rfl km ?_
     with_reducible refine (gaiterlaw14_list.calls k _ _ l0_1 t432 _ ?side1 ?side2 A8.out).mono ?_
     (case side1 => repeat (first | exact (Kd.C_below HR0_1.out HB.out) | (with_reducible refine Kd.C_alloc ?_ _) | (with_reducible refine Kd.C_drewN ?_ _) | (with_reducible refine Kd.C_drew ?_)))
     (case side2 => exact HC0_1.out)
     rintro e w37 ⟨v433, rfl, ho0, hb⟩
     refine ⟨_, rfl, ?_⟩
     replace HO430 := Aside0.mk (Kd.R_below (kr HO430) hb)
     have HO434 := Aside0.mk (Kd.R_lower ho0 (below_size (kl HB)))
     replace BK426 := kB BK426 hb
     replace HB := kH HB hb
     (try clear hb)
     (try clear hb2)
     (try clear hk)
     (try clear hi)
     (try clear ho0)
     obtain ⟨Ao38, co38, eo38⟩ := Kd.R_slice HO434.out
     (first | subst eo38 | (injection eo38 with f1_ f2_ f3_; have f4_ := f1_.symm; have f5_ := f3_.symm; clear f1_ f2_ f3_; subst f4_; subst f5_))
     refine hK.out _ _ kz (fun hHeld => ?_)
     clear hK K
     refine norm_ (a' := ?_) ?_ ?_
     rotate_left
     ·show Act.put _ (some 22) _ = _
      simp only [Act.put, List.setIfInBounds_toArray, List.set_cons_zero, List.set_cons_succ, i64_w, i32_w]
      rfl
     refine one_ (i := 5) (N := some 23) #[true, true, true, true, true, true, false] rfl rfl (by kernel_rfl) (by decide) (fun K hK => ?_)
     refine goes_ Try.func23 (by kernel_rfl) rfl #[.int .i64 a0_0, .slice Ao38 t432.length co38] (by rfl) rfl rfl km ?_
     with_reducible refine (gaiterref09_MayIndex.calls k a0_0 _ _ t432 false _ ?side1 ?side2 A9.out).mono ?_
     (case side1 => repeat (first | exact (Kd.R_reads' HO434.out).2.2 | (with_reducible refine Kd.C_alloc ?_ _) | (with_reducible refine Kd.C_drewN ?_ _) | (with_reducible refine Kd.C_drew ?_)))
     (case side2 => exact (Kd.R_reads' HO434.out).2.1)
     rintro e w39 ⟨rfl, hb⟩
     refine ⟨_, rfl, ?_⟩
     replace HO430 := Aside0.mk (Kd.R_below (kr HO430) hb)
     replace HO434 := Aside0.mk (Kd.R_below (kr HO434) hb)
     replace BK426 := kB BK426 hb
     replace HB := kH HB hb
     (try clear hb)
     (try clear hb2)
     (try clear hk)
     (try clear hi)
     refine hK.out _ _ kz (fun hHeld => ?_)
     clear hK K
     refine norm_ (a' := ?_) ?_ ?_
     rotate_left
     ·show Act.put _ (some 23) _ = _
      simp only [Act.put, List.setIfInBounds_toArray, List.set_cons_zero, List.set_cons_succ, i64_w, i32_w]
      rfl
     refine pu 6 (some 6) (bl 7 127) (h := ?_)
     refine done_ (by kernel_rfl) ?_
     have CA30 := fun W => gaiterlaw00_Code.calls t431 t443 W A30.out
     try simp only [errW_none, errW_some] at CA30
     try go_wp2_with (first | (go_at_call 18; (with_reducible refine (CA30 _).mono ?_); rintro e w' ⟨rfl, ⟨nd, rfl⟩⟩; obtain ⟨Ao40, co40, eo40⟩ := Kd.R_slice HO430.out; subst eo40))
     go_ret
     exact ⟨by first | rfl | (simp [errW_none, errW_some] <;> rfl) | (simp [*, errW_none, errW_some] <;> rfl), (kl HB)⟩
    ·rw [if_neg c31] at H
     exact absurd H (by simp)
   ·replace c29 := Bool.eq_false_iff.mpr c29
    subst c29
    have H1 : (none) = some r := by rw [if_neg (show ¬ (false = true) by decide)] at H; exact H
    clear H
    have H := H1
    clear H1
    exact absurd H (by simp)

end Go.Proofs.Ytiahbcaoikoogaa.All
