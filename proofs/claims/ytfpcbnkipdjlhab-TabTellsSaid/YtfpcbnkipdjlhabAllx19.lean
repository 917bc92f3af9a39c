-- written by a program of the session out of the translation; Lean checks it
import Derived.Test.YtfpcbnkipdjlhabAllx0
import Derived.Test.YtfpcbnkipdjlhabAllx8
import Derived.Test.YtfpcbnkipdjlhabAllx9
import Derived.Test.YtfpcbnkipdjlhabAllx10
import Derived.Test.YtfpcbnkipdjlhabAllx11
import Derived.Test.YtfpcbnkipdjlhabAllx14
import Derived.Test.YtfpcbnkipdjlhabAllx15
import Derived.Test.YtfpcbnkipdjlhabAllx17
import Derived.Test.YtfpcbnkipdjlhabAllx18
namespace Go.Proofs.Ytfpcbnkipdjlhab.All
open Go.RowKit Go.Proofs.YtfpcbnkipdjlhabW.PrintWords Go.Proofs.YtfpcbnkipdjlhabW.PrintLast Go.Proofs.YtfpcbnkipdjlhabW.PrintMore
attribute [local go_sem] max2_int min2_int max_two min_two max_three min_three max_four min_four   -- for this text's walks alone
set_option linter.unusedVariables false
set_option linter.unusedSimpArgs false

/-! ### gaiterlaw06_TabTells: function 5 -/
mutual
def gaiterlaw06_TabTells.j1 : Nat → List Int → Int → Bool → List (S49) → Int → Int → Option (Bool)
  | 0, _, _, _, _, _, _ => none
  | k + 1, x1, x2, x7, x8, x9, x11 => if 0 ≤ x9 then (if x9 < (x8.length : Int) then (if ((rd_T49 x8 x9).f0) = (mn (wrap64 (x11 + 1)) 4) then ((some (([0, 7, 9, 12, 64] : List Int) : List Int)).bind fun y417 => (if 0 ≤ x11 then (if x11 < (y417.length : Int) then (gaiterlaw06_TabTells.j2 k x1 x2 x7 (((rd_T49 x8 x9).f1) != (rd y417 x11))) else (none)) else (none))) else (gaiterlaw06_TabTells.j2 k x1 x2 x7 true)) else (none)) else (none)
def gaiterlaw06_TabTells.j2 : Nat → List Int → Int → Bool → Bool → Option (Bool)
  | 0, _, _, _, _ => none
  | k + 1, x1, x2, x7, x64 => if x64 = true then (some false) else ((gaiterlaw00_Pick.f x2 (wrap64 ((wrap64 (8 * (x1.length : Int))) + 1))).bind fun t421 => ((fill_New.f x1).bind fun bt422 => ((fill_Reader_Skip.f k bt422.1 bt422.2.1 bt422.2.2 t421).bind fun bt426 => (if bt426.1 = true then ((tab_Get.f k bt426.2.1 bt426.2.2.1 bt426.2.2.2).bind fun bt430 => ((gaiterref01_Flat.f k x1).bind fun t435 => (if 0 ≤ t421 then (if t421 ≤ (t435.length : Int) then ((gaiterref01_GetDod.f k (t435.drop (t421 : Int).toNat)).bind fun bt442 => (if x7 = true then (if bt430.1 = bt442.1 then ((gaiterlaw00_Code.f bt430.2.1).bind fun t445 => (if t445 = bt442.2.2 then (if bt442.2.2 = 0 then ((fill_Reader_Left.f bt430.2.2.1 bt430.2.2.2.1 bt430.2.2.2.2).bind fun bt446 => (some (bt446.1 == (wrap64 ((wrap64 ((wrap64 (8 * (x1.length : Int))) - t421)) - bt442.2.1))))) else (some true)) else (some false))) else (some false)) else (some false))) else (none)) else (none)))) else (some false)))))
def gaiterlaw06_TabTells.l0 : Nat → List Int → Int → Bool → List (S49) → Int → List Int → Int → Option (Bool)
  | 0, _, _, _, _, _, _, _ => none
  | k + 1, x1, x2, x7, x8, x9, x10, x11 => if x11 < 4 then (if 0 ≤ x11 then (if x11 < (x10.length : Int) then (if (rd x10 x11) = 1 then (gaiterlaw06_TabTells.l0 k x1 x2 x7 x8 x9 x10 (wrap64 (x11 + 1))) else (gaiterlaw06_TabTells.j1 k x1 x2 x7 x8 x9 x11)) else (none)) else (none)) else (gaiterlaw06_TabTells.j1 k x1 x2 x7 x8 x9 x11)
end
def gaiterlaw06_TabTells.f (k : Nat) (a0 : Int) (l1 : List Int) (a2 : Int) : Option (Bool) := (gaiterlaw06_up.f k).bind fun t406 => (if (l1.length : Int) > 500 then (some t406) else ((tab_Table.f k).bind fun t407 => (if (t407.length : Int) = 256 then ((gaiterlaw00_Pick.f a0 256).bind fun t410 => ((gaiterref01_Low.f k (IntKind.u64.wrap (t410)) 8).bind fun t411 => (gaiterlaw06_TabTells.l0 k l1 a2 t406 t407 t410 t411 0))) else (some false))))
theorem gaiterlaw06_TabTells.mono_l : ∀ k, (∀ y0 y1 y2 y3 y4 y5, LeO (gaiterlaw06_TabTells.j1 k y0 y1 y2 y3 y4 y5) (gaiterlaw06_TabTells.j1 (k + 1) y0 y1 y2 y3 y4 y5)) ∧ (∀ y0 y1 y2 y3, LeO (gaiterlaw06_TabTells.j2 k y0 y1 y2 y3) (gaiterlaw06_TabTells.j2 (k + 1) y0 y1 y2 y3)) ∧ (∀ y0 y1 y2 y3 y4 y5 y6, LeO (gaiterlaw06_TabTells.l0 k y0 y1 y2 y3 y4 y5 y6) (gaiterlaw06_TabTells.l0 (k + 1) y0 y1 y2 y3 y4 y5 y6))
  | 0 => ⟨fun _ _ _ _ _ _ r h => by simp [gaiterlaw06_TabTells.j1] at h, fun _ _ _ _ r h => by simp [gaiterlaw06_TabTells.j2] at h, fun _ _ _ _ _ _ _ r h => by simp [gaiterlaw06_TabTells.l0] at h⟩
  | k + 1 => by
    obtain ⟨ih0, ih1, ih2⟩ := gaiterlaw06_TabTells.mono_l k
    refine ⟨?_, ?_, ?_⟩
    · intro y0 y1 y2 y3 y4 y5
      unfold gaiterlaw06_TabTells.j1
      repeat' first
      | (with_reducible exact ih0 _ _ _ _ _ _)
      | (with_reducible exact ih1 _ _ _ _)
      | (with_reducible exact ih2 _ _ _ _ _ _ _)
      | (with_reducible exact fill_Reader_Skip.mono _ _ _ _ _)
      | (with_reducible exact gaiterlaw06_up.mono _)
      | (with_reducible exact gaiterref01_Flat.mono _ _)
      | (with_reducible exact gaiterref01_GetDod.mono _ _)
      | (with_reducible exact gaiterref01_Low.mono _ _ _)
      | (with_reducible exact tab_Get.mono _ _ _ _)
      | (with_reducible exact tab_Table.mono _)
      | (with_reducible exact LeO.refl _)
      | (with_reducible exact LeO.none _)
      | (with_reducible refine LeO.ite ?_ ?_)
      | (with_reducible refine LeO.bind ?_ (fun _ => ?_))
      | exact ih0 _ _ _ _ _ _
      | exact ih1 _ _ _ _
      | exact ih2 _ _ _ _ _ _ _
      | exact fill_Reader_Skip.mono _ _ _ _ _
      | exact gaiterlaw06_up.mono _
      | exact gaiterref01_Flat.mono _ _
      | exact gaiterref01_GetDod.mono _ _
      | exact gaiterref01_Low.mono _ _ _
      | exact tab_Get.mono _ _ _ _
      | exact tab_Table.mono _
      | exact LeO.none _
      | refine LeO.ite ?_ ?_
      | refine LeO.bind ?_ (fun _ => ?_)
    · intro y0 y1 y2 y3
      unfold gaiterlaw06_TabTells.j2
      repeat' first
      | (with_reducible exact ih0 _ _ _ _ _ _)
      | (with_reducible exact ih1 _ _ _ _)
      | (with_reducible exact ih2 _ _ _ _ _ _ _)
      | (with_reducible exact fill_Reader_Skip.mono _ _ _ _ _)
      | (with_reducible exact gaiterlaw06_up.mono _)
      | (with_reducible exact gaiterref01_Flat.mono _ _)
      | (with_reducible exact gaiterref01_GetDod.mono _ _)
      | (with_reducible exact gaiterref01_Low.mono _ _ _)
      | (with_reducible exact tab_Get.mono _ _ _ _)
      | (with_reducible exact tab_Table.mono _)
      | (with_reducible exact LeO.refl _)
      | (with_reducible exact LeO.none _)
      | (with_reducible refine LeO.ite ?_ ?_)
      | (with_reducible refine LeO.bind ?_ (fun _ => ?_))
      | exact ih0 _ _ _ _ _ _
      | exact ih1 _ _ _ _
      | exact ih2 _ _ _ _ _ _ _
      | exact fill_Reader_Skip.mono _ _ _ _ _
      | exact gaiterlaw06_up.mono _
      | exact gaiterref01_Flat.mono _ _
      | exact gaiterref01_GetDod.mono _ _
      | exact gaiterref01_Low.mono _ _ _
      | exact tab_Get.mono _ _ _ _
      | exact tab_Table.mono _
      | exact LeO.none _
      | refine LeO.ite ?_ ?_
      | refine LeO.bind ?_ (fun _ => ?_)
    · intro y0 y1 y2 y3 y4 y5 y6
      unfold gaiterlaw06_TabTells.l0
      repeat' first
      | (with_reducible exact ih0 _ _ _ _ _ _)
      | (with_reducible exact ih1 _ _ _ _)
      | (with_reducible exact ih2 _ _ _ _ _ _ _)
      | (with_reducible exact fill_Reader_Skip.mono _ _ _ _ _)
      | (with_reducible exact gaiterlaw06_up.mono _)
      | (with_reducible exact gaiterref01_Flat.mono _ _)
      | (with_reducible exact gaiterref01_GetDod.mono _ _)
      | (with_reducible exact gaiterref01_Low.mono _ _ _)
      | (with_reducible exact tab_Get.mono _ _ _ _)
      | (with_reducible exact tab_Table.mono _)
      | (with_reducible exact LeO.refl _)
      | (with_reducible exact LeO.none _)
      | (with_reducible refine LeO.ite ?_ ?_)
      | (with_reducible refine LeO.bind ?_ (fun _ => ?_))
      | exact ih0 _ _ _ _ _ _
      | exact ih1 _ _ _ _
      | exact ih2 _ _ _ _ _ _ _
      | exact fill_Reader_Skip.mono _ _ _ _ _
      | exact gaiterlaw06_up.mono _
      | exact gaiterref01_Flat.mono _ _
      | exact gaiterref01_GetDod.mono _ _
      | exact gaiterref01_Low.mono _ _ _
      | exact tab_Get.mono _ _ _ _
      | exact tab_Table.mono _
      | exact LeO.none _
      | refine LeO.ite ?_ ?_
      | refine LeO.bind ?_ (fun _ => ?_)
theorem gaiterlaw06_TabTells.mono : ∀ a0 a1 a2 k, LeO (gaiterlaw06_TabTells.f k a0 a1 a2) (gaiterlaw06_TabTells.f (k + 1) a0 a1 a2) := by
  intro a0 a1 a2 k
  obtain ⟨ih0, ih1, ih2⟩ := gaiterlaw06_TabTells.mono_l k
  unfold gaiterlaw06_TabTells.f
  repeat' first
      | (with_reducible exact ih0 _ _ _ _ _ _)
      | (with_reducible exact ih1 _ _ _ _)
      | (with_reducible exact ih2 _ _ _ _ _ _ _)
      | (with_reducible exact fill_Reader_Skip.mono _ _ _ _ _)
      | (with_reducible exact gaiterlaw06_up.mono _)
      | (with_reducible exact gaiterref01_Flat.mono _ _)
      | (with_reducible exact gaiterref01_GetDod.mono _ _)
      | (with_reducible exact gaiterref01_Low.mono _ _ _)
      | (with_reducible exact tab_Get.mono _ _ _ _)
      | (with_reducible exact tab_Table.mono _)
      | (with_reducible exact LeO.refl _)
      | (with_reducible exact LeO.none _)
      | (with_reducible refine LeO.ite ?_ ?_)
      | (with_reducible refine LeO.bind ?_ (fun _ => ?_))
      | exact ih0 _ _ _ _ _ _
      | exact ih1 _ _ _ _
      | exact ih2 _ _ _ _ _ _ _
      | exact fill_Reader_Skip.mono _ _ _ _ _
      | exact gaiterlaw06_up.mono _
      | exact gaiterref01_Flat.mono _ _
      | exact gaiterref01_GetDod.mono _ _
      | exact gaiterref01_Low.mono _ _ _
      | exact tab_Get.mono _ _ _ _
      | exact tab_Table.mono _
      | exact LeO.none _
      | refine LeO.ite ?_ ?_
      | refine LeO.bind ?_ (fun _ => ?_)
def gaiterlaw06_TabTells.T12 : Bool × List (List Nat × List Nat) := (true, [([], []), ([], []), ([0, 1], [0, 1]), ([2], [2]), ([3], [3]), ([], []), ([5], [5]), ([6], [6]), ([4, 7], [4, 7]), ([8], [8]), ([9], [9]), ([9], [9]), ([10, 11, 9], [9, 10, 11]), ([12, 9], [9, 12]), ([13, 9], [9, 13]), ([9], [9]), ([9], [9]), ([15, 16, 9], [9, 15, 16]), ([17, 9], [9, 17]), ([14, 18, 9], [9, 14, 18]), ([9, 19], [9, 19])])
def gaiterlaw06_TabTells.B12 : List Nat := [0, 0, 3, 7, 15, 0, 32, 96, 255, 511, 1023, 1023, 4095, 8191, 16383, 1023, 1023, 99327, 230399, 524287, 1048575]
theorem gaiterlaw06_TabTells.tab12 : rtab .any (opsOf Try.f5 12) = gaiterlaw06_TabTells.T12 := by kernel_rfl
theorem gaiterlaw06_TabTells.bits12 : waitsOk gaiterlaw06_TabTells.T12.2 gaiterlaw06_TabTells.B12 = true := by kernel_rfl
set_option maxHeartbeats 8000000 in
set_option maxRecDepth 100000 in
theorem gaiterlaw06_TabTells.calls (k : Nat) (a0 : Int) (A1 : Option Addr) (c1 : Nat) (l1 : List Int) (a2 : Int) (r : Bool) (w : World) (hr1 : Kd.C (Kd.int .u8) w A1 l1.length l1) (hc1 : l1.length ≤ c1) (h : gaiterlaw06_TabTells.f k a0 l1 a2 = some r) :
    Calls Try.prog 5 #[.int .i64 a0, .slice A1 l1.length c1, .int .i64 a2] w fun e w' => e = .returned (.bool r) ∧ Below w.heap.size w w' := by
  have HR1 := Aside0.mk hr1
  have HC1 := Aside0.mk hc1
  clear hr1 hc1
  have HB := Aside0.mk (Below.refl w.heap.size w)
  have H : ((gaiterlaw06_up.f k).bind fun t406 => (if (l1.length : Int) > 500 then (some t406) else ((tab_Table.f k).bind fun t407 => (if (t407.length : Int) = 256 then ((gaiterlaw00_Pick.f a0 256).bind fun t410 => ((gaiterref01_Low.f k (IntKind.u64.wrap (t410)) 8).bind fun t411 => (gaiterlaw06_TabTells.l0 k l1 a2 t406 t407 t410 t411 0))) else (some false))))) = some r := h
  clear h
  replace H := Option.bind_eq_some_iff.mp H
  obtain ⟨t406, A40, H⟩ := H
  replace H : (if (l1.length : Int) > 500 then (some t406) else ((tab_Table.f k).bind fun t407 => (if (t407.length : Int) = 256 then ((gaiterlaw00_Pick.f a0 256).bind fun t410 => ((gaiterref01_Low.f k (IntKind.u64.wrap (t410)) 8).bind fun t411 => (gaiterlaw06_TabTells.l0 k l1 a2 t406 t407 t410 t411 0))) else (some false)))) = some r := H
  have A4 := Aside0.mk A40
  clear A40
  by_cases c5 : (l1.length : Int) > 500
  · rw [if_pos c5] at H
    have c5b0 : decide (500 < (l1.length : Int)) = true := decide_eq_true c5
    have c5b1 : decide (500 < l1.length) = true := decide_eq_true (by omega)
    clear c5
    obtain rfl := Option.some.inj H
    go_enter Try.func5, Try.ntmps5
    go_wp2_with (first | ((with_reducible refine gate_callee (f := 23) rfl ?_); refine goesL_ (some 19) rfl rfl Try.func23 (by kernel_rfl) rfl #[] rfl (by (try simp only [List.map_toArray, List.map_cons, List.map_nil]); first | done | rfl | (simp only [List.length_drop, List.length_take]; rfl)) ?_; (with_reducible refine (gaiterlaw06_up.calls k  t406 _ A4.out).mono ?_); rintro e w6 ⟨rfl, hb⟩; refine ⟨_, rfl, ?_⟩; have n0_ := Aside0.mk (below_step (by repeat (first | (with_reducible first | exact HB.out | apply below_alloc | apply pw_below_drewN | apply below_drew1) | exact HB.out)) hb); clear HB; have HB := n0_; clear n0_; (try clear hb); (try clear hb2); (try clear hk); (try clear hi)))
    go_ret
    exact ⟨by first | rfl | (simp [errW_none, errW_some] <;> rfl) | (simp [*, errW_none, errW_some] <;> rfl), by repeat (first | (with_reducible first | exact HB.out | apply below_alloc | apply pw_below_drewN | apply below_drew1) | exact HB.out)⟩
  · rw [if_neg c5] at H
    have c5b0 : decide (500 < (l1.length : Int)) = false := decide_eq_false c5
    have c5b1 : decide (500 < l1.length) = false := decide_eq_false (by omega)
    clear c5
    replace H := Option.bind_eq_some_iff.mp H
    obtain ⟨t407, A70, H⟩ := H
    replace H : (if (t407.length : Int) = 256 then ((gaiterlaw00_Pick.f a0 256).bind fun t410 => ((gaiterref01_Low.f k (IntKind.u64.wrap (t410)) 8).bind fun t411 => (gaiterlaw06_TabTells.l0 k l1 a2 t406 t407 t410 t411 0))) else (some false)) = some r := H
    have A7 := Aside0.mk A70
    clear A70
    by_cases c8 : (t407.length : Int) = 256
    · rw [if_pos c8] at H
      have c8b0 : ((t407.length : Int) == 256) = true := beq_iff_eq.mpr c8
      have c8b1 : ((t407.length : Int) != 256) = false := bne_eq_false_iff_eq.mpr c8
      clear c8
      replace H := Option.bind_eq_some_iff.mp H
      obtain ⟨t410, A90, H⟩ := H
      replace H : ((gaiterref01_Low.f k (IntKind.u64.wrap (t410)) 8).bind fun t411 => (gaiterlaw06_TabTells.l0 k l1 a2 t406 t407 t410 t411 0)) = some r := H
      have A9 := Aside0.mk A90
      clear A90
      replace H := Option.bind_eq_some_iff.mp H
      obtain ⟨t411, A100, H⟩ := H
      replace H : (gaiterlaw06_TabTells.l0 k l1 a2 t406 t407 t410 t411 0) = some r := H
      have A10 := Aside0.mk A100
      clear A100
      have HC11 := Aside0.mk H
      clear H
      go_enter Try.func5, Try.ntmps5
      go_upto_block 0 with (first | ((with_reducible refine gate_callee (f := 23) rfl ?_); refine goesL_ (some 19) rfl rfl Try.func23 (by kernel_rfl) rfl #[] rfl (by (try simp only [List.map_toArray, List.map_cons, List.map_nil]); first | done | rfl | (simp only [List.length_drop, List.length_take]; rfl)) ?_; (with_reducible refine (gaiterlaw06_up.calls k  t406 _ A4.out).mono ?_); rintro e w12 ⟨rfl, hb⟩; refine ⟨_, rfl, ?_⟩; have n0_ := Aside0.mk (below_step (by repeat (first | (with_reducible first | exact HB.out | apply below_alloc | apply pw_below_drewN | apply below_drew1) | exact HB.out)) hb); clear HB; have HB := n0_; clear n0_; (try clear hb); (try clear hb2); (try clear hk); (try clear hi)) | ((with_reducible refine gate_callee (f := 24) rfl ?_); refine goesL_ (some 24) rfl rfl Try.func24 (by kernel_rfl) rfl #[] rfl (by (try simp only [List.map_toArray, List.map_cons, List.map_nil]); first | done | rfl | (simp only [List.length_drop, List.length_take]; rfl)) ?_; (with_reducible refine (tab_Table.calls k  t407 _ A7.out).mono ?_); rintro e w13 ⟨v408, rfl, ho0, hb⟩; refine ⟨_, rfl, ?_⟩; have n0_ := Aside0.mk (Kd.R_lower ho0 (below_size (by repeat (first | (with_reducible first | exact HB.out | apply below_alloc | apply pw_below_drewN | apply below_drew1) | exact HB.out)))); have n1_ := Aside0.mk (below_step (by repeat (first | (with_reducible first | exact HB.out | apply below_alloc | apply pw_below_drewN | apply below_drew1) | exact HB.out)) hb); clear HB; have HO409 := n0_; have HB := n1_; clear n0_ n1_; (try clear hb); (try clear hb2); (try clear hk); (try clear hi); (try clear ho0); obtain ⟨Ao14, co14, eo14⟩ := Kd.R_slice HO409.out; subst eo14) | ((with_reducible refine gate_callee (f := 20) rfl ?_); refine goesL_ (some 29) rfl rfl Try.func20 (by kernel_rfl) rfl #[.int .i64 a0, .int .i64 256] rfl (by (try simp only [List.map_toArray, List.map_cons, List.map_nil]); first | done | rfl | (simp only [List.length_drop, List.length_take]; rfl)) ?_; (with_reducible refine (gaiterlaw00_Pick.calls a0 256 t410 _ A9.out).mono ?_); rintro e w' ⟨rfl, ⟨nd, rfl⟩⟩; refine ⟨_, rfl, ?_⟩) | ((with_reducible refine gate_callee (f := 25) rfl ?_); refine goesL_ (some 32) rfl rfl Try.func25 (by kernel_rfl) rfl #[.int .u64 (IntKind.u64.wrap (t410)), .int .i64 8] rfl (by (try simp only [List.map_toArray, List.map_cons, List.map_nil]); first | done | rfl | (simp only [List.length_drop, List.length_take]; rfl)) ?_; (with_reducible refine (gaiterref01_Low.calls k (IntKind.u64.wrap (t410)) 8 t411 _ A10.out).mono ?_); rintro e w15 ⟨v412, rfl, ho0, hb⟩; refine ⟨_, rfl, ?_⟩; have n0_ := Aside0.mk (Kd.R_below (by (with_reducible repeat (first | apply Kd.R_alloc | apply Kd.R_drewN | apply Kd.R_drew)); exact HO409.out) hb); have n1_ := Aside0.mk (Kd.R_lower ho0 (below_size (by repeat (first | (with_reducible first | exact HB.out | apply below_alloc | apply pw_below_drewN | apply below_drew1) | exact HB.out)))); have n2_ := Aside0.mk (below_step (by repeat (first | (with_reducible first | exact HB.out | apply below_alloc | apply pw_below_drewN | apply below_drew1) | exact HB.out)) hb); clear HO409; clear HB; have HO409 := n0_; have HO413 := n1_; have HB := n2_; clear n0_ n1_ n2_; (try clear hb); (try clear hb2); (try clear hk); (try clear hi); (try clear ho0)))
      (try simp only [Act.put, List.setIfInBounds_toArray, List.set_cons_zero, List.set_cons_succ])
      go_cut [11] (fun v11 wc => ∃ (kq : Nat) (x11_10 : Int), v11 = .int .i64 x11_10 ∧ Aside0 (gaiterlaw06_TabTells.j1 kq l1 a2 t406 t407 t410 x11_10 = some r) ∧ Aside0 (kq ≤ k) ∧ Aside0 (Kd.R k49 49 wc w.heap.size (fun _ => True) (.slice Ao14 t407.length co14) t407) ∧ Aside0 (Below w.heap.size w wc))
      case first =>
        have H := HC11.out
        clear HC11
        have H' := Aside0.mk H
        clear H
        go_wp2
        go_loopg [11] k (fun kq v11 w' => ∃ (x11_1 : Int), v11 = .int .i64 x11_1 ∧ Aside0 (gaiterlaw06_TabTells.l0 kq l1 a2 t406 t407 t410 t411 x11_1 = some r) ∧ Aside0 (kq ≤ k) ∧ Aside0 (Kd.R k49 49 w' w.heap.size (fun _ => True) (.slice Ao14 t407.length co14) t407) ∧ Aside0 (Kd.R (Kd.int .u8) 5 w' w.heap.size (fun _ => True) v412 t411) ∧ Aside0 (Below w.heap.size w w'))
        case atStart => exact ⟨(0), (by first | rfl | (simp; done) | (simp [*]; done)), H', ⟨Nat.le_refl _⟩, ⟨by (with_reducible repeat (first | apply Kd.R_alloc | apply Kd.R_drewN | apply Kd.R_drew)); exact HO409.out⟩, ⟨by (with_reducible repeat (first | apply Kd.R_alloc | apply Kd.R_drewN | apply Kd.R_drew)); exact HO413.out⟩, ⟨by repeat (first | (with_reducible first | exact HB.out | apply below_alloc | apply pw_below_drewN | apply below_drew1) | exact HB.out)⟩⟩
        case round =>
          clear H'
          try clear c1
          try clear c2
          try clear p2
          try clear c5
          try clear c5b0
          try clear c5b1
          try clear c8
          try clear c8b0
          try clear c8b1
          obtain ⟨x11_1, rfl, HA, HK1, HO_8, HO_10, HB⟩ := hrel
          cases gk with
          | zero => exact absurd HA.out (by simp [gaiterlaw06_TabTells.l0])
          | succ k1 =>
            have H := HA.out
            clear HA
            simp only [gaiterlaw06_TabTells.l0] at H
            by_cases c16 : x11_1 < 4
            · rw [if_pos c16] at H
              have c16b0 : decide (x11_1 < 4) = true := decide_eq_true c16
              clear c16
              (first | rw [c16b0] | (simp only [i64_w, i32_w]; rw [c16b0]) | skip)
              by_cases c17 : 0 ≤ x11_1
              · rw [if_pos c17] at H
                have c17b0 : decide (0 ≤ x11_1) = true := decide_eq_true c17
                clear c17
                by_cases c18 : x11_1 < (t411.length : Int)
                · rw [if_pos c18] at H
                  have c18b0 : decide (x11_1 < (t411.length : Int)) = true := decide_eq_true c18
                  clear c18
                  by_cases c19 : (rd t411 x11_1) = 1
                  · rw [if_pos c19] at H
                    have c19b0 : ((rd t411 x11_1) == 1) = true := beq_iff_eq.mpr c19
                    have c19b1 : ((rd t411 x11_1) != 1) = false := bne_eq_false_iff_eq.mpr c19
                    clear c19
                    have H' := Aside0.mk H
                    clear H
                    obtain ⟨Ao20, co20, eo20⟩ := Kd.R_slice HO_10.out
                    subst eo20
                    have p414 : 0 ≤ (x11_1 : Int) := of_decide_eq_true (by first | (with_reducible assumption) | assumption)
                    have q414 : x11_1 < (t411.length : Int) := of_decide_eq_true (by first | (with_reducible assumption) | assumption)
                    obtain ⟨ad414, e414, hx414_0⟩ := Kd.at_int (Kd.R_reads' HO_10.out).2.2 x11_1 p414 q414
                    cases e414
                    replace p414 := eq_true p414
                    (try (have q414s := q414; simp only [List.length_drop, List.length_take] at q414s; replace q414s := eq_true q414s)); replace q414 := eq_true q414
                    go_wp2
                    go_roundg k1
                    case measure => have := HK1.out; omega
                    case rel => exact ⟨(wrap64 (x11_1 + 1)), (by first | rfl | (simp; done) | (simp [*]; done)), H', ⟨by have := HK1.out; omega⟩, ⟨by (with_reducible repeat (first | apply Kd.R_alloc | apply Kd.R_drewN | apply Kd.R_drew)); exact HO_8.out⟩, ⟨by (with_reducible repeat (first | apply Kd.R_alloc | apply Kd.R_drewN | apply Kd.R_drew)); exact HO_10.out⟩, ⟨by repeat (first | (with_reducible first | exact HB.out | apply below_alloc | apply pw_below_drewN | apply below_drew1) | exact HB.out)⟩⟩
                  · rw [if_neg c19] at H
                    have c19b0 : ((rd t411 x11_1) == 1) = false := beq_eq_false_iff_ne.mpr c19
                    have c19b1 : ((rd t411 x11_1) != 1) = true := bne_iff_ne.mpr c19
                    have H' := Aside0.mk H
                    clear H
                    obtain ⟨Ao21, co21, eo21⟩ := Kd.R_slice HO_10.out
                    subst eo21
                    have p414 : 0 ≤ (x11_1 : Int) := of_decide_eq_true (by first | (with_reducible assumption) | assumption)
                    have q414 : x11_1 < (t411.length : Int) := of_decide_eq_true (by first | (with_reducible assumption) | assumption)
                    obtain ⟨ad414, e414, hx414_0⟩ := Kd.at_int (Kd.R_reads' HO_10.out).2.2 x11_1 p414 q414
                    cases e414
                    replace p414 := eq_true p414
                    (try (have q414s := q414; simp only [List.length_drop, List.length_take] at q414s; replace q414s := eq_true q414s)); replace q414 := eq_true q414
                    go_wp2
                    go_meet
                    case rel => exact ⟨_, (x11_1), (by first | rfl | (simp; done) | (simp [*]; done)), H', ⟨by have := HK1.out; first | omega | exact Nat.le_refl _⟩, ⟨by (with_reducible repeat (first | apply Kd.R_alloc | apply Kd.R_drewN | apply Kd.R_drew)); exact HO_8.out⟩, ⟨by repeat (first | (with_reducible first | exact HB.out | apply below_alloc | apply pw_below_drewN | apply below_drew1) | exact HB.out)⟩⟩
                · rw [if_neg c18] at H
                  exact absurd H (by simp)
              · rw [if_neg c17] at H
                exact absurd H (by simp)
            · rw [if_neg c16] at H
              have c16b0 : decide (x11_1 < 4) = false := decide_eq_false c16
              clear c16
              (first | rw [c16b0] | (simp only [i64_w, i32_w]; rw [c16b0]) | skip)
              have H' := Aside0.mk H
              clear H
              go_wp2
              go_meet
              case rel => exact ⟨_, (x11_1), (by first | rfl | (simp; done) | (simp [*]; done)), H', ⟨by have := HK1.out; first | omega | exact Nat.le_refl _⟩, ⟨by (with_reducible repeat (first | apply Kd.R_alloc | apply Kd.R_drewN | apply Kd.R_drew)); exact HO_8.out⟩, ⟨by repeat (first | (with_reducible first | exact HB.out | apply below_alloc | apply pw_below_drewN | apply below_drew1) | exact HB.out)⟩⟩
      case rest =>
        clear HC11
        try clear c1
        try clear c2
        try clear p2
        try clear p4
        try clear q4
        try clear hx4
        try clear c5
        try clear c5b0
        try clear c5b1
        try clear p6
        try clear c8
        try clear c8b0
        try clear c8b1
        try clear c16
        try clear c16b0
        try clear c17
        try clear c17b0
        try clear c18
        try clear c18b0
        try clear c19
        try clear c19b0
        try clear c19b1
        try clear c20
        try clear hx414_0
        try clear p2
        try clear p414
        try clear q414
        obtain ⟨kq, x11_10, rfl, HA, HJ10, HO_8, HB⟩ := hcut
        cases kq with
        | zero => exact absurd HA.out (by simp [gaiterlaw06_TabTells.j1])
        | succ kj10 =>
          have H := HA.out
          clear HA
          simp only [gaiterlaw06_TabTells.j1] at H
          have HC22 := Aside0.mk H
          clear H
          go_upto_region 12 with (fail)
          go_cut [64] (fun v64 wc => ∃ (kq : Nat) (x64_21 : Bool), v64 = .bool x64_21 ∧ Aside0 (gaiterlaw06_TabTells.j2 kq l1 a2 t406 x64_21 = some r) ∧ Aside0 (kq ≤ kj10) ∧ Aside0 (Below w.heap.size w wc))
          case first =>
            have H := HC22.out
            clear HC22
            by_cases c23 : 0 ≤ t410
            · rw [if_pos c23] at H
              have c23b0 : decide (0 ≤ t410) = true := decide_eq_true c23
              clear c23
              (first | rw [c23b0] | (simp only [i64_w, i32_w]; rw [c23b0]) | skip)
              by_cases c24 : t410 < (t407.length : Int)
              · rw [if_pos c24] at H
                have c24b0 : decide (t410 < (t407.length : Int)) = true := decide_eq_true c24
                clear c24
                obtain ⟨ji25, hji25⟩ : ∃ j_ : Int, (mn (wrap64 (x11_10 + 1)) 4) = j_ := ⟨_, rfl⟩
                replace H : (if ((rd_T49 t407 t410).f0) = (ji25) then ((some (([0, 7, 9, 12, 64] : List Int) : List Int)).bind fun y417 => (if 0 ≤ x11_10 then (if x11_10 < (y417.length : Int) then (gaiterlaw06_TabTells.j2 kj10 l1 a2 t406 (((rd_T49 t407 t410).f1) != (rd y417 x11_10))) else (none)) else (none))) else (gaiterlaw06_TabTells.j2 kj10 l1 a2 t406 true)) = some r := by first | (rw [hji25] at H; exact H) | (simp only [hji25] at H ⊢; exact H)
                have hji25_ : (if 4 < (wrap64 (x11_10 + 1)) then 4 else (wrap64 (x11_10 + 1))) = ji25 := hji25
                (try (have hji25n := hji25_; simp only [Int.ofNat_lt] at hji25n))
                by_cases c26 : ((rd_T49 t407 t410).f0) = (ji25)
                · rw [if_pos c26] at H
                  have c26b0 : (((rd_T49 t407 t410).f0) == (ji25)) = true := beq_iff_eq.mpr c26
                  have c26b1 : (((rd_T49 t407 t410).f0) != (ji25)) = false := bne_eq_false_iff_eq.mpr c26
                  clear c26
                  obtain ⟨y417, hy417⟩ : ∃ y_ : List Int, y_ = (([0, 7, 9, 12, 64] : List Int)) := ⟨_, rfl⟩
                  replace H : (if 0 ≤ x11_10 then (if x11_10 < (y417.length : Int) then (gaiterlaw06_TabTells.j2 kj10 l1 a2 t406 (((rd_T49 t407 t410).f1) != (rd y417 x11_10))) else (none)) else (none)) = some r := by first | (rw [hy417]; with_reducible exact H) | (have H2_ := (Option.bind_some _ _).symm.trans H; rw [hy417]; with_reducible exact H2_) | (have H2_ := (Option.bind_some _ _).symm.trans H; with_reducible exact H2_) | with_reducible exact H | (rw [hy417]; exact H) | exact H
                  have Ny417 := Aside0.mk hy417
                  clear hy417
                  by_cases c27 : 0 ≤ x11_10
                  · rw [if_pos c27] at H
                    have c27b0 : decide (0 ≤ x11_10) = true := decide_eq_true c27
                    clear c27
                    by_cases c28 : x11_10 < (y417.length : Int)
                    · rw [if_pos c28] at H
                      have c28b0 : decide (x11_10 < (y417.length : Int)) = true := decide_eq_true c28
                      clear c28
                      have H' := Aside0.mk H
                      clear H
                      try go_wp2
                      have pi420 : (0 ≤ (x11_10 : Int)) = True := eq_true (of_decide_eq_true (by first | (with_reducible assumption) | assumption))
                      have qi420 : (x11_10 < (y417.length : Int)) = True := eq_true (of_decide_eq_true (by first | (with_reducible assumption) | assumption))
                      have n0_ := Aside0.mk (Kd.R_drew HO_8.out)
                      have n1_ := Aside0.mk (below_drew1 HB.out)
                      clear HO_8
                      clear HB
                      have HO_8 := n0_
                      have HB := n1_
                      clear n0_ n1_
                      have p415 : 0 ≤ (t410 : Int) := of_decide_eq_true (by first | (with_reducible assumption) | assumption)
                      have q415 : t410 < (t407.length : Int) := of_decide_eq_true (by first | (with_reducible assumption) | assumption)
                      obtain ⟨ad415, e415, hx415_0, hx415_1⟩ := at_T49 (Kd.R_reads' HO_8.out).2.2 t410 p415 q415
                      cases e415
                      replace p415 := eq_true p415
                      (try (have q415s := q415; simp only [List.length_drop, List.length_take] at q415s; replace q415s := eq_true q415s)); replace q415 := eq_true q415
                      have p416 : 0 ≤ (t410 : Int) := of_decide_eq_true (by first | (with_reducible assumption) | assumption)
                      have q416 : t410 < (t407.length : Int) := of_decide_eq_true (by first | (with_reducible assumption) | assumption)
                      obtain ⟨ad416, e416, hx416_0, hx416_1⟩ := at_T49 (Kd.R_reads' HO_8.out).2.2 t410 p416 q416
                      obtain rfl : ad415 = ad416 := (by injection e416)
                      replace p416 := eq_true p416
                      (try (have q416s := q416; simp only [List.length_drop, List.length_take] at q416s; replace q416s := eq_true q416s)); replace q416 := eq_true q416
                      refine start_ (n := 21) (S := fun w' => w'.cell? (ad415.add ((t410).toNat * 2)) = some (.int .i64 ((rd_T49 t407 t410).f0)) ∧ w'.cell? ⟨(ad415.add ((t410).toNat * 2)).block, (ad415.add ((t410).toNat * 2)).off + 1, none⟩ = some (.int .i64 ((rd_T49 t407 t410).f1)) ∧ w'.cell? (ad415.add ((t410).toNat * 2)) = some (.int .i64 ((rd_T49 t407 t410).f0)) ∧ w'.cell? ⟨(ad415.add ((t410).toNat * 2)).block, (ad415.add ((t410).toNat * 2)).off + 1, none⟩ = some (.int .i64 ((rd_T49 t407 t410).f1))) (ds := []) #[false, false, false, false, false, false, false, false, false, false, false, false, false, false, false, false, false, false, false, false, false] (by kernel_rfl) rfl rfl ⟨hx415_0, hx415_1, hx416_0, hx416_1⟩ (fun hHeld => ?_); refine with_tabW gaiterlaw06_TabTells.tab12 gaiterlaw06_TabTells.bits12 (fun HT_ HW_ => ?_)
                      generalize wc.drew = w29 at HO_8 HB hx415_0 hx415_1 hx416_0 hx416_1 hHeld ⊢
                      refine pure_ (i := 0) (N := some 44) (v := ?_) (a' := ?_) #[true, false, false, false, false, false, false, false, false, false, false, false, false, false, false, false, false, false, false, false, false] rfl rfl (any_of HT_.out (by kernel_rfl)) (fun _ _ _ h => h) (Or.inl ⟨by rfl, ?_⟩) ?_ ?_
                      rotate_left
                      · intro w'
                        go_simp
                        with_reducible rfl
                      rotate_left
                      · simp only [Act.put, List.setIfInBounds_toArray, List.set_cons_zero, List.set_cons_succ, i64_w, i32_w]
                        rfl
                      refine pure_ (i := 1) (N := some 45) (v := ?_) (a' := ?_) #[true, true, false, false, false, false, false, false, false, false, false, false, false, false, false, false, false, false, false, false, false] rfl rfl (any_of HT_.out (by kernel_rfl)) (fun _ _ _ h => h) (Or.inl ⟨by rfl, ?_⟩) ?_ ?_
                      rotate_left
                      · intro w'
                        go_simp
                        with_reducible rfl
                      rotate_left
                      · simp only [Act.put, List.setIfInBounds_toArray, List.set_cons_zero, List.set_cons_succ, i64_w, i32_w]
                        rfl
                      refine pure_ (i := 2) (N := some 46) (v := ?_) (a' := ?_) #[true, true, true, false, false, false, false, false, false, false, false, false, false, false, false, false, false, false, false, false, false] rfl rfl (any_of HT_.out (by kernel_rfl)) (fun _ _ _ h => h) (Or.inl ⟨by rfl, ?_⟩) ?_ ?_
                      rotate_left
                      · intro w'
                        go_simp
                        with_reducible rfl
                      rotate_left
                      · simp only [Act.put, List.setIfInBounds_toArray, List.set_cons_zero, List.set_cons_succ, i64_w, i32_w]
                        rfl
                      refine pure_ (i := 3) (N := some 47) (v := ?_) (a' := ?_) #[true, true, true, true, false, false, false, false, false, false, false, false, false, false, false, false, false, false, false, false, false] rfl rfl (any_of HT_.out (by kernel_rfl)) (fun _ _ _ h => h) (Or.inl ⟨by rfl, ?_⟩) ?_ ?_
                      rotate_left
                      · intro w'
                        go_simp
                        with_reducible rfl
                      rotate_left
                      · simp only [Act.put, List.setIfInBounds_toArray, List.set_cons_zero, List.set_cons_succ, i64_w, i32_w]
                        rfl
                      refine pure_ (i := 5) (N := some 49) (v := ?_) (a' := ?_) #[true, true, true, true, false, true, false, false, false, false, false, false, false, false, false, false, false, false, false, false, false] rfl rfl (any_of HT_.out (by kernel_rfl)) (fun _ _ _ h => h) (Or.inl ⟨by rfl, ?_⟩) ?_ ?_
                      rotate_left
                      · intro w'
                        go_simp
                        with_reducible rfl
                      rotate_left
                      · simp only [Act.put, List.setIfInBounds_toArray, List.set_cons_zero, List.set_cons_succ, i64_w, i32_w]
                        rfl
                      refine pure_ (i := 6) (N := some 50) (v := ?_) (a' := ?_) #[true, true, true, true, false, true, true, false, false, false, false, false, false, false, false, false, false, false, false, false, false] rfl rfl (any_of HT_.out (by kernel_rfl)) (fun _ _ _ h => h) (Or.inl ⟨by rfl, ?_⟩) ?_ ?_
                      rotate_left
                      · intro w'
                        go_simp
                        with_reducible rfl
                      rotate_left
                      · simp only [Act.put, List.setIfInBounds_toArray, List.set_cons_zero, List.set_cons_succ, i64_w, i32_w]
                        rfl
                      refine pure_ (i := 7) (N := some 51) (v := ?_) (a' := ?_) #[true, true, true, true, false, true, true, true, false, false, false, false, false, false, false, false, false, false, false, false, false] rfl rfl (any_of HT_.out (by kernel_rfl)) (fun _ _ _ h => h) (Or.inl ⟨by rfl, ?_⟩) ?_ ?_
                      rotate_left
                      · intro w'
                        go_simp
                        with_reducible rfl
                      rotate_left
                      · simp only [Act.put, List.setIfInBounds_toArray, List.set_cons_zero, List.set_cons_succ, i64_w, i32_w]
                        rfl
                      refine take_ (i := 4) (N := some 48) (v := ?_) (a' := ?_) #[true, true, true, true, true, true, true, true, false, false, false, false, false, false, false, false, false, false, false, false, false] rfl rfl (take_ofW HT_.out HW_.out (by kernel_rfl)) (fun _ _ _ h => h) (Or.inl ⟨by rfl, ?_⟩) hHeld ?_ ?_
                      rotate_left
                      · rintro w' ⟨s0, s1, s2, s3⟩
                        go_simp
                        with_reducible rfl
                      rotate_left
                      · simp only [Act.put, List.setIfInBounds_toArray, List.set_cons_zero, List.set_cons_succ, i64_w, i32_w]
                        rfl
                      refine pure_ (i := 8) (N := some 52) (v := ?_) (a' := ?_) #[true, true, true, true, true, true, true, true, true, false, false, false, false, false, false, false, false, false, false, false, false] rfl rfl (any_of HT_.out (by kernel_rfl)) (fun _ _ _ h => h) (Or.inl ⟨by rfl, ?_⟩) ?_ ?_
                      rotate_left
                      · intro w'
                        go_simp
                        with_reducible rfl
                      rotate_left
                      · simp only [Act.put, List.setIfInBounds_toArray, List.set_cons_zero, List.set_cons_succ, i64_w, i32_w]
                        rfl
                      refine pure_ (i := 9) (N := some 53) (v := ?_) (a' := ?_) #[true, true, true, true, true, true, true, true, true, true, false, false, false, false, false, false, false, false, false, false, false] rfl rfl (any_of HT_.out (by kernel_rfl)) (fun _ _ _ h => h) (Or.inl ⟨by rfl, ?_⟩) ?_ ?_
                      rotate_left
                      · intro w'
                        go_simp
                        with_reducible rfl
                      rotate_left
                      · simp only [Act.put, List.setIfInBounds_toArray, List.set_cons_zero, List.set_cons_succ, i64_w, i32_w]
                        rfl
                      refine pure_ (i := 10) (N := some 54) (v := ?_) (a' := ?_) #[true, true, true, true, true, true, true, true, true, true, true, false, false, false, false, false, false, false, false, false, false] rfl rfl (any_of HT_.out (by kernel_rfl)) (fun _ _ _ h => h) (Or.inl ⟨by rfl, ?_⟩) ?_ ?_
                      rotate_left
                      · intro w'
                        go_simp
                        with_reducible rfl
                      rotate_left
                      · simp only [Act.put, List.setIfInBounds_toArray, List.set_cons_zero, List.set_cons_succ, i64_w, i32_w]
                        rfl
                      refine pure_ (i := 11) (N := some 55) (v := ?_) (a' := ?_) #[true, true, true, true, true, true, true, true, true, true, true, true, false, false, false, false, false, false, false, false, false] rfl rfl (any_of HT_.out (by kernel_rfl)) (fun _ _ _ h => h) (Or.inl ⟨by rfl, ?_⟩) ?_ ?_
                      rotate_left
                      · intro w'
                        go_simp
                        with_reducible rfl
                      rotate_left
                      · simp only [Act.put, List.setIfInBounds_toArray, List.set_cons_zero, List.set_cons_succ, i64_w, i32_w]
                        rfl
                      refine pure_ (i := 12) (N := some 56) (v := ?_) (a' := ?_) #[true, true, true, true, true, true, true, true, true, true, true, true, true, false, false, false, false, false, false, false, false] rfl rfl (any_of HT_.out (by kernel_rfl)) (fun _ _ _ h => h) (Or.inl ⟨by rfl, ?_⟩) ?_ ?_
                      rotate_left
                      · intro w'
                        go_simp
                        with_reducible rfl
                      rotate_left
                      · simp only [Act.put, List.setIfInBounds_toArray, List.set_cons_zero, List.set_cons_succ, i64_w, i32_w]
                        rfl
                      refine pure_ (i := 13) (N := some 57) (v := ?_) (a' := ?_) #[true, true, true, true, true, true, true, true, true, true, true, true, true, true, false, false, false, false, false, false, false] rfl rfl (any_of HT_.out (by kernel_rfl)) (fun _ _ _ h => h) (Or.inl ⟨by rfl, ?_⟩) ?_ ?_
                      rotate_left
                      · intro w'
                        go_simp
                        with_reducible rfl
                      rotate_left
                      · simp only [Act.put, List.setIfInBounds_toArray, List.set_cons_zero, List.set_cons_succ, i64_w, i32_w]
                        rfl
                      refine pure_ (i := 16) (N := some 60) (v := ?_) (a' := ?_) #[true, true, true, true, true, true, true, true, true, true, true, true, true, true, false, false, true, false, false, false, false] rfl rfl (any_of HT_.out (by kernel_rfl)) (fun _ _ _ h => h) (Or.inl ⟨by rfl, ?_⟩) ?_ ?_
                      rotate_left
                      · intro w'
                        go_simp
                        with_reducible rfl
                      rotate_left
                      · simp only [Act.put, List.setIfInBounds_toArray, List.set_cons_zero, List.set_cons_succ, i64_w, i32_w]
                        rfl
                      refine take_ (i := 14) (N := some 58) (v := ?_) (a' := ?_) #[true, true, true, true, true, true, true, true, true, true, true, true, true, true, true, false, true, false, false, false, false] rfl rfl (take_ofW HT_.out HW_.out (by kernel_rfl)) (fun _ _ _ h => h) (Or.inl ⟨by rfl, ?_⟩) hHeld ?_ ?_
                      rotate_left
                      · rintro w' ⟨s0, s1, s2, s3⟩
                        go_simp
                        with_reducible rfl
                      rotate_left
                      · simp only [Act.put, List.setIfInBounds_toArray, List.set_cons_zero, List.set_cons_succ, i64_w, i32_w]
                        rfl
                      refine one_ (i := 15) (N := some 59) #[true, true, true, true, true, true, true, true, true, true, true, true, true, true, true, true, true, false, false, false, false] rfl rfl (one_of HT_.out (by kernel_rfl)) (by decide) (fun K hK => ?_)
                      refine Kd.R_lit_step (Kd.int .i64) _ 3 ?hg (N := 59) ?hd (xs := ([0, 7, 9, 12, 64] : List Int)) (inner := [.int .i64 0, .int .i64 7, .int .i64 9, .int .i64 12, .int .i64 64]) (ok := fun _ => True) (okp := fun _ => True) ?hr ?hp (fun _ hk => hk) trivial (Below.refl _ _) (Nat.le_refl _) (by simp) ?_; (case hd => rfl); (case hg => rfl); (case hr => first | (go_simp; done) | (go_simp; rfl)); (case hp => exact (Reps.one (show Kd.M (Kd.int .i64) _ _ _ 0 [.int .i64 0] from rfl) (Reps.one (show Kd.M (Kd.int .i64) _ _ _ 7 [.int .i64 7] from rfl) (Reps.one (show Kd.M (Kd.int .i64) _ _ _ 9 [.int .i64 9] from rfl) (Reps.one (show Kd.M (Kd.int .i64) _ _ _ 12 [.int .i64 12] from rfl) (Reps.one (show Kd.M (Kd.int .i64) _ _ _ 64 [.int .i64 64] from rfl) (Reps.none _ _)))))))
                      intro v418 w30 ho31 hb hg_ hnew_
                      have HS0_ := (hb.cell (World.block_lt_of_cell? _ _ (hHeld.1))).trans (hHeld.1)
                      have HS1_ := (hb.cell (World.block_lt_of_cell? _ _ (hHeld.2.1))).trans (hHeld.2.1)
                      have HS2_ := (hb.cell (World.block_lt_of_cell? _ _ (hHeld.2.2.1))).trans (hHeld.2.2.1)
                      have HS3_ := (hb.cell (World.block_lt_of_cell? _ _ (hHeld.2.2.2))).trans (hHeld.2.2.2)
                      clear hg_ hnew_
                      (first | rw [← Ny417.out] at ho31 | (simp only [Int.reduceToNat] at ho31; rw [← Ny417.out] at ho31))
                      have n0_ := Aside0.mk (Kd.R_below (by (with_reducible repeat (first | apply Kd.R_alloc | apply Kd.R_drewN | apply Kd.R_drew)); exact HO_8.out) hb)
                      have n1_ := Aside0.mk (Kd.R_lower ho31 (below_size (by repeat (first | (with_reducible first | exact HB.out | apply below_alloc | apply pw_below_drewN | apply below_drew1) | exact HB.out))))
                      have n2_ := Aside0.mk (below_step (by repeat (first | (with_reducible first | exact HB.out | apply below_alloc | apply pw_below_drewN | apply below_drew1) | exact HB.out)) hb)
                      clear HO_8
                      clear HB
                      have HO_8 := n0_
                      have HO419 := n1_
                      have HB := n2_
                      clear n0_ n1_ n2_
                      clear hb ho31
                      obtain ⟨Ao32, co32, eo32⟩ := Kd.R_slice HO419.out
                      subst eo32
                      obtain ⟨ado32, fo32, _⟩ := Kd.at_int (Kd.R_reads' HO419.out).2.2 0 (by decide) (by rw [Ny417.out]; simp)
                      cases fo32
                      refine hK.out _ _ ⟨HS0_, HS1_, HS2_, HS3_⟩ (fun hHeld => ?_)
                      clear hK K
                      refine norm_ (a' := ?_) ?_ ?_
                      rotate_left
                      · show Act.put _ (some 59) _ = _
                        simp only [Act.put, List.setIfInBounds_toArray, List.set_cons_zero, List.set_cons_succ, i64_w, i32_w]
                        rfl
                      refine pure_ (i := 17) (N := some 61) (v := ?_) (a' := ?_) #[true, true, true, true, true, true, true, true, true, true, true, true, true, true, true, true, true, true, false, false, false] rfl rfl (any_of HT_.out (by kernel_rfl)) (fun _ _ _ h => h) (Or.inl ⟨by rfl, ?_⟩) ?_ ?_
                      rotate_left
                      · intro w'
                        go_simp
                        with_reducible rfl
                      rotate_left
                      · simp only [Act.put, List.setIfInBounds_toArray, List.set_cons_zero, List.set_cons_succ, i64_w, i32_w]
                        rfl
                      refine one_ (i := 18) (N := some 62) #[true, true, true, true, true, true, true, true, true, true, true, true, true, true, true, true, true, true, true, false, false] rfl rfl (one_of HT_.out (by kernel_rfl)) (by decide) (fun K hK => ?_)
                      (have p420 : 0 ≤ (x11_10 : Int) := of_decide_eq_true (by first | (with_reducible assumption) | assumption); have q420 : x11_10 < (y417.length : Int) := of_decide_eq_true (by first | (with_reducible assumption) | assumption); obtain ⟨ad420, e420, hx420_0⟩ := Kd.at_int (Kd.R_reads' HO419.out).2.2 x11_10 p420 q420; obtain rfl : ado32 = ad420 := (by injection e420))
                      refine value_ (w1 := ?_) (v := ?_) (by rfl) rfl ?_ ?_
                      rotate_left 2
                      · go_simp
                        constructor
                        · rfl
                        · rfl
                      clear hx420_0
                      refine hK.out _ _ ⟨hHeld.1, hHeld.2.1, hHeld.2.2.1, hHeld.2.2.2⟩ (fun hHeld => ?_)
                      clear hK K
                      refine norm_ (a' := ?_) ?_ ?_
                      rotate_left
                      · show Act.put _ (some 62) _ = _
                        simp only [Act.put, List.setIfInBounds_toArray, List.set_cons_zero, List.set_cons_succ, i64_w, i32_w]
                        rfl
                      refine pure_ (i := 19) (N := some 63) (v := ?_) (a' := ?_) #[true, true, true, true, true, true, true, true, true, true, true, true, true, true, true, true, true, true, true, true, false] rfl rfl (any_of HT_.out (by kernel_rfl)) (fun _ _ _ h => h) (Or.inl ⟨by rfl, ?_⟩) ?_ ?_
                      rotate_left
                      · intro w'
                        go_simp
                        with_reducible rfl
                      rotate_left
                      · simp only [Act.put, List.setIfInBounds_toArray, List.set_cons_zero, List.set_cons_succ, i64_w, i32_w]
                        rfl
                      refine pure_ (i := 20) (N := some 64) (v := ?_) (a' := ?_) #[true, true, true, true, true, true, true, true, true, true, true, true, true, true, true, true, true, true, true, true, true] rfl rfl (any_of HT_.out (by kernel_rfl)) (fun _ _ _ h => h) (Or.inl ⟨by rfl, ?_⟩) ?_ ?_
                      rotate_left
                      · intro w'
                        go_simp
                        with_reducible rfl
                      rotate_left
                      · simp only [Act.put, List.setIfInBounds_toArray, List.set_cons_zero, List.set_cons_succ, i64_w, i32_w]
                        rfl
                      refine done_ (done_of HT_.out (by kernel_rfl)) ?_
                      try go_wp2
                      go_meet
                      case rel => exact ⟨_, ((((rd_T49 t407 t410).f1) != (rd y417 x11_10))), (by first | rfl | (simp; done) | (simp [*]; done)), H', ⟨by have := HJ10.out; first | omega | exact Nat.le_refl _⟩, ⟨by repeat (first | (with_reducible first | exact HB.out | apply below_alloc | apply pw_below_drewN | apply below_drew1) | exact HB.out)⟩⟩
                    · rw [if_neg c28] at H
                      exact absurd H (by simp)
                  · rw [if_neg c27] at H
                    exact absurd H (by simp)
                · rw [if_neg c26] at H
                  have c26b0 : (((rd_T49 t407 t410).f0) == (ji25)) = false := beq_eq_false_iff_ne.mpr c26
                  have c26b1 : (((rd_T49 t407 t410).f0) != (ji25)) = true := bne_iff_ne.mpr c26
                  have H' := Aside0.mk H
                  clear H
                  try go_wp2
                  have n0_ := Aside0.mk (Kd.R_drew HO_8.out)
                  have n1_ := Aside0.mk (below_drew1 HB.out)
                  clear HO_8
                  clear HB
                  have HO_8 := n0_
                  have HB := n1_
                  clear n0_ n1_
                  have p415 : 0 ≤ (t410 : Int) := of_decide_eq_true (by first | (with_reducible assumption) | assumption)
                  have q415 : t410 < (t407.length : Int) := of_decide_eq_true (by first | (with_reducible assumption) | assumption)
                  obtain ⟨ad415, e415, hx415_0, hx415_1⟩ := at_T49 (Kd.R_reads' HO_8.out).2.2 t410 p415 q415
                  cases e415
                  replace p415 := eq_true p415
                  (try (have q415s := q415; simp only [List.length_drop, List.length_take] at q415s; replace q415s := eq_true q415s)); replace q415 := eq_true q415
                  refine start_ (n := 21) (S := fun w' => w'.cell? (ad415.add ((t410).toNat * 2)) = some (.int .i64 ((rd_T49 t407 t410).f0)) ∧ w'.cell? ⟨(ad415.add ((t410).toNat * 2)).block, (ad415.add ((t410).toNat * 2)).off + 1, none⟩ = some (.int .i64 ((rd_T49 t407 t410).f1))) (ds := []) #[false, false, false, false, false, false, false, false, false, false, false, false, false, false, false, false, false, false, false, false, false] (by kernel_rfl) rfl rfl ⟨hx415_0, hx415_1⟩ (fun hHeld => ?_); refine with_tabW gaiterlaw06_TabTells.tab12 gaiterlaw06_TabTells.bits12 (fun HT_ HW_ => ?_)
                  generalize wc.drew = w33 at HO_8 HB hx415_0 hx415_1 hHeld ⊢
                  refine pure_ (i := 0) (N := some 44) (v := ?_) (a' := ?_) #[true, false, false, false, false, false, false, false, false, false, false, false, false, false, false, false, false, false, false, false, false] rfl rfl (any_of HT_.out (by kernel_rfl)) (fun _ _ _ h => h) (Or.inl ⟨by rfl, ?_⟩) ?_ ?_
                  rotate_left
                  · intro w'
                    go_simp
                    with_reducible rfl
                  rotate_left
                  · simp only [Act.put, List.setIfInBounds_toArray, List.set_cons_zero, List.set_cons_succ, i64_w, i32_w]
                    rfl
                  refine pure_ (i := 1) (N := some 45) (v := ?_) (a' := ?_) #[true, true, false, false, false, false, false, false, false, false, false, false, false, false, false, false, false, false, false, false, false] rfl rfl (any_of HT_.out (by kernel_rfl)) (fun _ _ _ h => h) (Or.inl ⟨by rfl, ?_⟩) ?_ ?_
                  rotate_left
                  · intro w'
                    go_simp
                    with_reducible rfl
                  rotate_left
                  · simp only [Act.put, List.setIfInBounds_toArray, List.set_cons_zero, List.set_cons_succ, i64_w, i32_w]
                    rfl
                  refine pure_ (i := 2) (N := some 46) (v := ?_) (a' := ?_) #[true, true, true, false, false, false, false, false, false, false, false, false, false, false, false, false, false, false, false, false, false] rfl rfl (any_of HT_.out (by kernel_rfl)) (fun _ _ _ h => h) (Or.inl ⟨by rfl, ?_⟩) ?_ ?_
                  rotate_left
                  · intro w'
                    go_simp
                    with_reducible rfl
                  rotate_left
                  · simp only [Act.put, List.setIfInBounds_toArray, List.set_cons_zero, List.set_cons_succ, i64_w, i32_w]
                    rfl
                  refine pure_ (i := 3) (N := some 47) (v := ?_) (a' := ?_) #[true, true, true, true, false, false, false, false, false, false, false, false, false, false, false, false, false, false, false, false, false] rfl rfl (any_of HT_.out (by kernel_rfl)) (fun _ _ _ h => h) (Or.inl ⟨by rfl, ?_⟩) ?_ ?_
                  rotate_left
                  · intro w'
                    go_simp
                    with_reducible rfl
                  rotate_left
                  · simp only [Act.put, List.setIfInBounds_toArray, List.set_cons_zero, List.set_cons_succ, i64_w, i32_w]
                    rfl
                  refine pure_ (i := 5) (N := some 49) (v := ?_) (a' := ?_) #[true, true, true, true, false, true, false, false, false, false, false, false, false, false, false, false, false, false, false, false, false] rfl rfl (any_of HT_.out (by kernel_rfl)) (fun _ _ _ h => h) (Or.inl ⟨by rfl, ?_⟩) ?_ ?_
                  rotate_left
                  · intro w'
                    go_simp
                    with_reducible rfl
                  rotate_left
                  · simp only [Act.put, List.setIfInBounds_toArray, List.set_cons_zero, List.set_cons_succ, i64_w, i32_w]
                    rfl
                  refine pure_ (i := 6) (N := some 50) (v := ?_) (a' := ?_) #[true, true, true, true, false, true, true, false, false, false, false, false, false, false, false, false, false, false, false, false, false] rfl rfl (any_of HT_.out (by kernel_rfl)) (fun _ _ _ h => h) (Or.inl ⟨by rfl, ?_⟩) ?_ ?_
                  rotate_left
                  · intro w'
                    go_simp
                    with_reducible rfl
                  rotate_left
                  · simp only [Act.put, List.setIfInBounds_toArray, List.set_cons_zero, List.set_cons_succ, i64_w, i32_w]
                    rfl
                  refine pure_ (i := 7) (N := some 51) (v := ?_) (a' := ?_) #[true, true, true, true, false, true, true, true, false, false, false, false, false, false, false, false, false, false, false, false, false] rfl rfl (any_of HT_.out (by kernel_rfl)) (fun _ _ _ h => h) (Or.inl ⟨by rfl, ?_⟩) ?_ ?_
                  rotate_left
                  · intro w'
                    go_simp
                    with_reducible rfl
                  rotate_left
                  · simp only [Act.put, List.setIfInBounds_toArray, List.set_cons_zero, List.set_cons_succ, i64_w, i32_w]
                    rfl
                  refine take_ (i := 4) (N := some 48) (v := ?_) (a' := ?_) #[true, true, true, true, true, true, true, true, false, false, false, false, false, false, false, false, false, false, false, false, false] rfl rfl (take_ofW HT_.out HW_.out (by kernel_rfl)) (fun _ _ _ h => h) (Or.inl ⟨by rfl, ?_⟩) hHeld ?_ ?_
                  rotate_left
                  · rintro w' ⟨s0, s1⟩
                    go_simp
                    with_reducible rfl
                  rotate_left
                  · simp only [Act.put, List.setIfInBounds_toArray, List.set_cons_zero, List.set_cons_succ, i64_w, i32_w]
                    rfl
                  refine pure_ (i := 8) (N := some 52) (v := ?_) (a' := ?_) #[true, true, true, true, true, true, true, true, true, false, false, false, false, false, false, false, false, false, false, false, false] rfl rfl (any_of HT_.out (by kernel_rfl)) (fun _ _ _ h => h) (Or.inl ⟨by rfl, ?_⟩) ?_ ?_
                  rotate_left
                  · intro w'
                    go_simp
                    with_reducible rfl
                  rotate_left
                  · simp only [Act.put, List.setIfInBounds_toArray, List.set_cons_zero, List.set_cons_succ, i64_w, i32_w]
                    rfl
                  refine pure_ (i := 9) (N := some 53) (v := ?_) (a' := ?_) #[true, true, true, true, true, true, true, true, true, true, false, false, false, false, false, false, false, false, false, false, false] rfl rfl (any_of HT_.out (by kernel_rfl)) (fun _ _ _ h => h) (Or.inl ⟨by rfl, ?_⟩) ?_ ?_
                  rotate_left
                  · intro w'
                    go_simp
                    with_reducible rfl
                  rotate_left
                  · simp only [Act.put, List.setIfInBounds_toArray, List.set_cons_zero, List.set_cons_succ, i64_w, i32_w]
                    rfl
                  refine pure_ (i := 10) (N := some 54) (v := undef) (a' := ?_) #[true, true, true, true, true, true, true, true, true, true, true, false, false, false, false, false, false, false, false, false, false] rfl rfl (any_of HT_.out (by kernel_rfl)) (fun _ _ _ h => h) (Or.inr ⟨by rfl, rfl⟩) ?_ ?_
                  rotate_left
                  · simp only [Act.put, List.setIfInBounds_toArray, List.set_cons_zero, List.set_cons_succ, i64_w, i32_w]
                    rfl
                  refine pure_ (i := 11) (N := some 55) (v := undef) (a' := ?_) #[true, true, true, true, true, true, true, true, true, true, true, true, false, false, false, false, false, false, false, false, false] rfl rfl (any_of HT_.out (by kernel_rfl)) (fun _ _ _ h => h) (Or.inr ⟨by rfl, rfl⟩) ?_ ?_
                  rotate_left
                  · simp only [Act.put, List.setIfInBounds_toArray, List.set_cons_zero, List.set_cons_succ, i64_w, i32_w]
                    rfl
                  refine pure_ (i := 12) (N := some 56) (v := undef) (a' := ?_) #[true, true, true, true, true, true, true, true, true, true, true, true, true, false, false, false, false, false, false, false, false] rfl rfl (any_of HT_.out (by kernel_rfl)) (fun _ _ _ h => h) (Or.inr ⟨by rfl, rfl⟩) ?_ ?_
                  rotate_left
                  · simp only [Act.put, List.setIfInBounds_toArray, List.set_cons_zero, List.set_cons_succ, i64_w, i32_w]
                    rfl
                  refine pure_ (i := 13) (N := some 57) (v := undef) (a' := ?_) #[true, true, true, true, true, true, true, true, true, true, true, true, true, true, false, false, false, false, false, false, false] rfl rfl (any_of HT_.out (by kernel_rfl)) (fun _ _ _ h => h) (Or.inr ⟨by rfl, rfl⟩) ?_ ?_
                  rotate_left
                  · simp only [Act.put, List.setIfInBounds_toArray, List.set_cons_zero, List.set_cons_succ, i64_w, i32_w]
                    rfl
                  refine pure_ (i := 14) (N := some 58) (v := undef) (a' := ?_) #[true, true, true, true, true, true, true, true, true, true, true, true, true, true, true, false, false, false, false, false, false] rfl rfl (any_of HT_.out (by kernel_rfl)) (fun _ _ _ h => h) (Or.inr ⟨by rfl, rfl⟩) ?_ ?_
                  rotate_left
                  · simp only [Act.put, List.setIfInBounds_toArray, List.set_cons_zero, List.set_cons_succ, i64_w, i32_w]
                    rfl
                  refine pure_ (i := 15) (N := some 59) (v := undef) (a' := ?_) #[true, true, true, true, true, true, true, true, true, true, true, true, true, true, true, true, false, false, false, false, false] rfl rfl (any_of HT_.out (by kernel_rfl)) (fun _ _ _ h => h) (Or.inr ⟨by rfl, rfl⟩) ?_ ?_
                  rotate_left
                  · simp only [Act.put, List.setIfInBounds_toArray, List.set_cons_zero, List.set_cons_succ, i64_w, i32_w]
                    rfl
                  refine pure_ (i := 16) (N := some 60) (v := undef) (a' := ?_) #[true, true, true, true, true, true, true, true, true, true, true, true, true, true, true, true, true, false, false, false, false] rfl rfl (any_of HT_.out (by kernel_rfl)) (fun _ _ _ h => h) (Or.inr ⟨by rfl, rfl⟩) ?_ ?_
                  rotate_left
                  · simp only [Act.put, List.setIfInBounds_toArray, List.set_cons_zero, List.set_cons_succ, i64_w, i32_w]
                    rfl
                  refine pure_ (i := 17) (N := some 61) (v := undef) (a' := ?_) #[true, true, true, true, true, true, true, true, true, true, true, true, true, true, true, true, true, true, false, false, false] rfl rfl (any_of HT_.out (by kernel_rfl)) (fun _ _ _ h => h) (Or.inr ⟨by rfl, rfl⟩) ?_ ?_
                  rotate_left
                  · simp only [Act.put, List.setIfInBounds_toArray, List.set_cons_zero, List.set_cons_succ, i64_w, i32_w]
                    rfl
                  refine pure_ (i := 18) (N := some 62) (v := undef) (a' := ?_) #[true, true, true, true, true, true, true, true, true, true, true, true, true, true, true, true, true, true, true, false, false] rfl rfl (any_of HT_.out (by kernel_rfl)) (fun _ _ _ h => h) (Or.inr ⟨by rfl, rfl⟩) ?_ ?_
                  rotate_left
                  · simp only [Act.put, List.setIfInBounds_toArray, List.set_cons_zero, List.set_cons_succ, i64_w, i32_w]
                    rfl
                  refine pure_ (i := 19) (N := some 63) (v := undef) (a' := ?_) #[true, true, true, true, true, true, true, true, true, true, true, true, true, true, true, true, true, true, true, true, false] rfl rfl (any_of HT_.out (by kernel_rfl)) (fun _ _ _ h => h) (Or.inr ⟨by rfl, rfl⟩) ?_ ?_
                  rotate_left
                  · simp only [Act.put, List.setIfInBounds_toArray, List.set_cons_zero, List.set_cons_succ, i64_w, i32_w]
                    rfl
                  refine pure_ (i := 20) (N := some 64) (v := ?_) (a' := ?_) #[true, true, true, true, true, true, true, true, true, true, true, true, true, true, true, true, true, true, true, true, true] rfl rfl (any_of HT_.out (by kernel_rfl)) (fun _ _ _ h => h) (Or.inl ⟨by rfl, ?_⟩) ?_ ?_
                  rotate_left
                  · intro w'
                    go_simp
                    with_reducible rfl
                  rotate_left
                  · simp only [Act.put, List.setIfInBounds_toArray, List.set_cons_zero, List.set_cons_succ, i64_w, i32_w]
                    rfl
                  refine done_ (done_of HT_.out (by kernel_rfl)) ?_
                  try go_wp2
                  go_meet
                  case rel => exact ⟨_, (true), (by first | rfl | (simp; done) | (simp [*]; done)), H', ⟨by have := HJ10.out; first | omega | exact Nat.le_refl _⟩, ⟨by repeat (first | (with_reducible first | exact HB.out | apply below_alloc | apply pw_below_drewN | apply below_drew1) | exact HB.out)⟩⟩
              · rw [if_neg c24] at H
                exact absurd H (by simp)
            · rw [if_neg c23] at H
              exact absurd H (by simp)
          case rest =>
            clear HC22
            try clear c1
            try clear c2
            try clear p2
            try clear p4
            try clear q4
            try clear hx4
            try clear qi4
            try clear c5
            try clear c5b0
            try clear c5b1
            try clear p6
            try clear c8
            try clear c8b0
            try clear c8b1
            try clear c16
            try clear c16b0
            try clear c17
            try clear c17b0
            try clear c18
            try clear c18b0
            try clear c19
            try clear c19b0
            try clear c19b1
            try clear c20
            try clear c23
            try clear c23b0
            try clear c24
            try clear c24b0
            try clear c25
            try clear c26
            try clear c26b0
            try clear c26b1
            try clear c27
            try clear c27b0
            try clear c28
            try clear c28b0
            try clear hx414_0
            try clear hx415_0
            try clear hx415_1
            try clear hx416_0
            try clear hx416_1
            try clear hx420_0
            try clear p2
            try clear p4
            try clear p414
            try clear p415
            try clear p416
            try clear p420
            try clear p6
            try clear q4
            try clear q414
            try clear q415
            try clear q416
            try clear q420
            obtain ⟨kq, x64_21, rfl, HA, HJ21, HB⟩ := hcut
            cases kq with
            | zero => exact absurd HA.out (by simp [gaiterlaw06_TabTells.j2])
            | succ kj21 =>
              have H := HA.out
              clear HA
              simp only [gaiterlaw06_TabTells.j2] at H
              by_cases c34 : x64_21 = true
              · subst c34
                have H1 : (some false) = some r := by rw [if_pos rfl] at H; exact H
                clear H
                have H := H1
                clear H1
                obtain rfl := Option.some.inj H
                go_wp2
                go_ret
                exact ⟨by first | rfl | (simp [errW_none, errW_some] <;> rfl) | (simp [*, errW_none, errW_some] <;> rfl), by repeat (first | (with_reducible first | exact HB.out | apply below_alloc | apply pw_below_drewN | apply below_drew1) | exact HB.out)⟩
              · replace c34 := Bool.eq_false_iff.mpr c34
                subst c34
                have H1 : ((gaiterlaw00_Pick.f a2 (wrap64 ((wrap64 (8 * (l1.length : Int))) + 1))).bind fun t421 => ((fill_New.f l1).bind fun bt422 => ((fill_Reader_Skip.f kj21 bt422.1 bt422.2.1 bt422.2.2 t421).bind fun bt426 => (if bt426.1 = true then ((tab_Get.f kj21 bt426.2.1 bt426.2.2.1 bt426.2.2.2).bind fun bt430 => ((gaiterref01_Flat.f kj21 l1).bind fun t435 => (if 0 ≤ t421 then (if t421 ≤ (t435.length : Int) then ((gaiterref01_GetDod.f kj21 (t435.drop (t421 : Int).toNat)).bind fun bt442 => (if t406 = true then (if bt430.1 = bt442.1 then ((gaiterlaw00_Code.f bt430.2.1).bind fun t445 => (if t445 = bt442.2.2 then (if bt442.2.2 = 0 then ((fill_Reader_Left.f bt430.2.2.1 bt430.2.2.2.1 bt430.2.2.2.2).bind fun bt446 => (some (bt446.1 == (wrap64 ((wrap64 ((wrap64 (8 * (l1.length : Int))) - t421)) - bt442.2.1))))) else (some true)) else (some false))) else (some false)) else (some false))) else (none)) else (none)))) else (some false))))) = some r := by rw [if_neg (show ¬ (false = true) by decide)] at H; exact H
                clear H
                have H := H1
                clear H1
                replace H := Option.bind_eq_some_iff.mp H
                obtain ⟨t421, A350, H⟩ := H
                replace H : ((fill_New.f l1).bind fun bt422 => ((fill_Reader_Skip.f kj21 bt422.1 bt422.2.1 bt422.2.2 t421).bind fun bt426 => (if bt426.1 = true then ((tab_Get.f kj21 bt426.2.1 bt426.2.2.1 bt426.2.2.2).bind fun bt430 => ((gaiterref01_Flat.f kj21 l1).bind fun t435 => (if 0 ≤ t421 then (if t421 ≤ (t435.length : Int) then ((gaiterref01_GetDod.f kj21 (t435.drop (t421 : Int).toNat)).bind fun bt442 => (if t406 = true then (if bt430.1 = bt442.1 then ((gaiterlaw00_Code.f bt430.2.1).bind fun t445 => (if t445 = bt442.2.2 then (if bt442.2.2 = 0 then ((fill_Reader_Left.f bt430.2.2.1 bt430.2.2.2.1 bt430.2.2.2.2).bind fun bt446 => (some (bt446.1 == (wrap64 ((wrap64 ((wrap64 (8 * (l1.length : Int))) - t421)) - bt442.2.1))))) else (some true)) else (some false))) else (some false)) else (some false))) else (none)) else (none)))) else (some false)))) = some r := H
                have A35 := Aside0.mk A350
                clear A350
                replace H := Option.bind_eq_some_iff.mp H
                obtain ⟨⟨t422, t423, t424⟩, A360, H⟩ := H
                replace H : ((fill_Reader_Skip.f kj21 t422 t423 t424 t421).bind fun bt426 => (if bt426.1 = true then ((tab_Get.f kj21 bt426.2.1 bt426.2.2.1 bt426.2.2.2).bind fun bt430 => ((gaiterref01_Flat.f kj21 l1).bind fun t435 => (if 0 ≤ t421 then (if t421 ≤ (t435.length : Int) then ((gaiterref01_GetDod.f kj21 (t435.drop (t421 : Int).toNat)).bind fun bt442 => (if t406 = true then (if bt430.1 = bt442.1 then ((gaiterlaw00_Code.f bt430.2.1).bind fun t445 => (if t445 = bt442.2.2 then (if bt442.2.2 = 0 then ((fill_Reader_Left.f bt430.2.2.1 bt430.2.2.2.1 bt430.2.2.2.2).bind fun bt446 => (some (bt446.1 == (wrap64 ((wrap64 ((wrap64 (8 * (l1.length : Int))) - t421)) - bt442.2.1))))) else (some true)) else (some false))) else (some false)) else (some false))) else (none)) else (none)))) else (some false))) = some r := H
                have A36 := Aside0.mk A360
                clear A360
                replace H := Option.bind_eq_some_iff.mp H
                obtain ⟨⟨t426, t427, t428, t429⟩, A370, H⟩ := H
                replace H : (if t426 = true then ((tab_Get.f kj21 t427 t428 t429).bind fun bt430 => ((gaiterref01_Flat.f kj21 l1).bind fun t435 => (if 0 ≤ t421 then (if t421 ≤ (t435.length : Int) then ((gaiterref01_GetDod.f kj21 (t435.drop (t421 : Int).toNat)).bind fun bt442 => (if t406 = true then (if bt430.1 = bt442.1 then ((gaiterlaw00_Code.f bt430.2.1).bind fun t445 => (if t445 = bt442.2.2 then (if bt442.2.2 = 0 then ((fill_Reader_Left.f bt430.2.2.1 bt430.2.2.2.1 bt430.2.2.2.2).bind fun bt446 => (some (bt446.1 == (wrap64 ((wrap64 ((wrap64 (8 * (l1.length : Int))) - t421)) - bt442.2.1))))) else (some true)) else (some false))) else (some false)) else (some false))) else (none)) else (none)))) else (some false)) = some r := H
                have A37 := Aside0.mk A370
                clear A370
                by_cases c38 : t426 = true
                · subst c38
                  have H1 : ((tab_Get.f kj21 t427 t428 t429).bind fun bt430 => ((gaiterref01_Flat.f kj21 l1).bind fun t435 => (if 0 ≤ t421 then (if t421 ≤ (t435.length : Int) then ((gaiterref01_GetDod.f kj21 (t435.drop (t421 : Int).toNat)).bind fun bt442 => (if t406 = true then (if bt430.1 = bt442.1 then ((gaiterlaw00_Code.f bt430.2.1).bind fun t445 => (if t445 = bt442.2.2 then (if bt442.2.2 = 0 then ((fill_Reader_Left.f bt430.2.2.1 bt430.2.2.2.1 bt430.2.2.2.2).bind fun bt446 => (some (bt446.1 == (wrap64 ((wrap64 ((wrap64 (8 * (l1.length : Int))) - t421)) - bt442.2.1))))) else (some true)) else (some false))) else (some false)) else (some false))) else (none)) else (none)))) = some r := by rw [if_pos rfl] at H; exact H
                  clear H
                  have H := H1
                  clear H1
                  replace H := Option.bind_eq_some_iff.mp H
                  obtain ⟨⟨t430, t431, t432, t433, t434⟩, A390, H⟩ := H
                  replace H : ((gaiterref01_Flat.f kj21 l1).bind fun t435 => (if 0 ≤ t421 then (if t421 ≤ (t435.length : Int) then ((gaiterref01_GetDod.f kj21 (t435.drop (t421 : Int).toNat)).bind fun bt442 => (if t406 = true then (if t430 = bt442.1 then ((gaiterlaw00_Code.f t431).bind fun t445 => (if t445 = bt442.2.2 then (if bt442.2.2 = 0 then ((fill_Reader_Left.f t432 t433 t434).bind fun bt446 => (some (bt446.1 == (wrap64 ((wrap64 ((wrap64 (8 * (l1.length : Int))) - t421)) - bt442.2.1))))) else (some true)) else (some false))) else (some false)) else (some false))) else (none)) else (none))) = some r := H
                  have A39 := Aside0.mk A390
                  clear A390
                  replace H := Option.bind_eq_some_iff.mp H
                  obtain ⟨t435, A400, H⟩ := H
                  replace H : (if 0 ≤ t421 then (if t421 ≤ (t435.length : Int) then ((gaiterref01_GetDod.f kj21 (t435.drop (t421 : Int).toNat)).bind fun bt442 => (if t406 = true then (if t430 = bt442.1 then ((gaiterlaw00_Code.f t431).bind fun t445 => (if t445 = bt442.2.2 then (if bt442.2.2 = 0 then ((fill_Reader_Left.f t432 t433 t434).bind fun bt446 => (some (bt446.1 == (wrap64 ((wrap64 ((wrap64 (8 * (l1.length : Int))) - t421)) - bt442.2.1))))) else (some true)) else (some false))) else (some false)) else (some false))) else (none)) else (none)) = some r := H
                  have A40 := Aside0.mk A400
                  clear A400
                  by_cases c41 : 0 ≤ t421
                  · rw [if_pos c41] at H
                    have c41b0 := eq_true c41
                    have c41b1 : decide (0 ≤ t421) = true := decide_eq_true c41
                    clear c41
                    by_cases c42 : t421 ≤ (t435.length : Int)
                    · rw [if_pos c42] at H
                      have c42b0 := eq_true c42
                      have c42b1 : decide (t421 ≤ (t435.length : Int)) = true := decide_eq_true c42
                      clear c42
                      obtain ⟨y438, hy438⟩ : ∃ y_ : List Int, y_ = (t435.drop (t421 : Int).toNat) := ⟨_, rfl⟩
                      replace H : ((gaiterref01_GetDod.f kj21 y438).bind fun bt442 => (if t406 = true then (if t430 = bt442.1 then ((gaiterlaw00_Code.f t431).bind fun t445 => (if t445 = bt442.2.2 then (if bt442.2.2 = 0 then ((fill_Reader_Left.f t432 t433 t434).bind fun bt446 => (some (bt446.1 == (wrap64 ((wrap64 ((wrap64 (8 * (l1.length : Int))) - t421)) - bt442.2.1))))) else (some true)) else (some false))) else (some false)) else (some false))) = some r := by first | (rw [hy438]; with_reducible exact H) | (have H2_ := (Option.bind_some _ _).symm.trans H; rw [hy438]; with_reducible exact H2_) | (have H2_ := (Option.bind_some _ _).symm.trans H; with_reducible exact H2_) | with_reducible exact H | (rw [hy438]; exact H) | exact H
                      have Ny438 := Aside0.mk hy438
                      clear hy438
                      replace H := Option.bind_eq_some_iff.mp H
                      obtain ⟨⟨t442, t443, t444⟩, A430, H⟩ := H
                      replace H : (if t406 = true then (if t430 = t442 then ((gaiterlaw00_Code.f t431).bind fun t445 => (if t445 = t444 then (if t444 = 0 then ((fill_Reader_Left.f t432 t433 t434).bind fun bt446 => (some (bt446.1 == (wrap64 ((wrap64 ((wrap64 (8 * (l1.length : Int))) - t421)) - t443))))) else (some true)) else (some false))) else (some false)) else (some false)) = some r := H
                      have A43 := Aside0.mk A430
                      clear A430
                      by_cases c44 : t406 = true
                      · subst c44
                        have H1 : (if t430 = t442 then ((gaiterlaw00_Code.f t431).bind fun t445 => (if t445 = t444 then (if t444 = 0 then ((fill_Reader_Left.f t432 t433 t434).bind fun bt446 => (some (bt446.1 == (wrap64 ((wrap64 ((wrap64 (8 * (l1.length : Int))) - t421)) - t443))))) else (some true)) else (some false))) else (some false)) = some r := by rw [if_pos rfl] at H; exact H
                        clear H
                        have H := H1
                        clear H1
                        by_cases c45 : t430 = t442
                        · rw [if_pos c45] at H
                          have c45b0 : (t430 == t442) = true := beq_iff_eq.mpr c45
                          have c45b1 : (t430 != t442) = false := bne_eq_false_iff_eq.mpr c45
                          clear c45
                          replace H := Option.bind_eq_some_iff.mp H
                          obtain ⟨t445, A460, H⟩ := H
                          replace H : (if t445 = t444 then (if t444 = 0 then ((fill_Reader_Left.f t432 t433 t434).bind fun bt446 => (some (bt446.1 == (wrap64 ((wrap64 ((wrap64 (8 * (l1.length : Int))) - t421)) - t443))))) else (some true)) else (some false)) = some r := H
                          have A46 := Aside0.mk A460
                          clear A460
                          by_cases c47 : t445 = t444
                          · rw [if_pos c47] at H
                            have c47b0 : (t445 == t444) = true := beq_iff_eq.mpr c47
                            have c47b1 : (t445 != t444) = false := bne_eq_false_iff_eq.mpr c47
                            clear c47
                            by_cases c48 : t444 = 0
                            · rw [if_pos c48] at H
                              have c48b0 : (t444 == 0) = true := beq_iff_eq.mpr c48
                              have c48b1 : (t444 != 0) = false := bne_eq_false_iff_eq.mpr c48
                              clear c48
                              replace H := Option.bind_eq_some_iff.mp H
                              obtain ⟨⟨t446, t447, t448, t449⟩, A490, H⟩ := H
                              replace H : (some (t446 == (wrap64 ((wrap64 ((wrap64 (8 * (l1.length : Int))) - t421)) - t443)))) = some r := H
                              have A49 := Aside0.mk A490
                              clear A490
                              obtain rfl := Option.some.inj H
                              go_wp2_with (first | ((with_reducible refine gate_callee (f := 20) rfl ?_); refine goesL_ (some 70) rfl rfl Try.func20 (by kernel_rfl) rfl #[.int .i64 a2, .int .i64 (wrap64 ((wrap64 (8 * (l1.length : Int))) + 1))] rfl (by (try simp only [List.map_toArray, List.map_cons, List.map_nil]); first | done | rfl | (simp only [List.length_drop, List.length_take]; rfl)) ?_; (with_reducible refine (gaiterlaw00_Pick.calls a2 (wrap64 ((wrap64 (8 * (l1.length : Int))) + 1)) t421 _ A35.out).mono ?_); rintro e w' ⟨rfl, ⟨nd, rfl⟩⟩; refine ⟨_, rfl, ?_⟩) | ((with_reducible refine gate_callee (f := 26) rfl ?_); refine goesL_ (some 72) rfl rfl Try.func26 (by kernel_rfl) rfl #[.slice A1 l1.length c1] rfl (by (try simp only [List.map_toArray, List.map_cons, List.map_nil]); first | done | rfl | (simp only [List.length_drop, List.length_take]; rfl)) ?_; (with_reducible refine (fill_New.calls _ _ l1 t422 t423 t424 w _ ?side1 ?side2 ?side3 A36.out).mono ?_); (case side1 => repeat (first | (with_reducible first | exact HB.out | apply below_alloc | apply pw_below_drewN | apply below_drew1) | exact HB.out)); (case side2 => exact HR1.out); (case side3 => exact HC1.out); rintro e w50 ⟨g425, rfl, hi, hb, hb2⟩; refine ⟨_, rfl, ?_⟩; have n0_ := Aside0.mk (hb); have n1_ := Aside0.mk (hi); clear HB; have HB := n0_; have HI425 := n1_; clear n0_ n1_; (try clear hb); (try clear hb2); (try clear hk); (try clear hi)) | ((with_reducible refine gate_callee (f := 27) rfl ?_); refine goesL_ (some 75) rfl rfl Try.func27 (by kernel_rfl) rfl #[.pointer (some ⟨g425, 0, none⟩), .int .i64 t421] rfl (by (try simp only [List.map_toArray, List.map_cons, List.map_nil]); first | done | rfl | (simp only [List.length_drop, List.length_take]; rfl)) ?_; (with_reducible refine (fill_Reader_Skip.calls kj21 g425 t422 t423 t424 t421 true t427 t428 t429 w _ ?side1 ?side2 A37.out).mono ?_); (case side1 => repeat (first | (with_reducible first | exact HI425.out | apply IsS91.alloc | apply IsS91.drewN | apply IsS91.drew | apply IsS91.set_1 | apply IsS91.set_2) | exact HI425.out)); (case side2 => repeat (first | (with_reducible first | exact HB.out | apply below_alloc | apply pw_below_drewN | apply below_drew1 | refine below_set ?_ (IsS91.ge HI425.out)) | exact HB.out)); rintro e w51 ⟨rfl, hi, hb, hk⟩; refine ⟨_, rfl, ?_⟩; have n0_ := Aside0.mk (hb); have n1_ := Aside0.mk (hi); clear HB; clear HI425; have HB := n0_; have HI425 := n1_; clear n0_ n1_; (try clear hb); (try clear hb2); (try clear hk); (try clear hi)) | ((with_reducible refine gate_callee (f := 28) rfl ?_); refine goesL_ (some 79) rfl rfl Try.func28 (by kernel_rfl) rfl #[.pointer (some ⟨g425, 0, none⟩)] rfl (by (try simp only [List.map_toArray, List.map_cons, List.map_nil]); first | done | rfl | (simp only [List.length_drop, List.length_take]; rfl)) ?_; (with_reducible refine (tab_Get.calls kj21 g425 t427 t428 t429 t430 t431 t432 t433 t434 w _ ?side1 ?side2 A39.out).mono ?_); (case side1 => repeat (first | (with_reducible first | exact HI425.out | apply IsS91.alloc | apply IsS91.drewN | apply IsS91.drew | apply IsS91.set_1 | apply IsS91.set_2) | exact HI425.out)); (case side2 => repeat (first | (with_reducible first | exact HB.out | apply below_alloc | apply pw_below_drewN | apply below_drew1 | refine below_set ?_ (IsS91.ge HI425.out)) | exact HB.out)); rintro e w52 ⟨rfl, hi, hb, hk⟩; refine ⟨_, rfl, ?_⟩; have n0_ := Aside0.mk (hb); have n1_ := Aside0.mk (hi); clear HB; clear HI425; have HB := n0_; have HI425 := n1_; clear n0_ n1_; (try clear hb); (try clear hb2); (try clear hk); (try clear hi); (try simp only [errW_none, errW_some])) | ((with_reducible refine gate_callee (f := 22) rfl ?_); refine goesL_ (some 84) rfl rfl Try.func22 (by kernel_rfl) rfl #[.slice A1 l1.length c1] rfl (by (try simp only [List.map_toArray, List.map_cons, List.map_nil]); first | done | rfl | (simp only [List.length_drop, List.length_take]; rfl)) ?_; (with_reducible refine (gaiterref01_Flat.calls kj21 _ _ l1 t435 _ ?side1 ?side2 A40.out).mono ?_); (case side1 => repeat (first | exact (Kd.C_below HR1.out HB.out) | (with_reducible refine Kd.C_alloc ?_ _) | (with_reducible refine Kd.C_drewN ?_ _) | (with_reducible refine Kd.C_drew ?_))); (case side2 => exact HC1.out); rintro e w53 ⟨v436, rfl, ho0, hb⟩; refine ⟨_, rfl, ?_⟩; have n0_ := Aside0.mk (Kd.R_lower ho0 (below_size (by repeat (first | (with_reducible first | exact HB.out | apply below_alloc | apply pw_below_drewN | apply below_drew1 | refine below_set ?_ (IsS91.ge HI425.out)) | exact HB.out)))); have n1_ := Aside0.mk (IsS91.below (by repeat (first | (with_reducible first | exact HI425.out | apply IsS91.alloc | apply IsS91.drewN | apply IsS91.drew | apply IsS91.set_1 | apply IsS91.set_2) | exact HI425.out)) hb); have n2_ := Aside0.mk (below_step (by repeat (first | (with_reducible first | exact HB.out | apply below_alloc | apply pw_below_drewN | apply below_drew1 | refine below_set ?_ (IsS91.ge HI425.out)) | exact HB.out)) hb); clear HI425; clear HB; have HO437 := n0_; have HI425 := n1_; have HB := n2_; clear n0_ n1_ n2_; (try clear hb); (try clear hb2); (try clear hk); (try clear hi); (try clear ho0); obtain ⟨Ao55, co55, eo55⟩ := Kd.R_slice HO437.out; subst eo55; have q54 : (t421 : Int) ≤ ((t435.length : Int) : Int) := of_decide_eq_true (by first | (with_reducible assumption) | assumption); obtain ⟨i054, hi054, _, hsz54, _⟩ := info_parts info5; have hroom54 : t435.length ≤ co55 := (Kd.R_reads' HO437.out).2.1; have hC54 : Kd.C (Kd.int .u8) _ Ao55 t435.length t435 := (Kd.R_reads' HO437.out).2.2; have q054 : (0 : Int) ≤ (t421 : Int) := of_decide_eq_true (by first | (with_reducible assumption) | assumption); have hcut54 := cut_from (P := Try.prog) 22 5 .i64 Try.underlying22 hi054 1 hsz54 Ao55 t435.length co55 t421 q054 q54; have hr54 := Kd.C_drop (m := (t421 : Int).toNat) (c := co55) hC54 (by omega) hroom54; obtain ⟨A54, hA54⟩ : ∃ A1, A1 = (if co55 = (t421 : Int).toNat then Ao55 else (Ao55 : Option Addr).map (·.add ((t421 : Int).toNat * 1))) := ⟨_, rfl⟩; obtain ⟨c54, hc54⟩ : ∃ c1, c1 = co55 - (t421 : Int).toNat := ⟨_, rfl⟩; have hy54 : y438.length = t435.length - (t421 : Int).toNat := (by rw [Ny438.out, List.length_drop] <;> omega); rw [show (t435).drop (t421 : Int).toNat = y438 from Ny438.out.symm] at hr54; replace hr54 : Kd.C (Kd.int .u8) _ A54 y438.length y438 := (by rw [hA54]; exact hr54); rw [← hy54, ← hA54, ← hc54] at hcut54; have HR441 := Aside0.mk hr54; have HC441 := Aside0.mk (show y438.length ≤ c54 from by rw [hy54, hc54]; exact Nat.sub_le_sub_right hroom54 _); clear hr54 hC54 hroom54 hi054 hsz54 hc54; have KY54 := Aside0.mk hy54; have KA54 := Aside0.mk hA54; clear hy54 hA54; have KL54 := Aside0.mk (show (t421 : Int).toNat ≤ t435.length from by omega); (try (have q54s := q54; simp only [List.length_drop, List.length_take] at q54s; replace q54s := eq_true q54s)); replace q54 := eq_true q54) | ((with_reducible refine gate_callee (f := 12) rfl ?_); refine goesL_ (some 87) rfl rfl Try.func12 (by kernel_rfl) rfl #[.slice A54 y438.length c54] rfl (by (try simp only [List.map_toArray, List.map_cons, List.map_nil]); first | done | rfl | (simp only [List.length_drop, List.length_take]; rfl)) ?_; (with_reducible refine (gaiterref01_GetDod.calls kj21 _ _ y438 t442 t443 t444 _ ?side1 ?side2 A43.out).mono ?_); (case side1 => repeat (first | exact (by repeat (first | (with_reducible exact HR441.out) | (with_reducible refine Kd.C_alloc ?_ _) | (with_reducible refine Kd.C_drewN ?_ _) | (with_reducible refine Kd.C_drew ?_) | exact HR441.out)) | (with_reducible refine Kd.C_alloc ?_ _) | (with_reducible refine Kd.C_drewN ?_ _) | (with_reducible refine Kd.C_drew ?_))); (case side2 => exact HC441.out); rintro e w56 ⟨rfl, hb⟩; refine ⟨_, rfl, ?_⟩; have n0_ := Aside0.mk (Kd.R_below (by (with_reducible repeat (first | apply Kd.R_alloc | apply Kd.R_drewN | apply Kd.R_drew)); exact HO437.out) hb); have n1_ := Aside0.mk (IsS91.below (by repeat (first | (with_reducible first | exact HI425.out | apply IsS91.alloc | apply IsS91.drewN | apply IsS91.drew | apply IsS91.set_1 | apply IsS91.set_2) | exact HI425.out)) hb); have n2_ := Aside0.mk (Kd.C_below (by repeat (first | (with_reducible exact HR441.out) | (with_reducible refine Kd.C_alloc ?_ _) | (with_reducible refine Kd.C_drewN ?_ _) | (with_reducible refine Kd.C_drew ?_) | exact HR441.out)) hb); have n3_ := Aside0.mk (below_step (by repeat (first | (with_reducible first | exact HB.out | apply below_alloc | apply pw_below_drewN | apply below_drew1 | refine below_set ?_ (IsS91.ge HI425.out)) | exact HB.out)) hb); clear HO437; clear HI425; clear HR441; clear HB; have HO437 := n0_; have HI425 := n1_; have HR441 := n2_; have HB := n3_; clear n0_ n1_ n2_ n3_; (try clear hb); (try clear hb2); (try clear hk); (try clear hi); have CA46 := fun W => gaiterlaw00_Code.calls t431 t445 W A46.out; try simp only [errW_none, errW_some] at CA46) | (go_at_call 17; (with_reducible refine (CA46 _).mono ?_); rintro e w' ⟨rfl, ⟨nd, rfl⟩⟩) | (go_at_call 29; (with_reducible refine (fill_Reader_Left.calls g425 t432 t433 t434 t446 t447 t448 t449 w _ ?side1 ?side2 A49.out).mono ?_); (case side1 => repeat (first | (with_reducible first | exact HI425.out | apply IsS91.alloc | apply IsS91.drewN | apply IsS91.drew | apply IsS91.set_1 | apply IsS91.set_2) | exact HI425.out)); (case side2 => repeat (first | (with_reducible first | exact HB.out | apply below_alloc | apply pw_below_drewN | apply below_drew1 | refine below_set ?_ (IsS91.ge HI425.out)) | exact HB.out)); rintro e w57 ⟨rfl, hi, hb, hk⟩; have n0_ := Aside0.mk (Kd.R_mono (Kd.R_keep (IsS91.apart (show IsS91 w _ g425 t432 t433 t434 from by repeat (first | (with_reducible first | exact HI425.out | apply IsS91.alloc | apply IsS91.drewN | apply IsS91.drew | apply IsS91.set_1 | apply IsS91.set_2) | exact HI425.out)) (by (with_reducible repeat (first | apply Kd.R_alloc | apply Kd.R_drewN | apply Kd.R_drew)); exact HO437.out) (by decide)) hk (fun _ h => h.2)) (fun _ h => h.1)); have n1_ := Aside0.mk (hb); have n2_ := Aside0.mk (hi); clear HO437; clear HB; clear HI425; have HO437 := n0_; have HB := n1_; have HI425 := n2_; clear n0_ n1_ n2_; (try clear hb); (try clear hb2); (try clear hk); (try clear hi)))
                              go_ret
                              exact ⟨by first | rfl | (simp [errW_none, errW_some] <;> rfl) | (simp [*, errW_none, errW_some] <;> rfl), by repeat (first | (with_reducible first | exact HB.out | apply below_alloc | apply pw_below_drewN | apply below_drew1 | refine below_set ?_ (IsS91.ge HI425.out)) | exact HB.out)⟩
                            · rw [if_neg c48] at H
                              have c48b0 : (t444 == 0) = false := beq_eq_false_iff_ne.mpr c48
                              have c48b1 : (t444 != 0) = true := bne_iff_ne.mpr c48
                              obtain rfl := Option.some.inj H
                              go_wp2_with (first | ((with_reducible refine gate_callee (f := 20) rfl ?_); refine goesL_ (some 70) rfl rfl Try.func20 (by kernel_rfl) rfl #[.int .i64 a2, .int .i64 (wrap64 ((wrap64 (8 * (l1.length : Int))) + 1))] rfl (by (try simp only [List.map_toArray, List.map_cons, List.map_nil]); first | done | rfl | (simp only [List.length_drop, List.length_take]; rfl)) ?_; (with_reducible refine (gaiterlaw00_Pick.calls a2 (wrap64 ((wrap64 (8 * (l1.length : Int))) + 1)) t421 _ A35.out).mono ?_); rintro e w' ⟨rfl, ⟨nd, rfl⟩⟩; refine ⟨_, rfl, ?_⟩) | ((with_reducible refine gate_callee (f := 26) rfl ?_); refine goesL_ (some 72) rfl rfl Try.func26 (by kernel_rfl) rfl #[.slice A1 l1.length c1] rfl (by (try simp only [List.map_toArray, List.map_cons, List.map_nil]); first | done | rfl | (simp only [List.length_drop, List.length_take]; rfl)) ?_; (with_reducible refine (fill_New.calls _ _ l1 t422 t423 t424 w _ ?side1 ?side2 ?side3 A36.out).mono ?_); (case side1 => repeat (first | (with_reducible first | exact HB.out | apply below_alloc | apply pw_below_drewN | apply below_drew1) | exact HB.out)); (case side2 => exact HR1.out); (case side3 => exact HC1.out); rintro e w58 ⟨g425, rfl, hi, hb, hb2⟩; refine ⟨_, rfl, ?_⟩; have n0_ := Aside0.mk (hb); have n1_ := Aside0.mk (hi); clear HB; have HB := n0_; have HI425 := n1_; clear n0_ n1_; (try clear hb); (try clear hb2); (try clear hk); (try clear hi)) | ((with_reducible refine gate_callee (f := 27) rfl ?_); refine goesL_ (some 75) rfl rfl Try.func27 (by kernel_rfl) rfl #[.pointer (some ⟨g425, 0, none⟩), .int .i64 t421] rfl (by (try simp only [List.map_toArray, List.map_cons, List.map_nil]); first | done | rfl | (simp only [List.length_drop, List.length_take]; rfl)) ?_; (with_reducible refine (fill_Reader_Skip.calls kj21 g425 t422 t423 t424 t421 true t427 t428 t429 w _ ?side1 ?side2 A37.out).mono ?_); (case side1 => repeat (first | (with_reducible first | exact HI425.out | apply IsS91.alloc | apply IsS91.drewN | apply IsS91.drew | apply IsS91.set_1 | apply IsS91.set_2) | exact HI425.out)); (case side2 => repeat (first | (with_reducible first | exact HB.out | apply below_alloc | apply pw_below_drewN | apply below_drew1 | refine below_set ?_ (IsS91.ge HI425.out)) | exact HB.out)); rintro e w59 ⟨rfl, hi, hb, hk⟩; refine ⟨_, rfl, ?_⟩; have n0_ := Aside0.mk (hb); have n1_ := Aside0.mk (hi); clear HB; clear HI425; have HB := n0_; have HI425 := n1_; clear n0_ n1_; (try clear hb); (try clear hb2); (try clear hk); (try clear hi)) | ((with_reducible refine gate_callee (f := 28) rfl ?_); refine goesL_ (some 79) rfl rfl Try.func28 (by kernel_rfl) rfl #[.pointer (some ⟨g425, 0, none⟩)] rfl (by (try simp only [List.map_toArray, List.map_cons, List.map_nil]); first | done | rfl | (simp only [List.length_drop, List.length_take]; rfl)) ?_; (with_reducible refine (tab_Get.calls kj21 g425 t427 t428 t429 t430 t431 t432 t433 t434 w _ ?side1 ?side2 A39.out).mono ?_); (case side1 => repeat (first | (with_reducible first | exact HI425.out | apply IsS91.alloc | apply IsS91.drewN | apply IsS91.drew | apply IsS91.set_1 | apply IsS91.set_2) | exact HI425.out)); (case side2 => repeat (first | (with_reducible first | exact HB.out | apply below_alloc | apply pw_below_drewN | apply below_drew1 | refine below_set ?_ (IsS91.ge HI425.out)) | exact HB.out)); rintro e w60 ⟨rfl, hi, hb, hk⟩; refine ⟨_, rfl, ?_⟩; have n0_ := Aside0.mk (hb); have n1_ := Aside0.mk (hi); clear HB; clear HI425; have HB := n0_; have HI425 := n1_; clear n0_ n1_; (try clear hb); (try clear hb2); (try clear hk); (try clear hi); (try simp only [errW_none, errW_some])) | ((with_reducible refine gate_callee (f := 22) rfl ?_); refine goesL_ (some 84) rfl rfl Try.func22 (by kernel_rfl) rfl #[.slice A1 l1.length c1] rfl (by (try simp only [List.map_toArray, List.map_cons, List.map_nil]); first | done | rfl | (simp only [List.length_drop, List.length_take]; rfl)) ?_; (with_reducible refine (gaiterref01_Flat.calls kj21 _ _ l1 t435 _ ?side1 ?side2 A40.out).mono ?_); (case side1 => repeat (first | exact (Kd.C_below HR1.out HB.out) | (with_reducible refine Kd.C_alloc ?_ _) | (with_reducible refine Kd.C_drewN ?_ _) | (with_reducible refine Kd.C_drew ?_))); (case side2 => exact HC1.out); rintro e w61 ⟨v436, rfl, ho0, hb⟩; refine ⟨_, rfl, ?_⟩; have n0_ := Aside0.mk (Kd.R_lower ho0 (below_size (by repeat (first | (with_reducible first | exact HB.out | apply below_alloc | apply pw_below_drewN | apply below_drew1 | refine below_set ?_ (IsS91.ge HI425.out)) | exact HB.out)))); have n1_ := Aside0.mk (IsS91.below (by repeat (first | (with_reducible first | exact HI425.out | apply IsS91.alloc | apply IsS91.drewN | apply IsS91.drew | apply IsS91.set_1 | apply IsS91.set_2) | exact HI425.out)) hb); have n2_ := Aside0.mk (below_step (by repeat (first | (with_reducible first | exact HB.out | apply below_alloc | apply pw_below_drewN | apply below_drew1 | refine below_set ?_ (IsS91.ge HI425.out)) | exact HB.out)) hb); clear HI425; clear HB; have HO437 := n0_; have HI425 := n1_; have HB := n2_; clear n0_ n1_ n2_; (try clear hb); (try clear hb2); (try clear hk); (try clear hi); (try clear ho0); obtain ⟨Ao63, co63, eo63⟩ := Kd.R_slice HO437.out; subst eo63; have q62 : (t421 : Int) ≤ ((t435.length : Int) : Int) := of_decide_eq_true (by first | (with_reducible assumption) | assumption); obtain ⟨i062, hi062, _, hsz62, _⟩ := info_parts info5; have hroom62 : t435.length ≤ co63 := (Kd.R_reads' HO437.out).2.1; have hC62 : Kd.C (Kd.int .u8) _ Ao63 t435.length t435 := (Kd.R_reads' HO437.out).2.2; have q062 : (0 : Int) ≤ (t421 : Int) := of_decide_eq_true (by first | (with_reducible assumption) | assumption); have hcut62 := cut_from (P := Try.prog) 22 5 .i64 Try.underlying22 hi062 1 hsz62 Ao63 t435.length co63 t421 q062 q62; have hr62 := Kd.C_drop (m := (t421 : Int).toNat) (c := co63) hC62 (by omega) hroom62; obtain ⟨A62, hA62⟩ : ∃ A1, A1 = (if co63 = (t421 : Int).toNat then Ao63 else (Ao63 : Option Addr).map (·.add ((t421 : Int).toNat * 1))) := ⟨_, rfl⟩; obtain ⟨c62, hc62⟩ : ∃ c1, c1 = co63 - (t421 : Int).toNat := ⟨_, rfl⟩; have hy62 : y438.length = t435.length - (t421 : Int).toNat := (by rw [Ny438.out, List.length_drop] <;> omega); rw [show (t435).drop (t421 : Int).toNat = y438 from Ny438.out.symm] at hr62; replace hr62 : Kd.C (Kd.int .u8) _ A62 y438.length y438 := (by rw [hA62]; exact hr62); rw [← hy62, ← hA62, ← hc62] at hcut62; have HR441 := Aside0.mk hr62; have HC441 := Aside0.mk (show y438.length ≤ c62 from by rw [hy62, hc62]; exact Nat.sub_le_sub_right hroom62 _); clear hr62 hC62 hroom62 hi062 hsz62 hc62; have KY62 := Aside0.mk hy62; have KA62 := Aside0.mk hA62; clear hy62 hA62; have KL62 := Aside0.mk (show (t421 : Int).toNat ≤ t435.length from by omega); (try (have q62s := q62; simp only [List.length_drop, List.length_take] at q62s; replace q62s := eq_true q62s)); replace q62 := eq_true q62) | ((with_reducible refine gate_callee (f := 12) rfl ?_); refine goesL_ (some 87) rfl rfl Try.func12 (by kernel_rfl) rfl #[.slice A62 y438.length c62] rfl (by (try simp only [List.map_toArray, List.map_cons, List.map_nil]); first | done | rfl | (simp only [List.length_drop, List.length_take]; rfl)) ?_; (with_reducible refine (gaiterref01_GetDod.calls kj21 _ _ y438 t442 t443 t444 _ ?side1 ?side2 A43.out).mono ?_); (case side1 => repeat (first | exact (by repeat (first | (with_reducible exact HR441.out) | (with_reducible refine Kd.C_alloc ?_ _) | (with_reducible refine Kd.C_drewN ?_ _) | (with_reducible refine Kd.C_drew ?_) | exact HR441.out)) | (with_reducible refine Kd.C_alloc ?_ _) | (with_reducible refine Kd.C_drewN ?_ _) | (with_reducible refine Kd.C_drew ?_))); (case side2 => exact HC441.out); rintro e w64 ⟨rfl, hb⟩; refine ⟨_, rfl, ?_⟩; have n0_ := Aside0.mk (Kd.R_below (by (with_reducible repeat (first | apply Kd.R_alloc | apply Kd.R_drewN | apply Kd.R_drew)); exact HO437.out) hb); have n1_ := Aside0.mk (IsS91.below (by repeat (first | (with_reducible first | exact HI425.out | apply IsS91.alloc | apply IsS91.drewN | apply IsS91.drew | apply IsS91.set_1 | apply IsS91.set_2) | exact HI425.out)) hb); have n2_ := Aside0.mk (Kd.C_below (by repeat (first | (with_reducible exact HR441.out) | (with_reducible refine Kd.C_alloc ?_ _) | (with_reducible refine Kd.C_drewN ?_ _) | (with_reducible refine Kd.C_drew ?_) | exact HR441.out)) hb); have n3_ := Aside0.mk (below_step (by repeat (first | (with_reducible first | exact HB.out | apply below_alloc | apply pw_below_drewN | apply below_drew1 | refine below_set ?_ (IsS91.ge HI425.out)) | exact HB.out)) hb); clear HO437; clear HI425; clear HR441; clear HB; have HO437 := n0_; have HI425 := n1_; have HR441 := n2_; have HB := n3_; clear n0_ n1_ n2_ n3_; (try clear hb); (try clear hb2); (try clear hk); (try clear hi); have CA46 := fun W => gaiterlaw00_Code.calls t431 t445 W A46.out; try simp only [errW_none, errW_some] at CA46) | (go_at_call 17; (with_reducible refine (CA46 _).mono ?_); rintro e w' ⟨rfl, ⟨nd, rfl⟩⟩))
                              go_ret
                              exact ⟨by first | rfl | (simp [errW_none, errW_some] <;> rfl) | (simp [*, errW_none, errW_some] <;> rfl), by repeat (first | (with_reducible first | exact HB.out | apply below_alloc | apply pw_below_drewN | apply below_drew1 | refine below_set ?_ (IsS91.ge HI425.out)) | exact HB.out)⟩
                          · rw [if_neg c47] at H
                            have c47b0 : (t445 == t444) = false := beq_eq_false_iff_ne.mpr c47
                            have c47b1 : (t445 != t444) = true := bne_iff_ne.mpr c47
                            obtain rfl := Option.some.inj H
                            go_wp2_with (first | ((with_reducible refine gate_callee (f := 20) rfl ?_); refine goesL_ (some 70) rfl rfl Try.func20 (by kernel_rfl) rfl #[.int .i64 a2, .int .i64 (wrap64 ((wrap64 (8 * (l1.length : Int))) + 1))] rfl (by (try simp only [List.map_toArray, List.map_cons, List.map_nil]); first | done | rfl | (simp only [List.length_drop, List.length_take]; rfl)) ?_; (with_reducible refine (gaiterlaw00_Pick.calls a2 (wrap64 ((wrap64 (8 * (l1.length : Int))) + 1)) t421 _ A35.out).mono ?_); rintro e w' ⟨rfl, ⟨nd, rfl⟩⟩; refine ⟨_, rfl, ?_⟩) | ((with_reducible refine gate_callee (f := 26) rfl ?_); refine goesL_ (some 72) rfl rfl Try.func26 (by kernel_rfl) rfl #[.slice A1 l1.length c1] rfl (by (try simp only [List.map_toArray, List.map_cons, List.map_nil]); first | done | rfl | (simp only [List.length_drop, List.length_take]; rfl)) ?_; (with_reducible refine (fill_New.calls _ _ l1 t422 t423 t424 w _ ?side1 ?side2 ?side3 A36.out).mono ?_); (case side1 => repeat (first | (with_reducible first | exact HB.out | apply below_alloc | apply pw_below_drewN | apply below_drew1) | exact HB.out)); (case side2 => exact HR1.out); (case side3 => exact HC1.out); rintro e w65 ⟨g425, rfl, hi, hb, hb2⟩; refine ⟨_, rfl, ?_⟩; have n0_ := Aside0.mk (hb); have n1_ := Aside0.mk (hi); clear HB; have HB := n0_; have HI425 := n1_; clear n0_ n1_; (try clear hb); (try clear hb2); (try clear hk); (try clear hi)) | ((with_reducible refine gate_callee (f := 27) rfl ?_); refine goesL_ (some 75) rfl rfl Try.func27 (by kernel_rfl) rfl #[.pointer (some ⟨g425, 0, none⟩), .int .i64 t421] rfl (by (try simp only [List.map_toArray, List.map_cons, List.map_nil]); first | done | rfl | (simp only [List.length_drop, List.length_take]; rfl)) ?_; (with_reducible refine (fill_Reader_Skip.calls kj21 g425 t422 t423 t424 t421 true t427 t428 t429 w _ ?side1 ?side2 A37.out).mono ?_); (case side1 => repeat (first | (with_reducible first | exact HI425.out | apply IsS91.alloc | apply IsS91.drewN | apply IsS91.drew | apply IsS91.set_1 | apply IsS91.set_2) | exact HI425.out)); (case side2 => repeat (first | (with_reducible first | exact HB.out | apply below_alloc | apply pw_below_drewN | apply below_drew1 | refine below_set ?_ (IsS91.ge HI425.out)) | exact HB.out)); rintro e w66 ⟨rfl, hi, hb, hk⟩; refine ⟨_, rfl, ?_⟩; have n0_ := Aside0.mk (hb); have n1_ := Aside0.mk (hi); clear HB; clear HI425; have HB := n0_; have HI425 := n1_; clear n0_ n1_; (try clear hb); (try clear hb2); (try clear hk); (try clear hi)) | ((with_reducible refine gate_callee (f := 28) rfl ?_); refine goesL_ (some 79) rfl rfl Try.func28 (by kernel_rfl) rfl #[.pointer (some ⟨g425, 0, none⟩)] rfl (by (try simp only [List.map_toArray, List.map_cons, List.map_nil]); first | done | rfl | (simp only [List.length_drop, List.length_take]; rfl)) ?_; (with_reducible refine (tab_Get.calls kj21 g425 t427 t428 t429 t430 t431 t432 t433 t434 w _ ?side1 ?side2 A39.out).mono ?_); (case side1 => repeat (first | (with_reducible first | exact HI425.out | apply IsS91.alloc | apply IsS91.drewN | apply IsS91.drew | apply IsS91.set_1 | apply IsS91.set_2) | exact HI425.out)); (case side2 => repeat (first | (with_reducible first | exact HB.out | apply below_alloc | apply pw_below_drewN | apply below_drew1 | refine below_set ?_ (IsS91.ge HI425.out)) | exact HB.out)); rintro e w67 ⟨rfl, hi, hb, hk⟩; refine ⟨_, rfl, ?_⟩; have n0_ := Aside0.mk (hb); have n1_ := Aside0.mk (hi); clear HB; clear HI425; have HB := n0_; have HI425 := n1_; clear n0_ n1_; (try clear hb); (try clear hb2); (try clear hk); (try clear hi); (try simp only [errW_none, errW_some])) | ((with_reducible refine gate_callee (f := 22) rfl ?_); refine goesL_ (some 84) rfl rfl Try.func22 (by kernel_rfl) rfl #[.slice A1 l1.length c1] rfl (by (try simp only [List.map_toArray, List.map_cons, List.map_nil]); first | done | rfl | (simp only [List.length_drop, List.length_take]; rfl)) ?_; (with_reducible refine (gaiterref01_Flat.calls kj21 _ _ l1 t435 _ ?side1 ?side2 A40.out).mono ?_); (case side1 => repeat (first | exact (Kd.C_below HR1.out HB.out) | (with_reducible refine Kd.C_alloc ?_ _) | (with_reducible refine Kd.C_drewN ?_ _) | (with_reducible refine Kd.C_drew ?_))); (case side2 => exact HC1.out); rintro e w68 ⟨v436, rfl, ho0, hb⟩; refine ⟨_, rfl, ?_⟩; have n0_ := Aside0.mk (Kd.R_lower ho0 (below_size (by repeat (first | (with_reducible first | exact HB.out | apply below_alloc | apply pw_below_drewN | apply below_drew1 | refine below_set ?_ (IsS91.ge HI425.out)) | exact HB.out)))); have n1_ := Aside0.mk (IsS91.below (by repeat (first | (with_reducible first | exact HI425.out | apply IsS91.alloc | apply IsS91.drewN | apply IsS91.drew | apply IsS91.set_1 | apply IsS91.set_2) | exact HI425.out)) hb); have n2_ := Aside0.mk (below_step (by repeat (first | (with_reducible first | exact HB.out | apply below_alloc | apply pw_below_drewN | apply below_drew1 | refine below_set ?_ (IsS91.ge HI425.out)) | exact HB.out)) hb); clear HI425; clear HB; have HO437 := n0_; have HI425 := n1_; have HB := n2_; clear n0_ n1_ n2_; (try clear hb); (try clear hb2); (try clear hk); (try clear hi); (try clear ho0); obtain ⟨Ao70, co70, eo70⟩ := Kd.R_slice HO437.out; subst eo70; have q69 : (t421 : Int) ≤ ((t435.length : Int) : Int) := of_decide_eq_true (by first | (with_reducible assumption) | assumption); obtain ⟨i069, hi069, _, hsz69, _⟩ := info_parts info5; have hroom69 : t435.length ≤ co70 := (Kd.R_reads' HO437.out).2.1; have hC69 : Kd.C (Kd.int .u8) _ Ao70 t435.length t435 := (Kd.R_reads' HO437.out).2.2; have q069 : (0 : Int) ≤ (t421 : Int) := of_decide_eq_true (by first | (with_reducible assumption) | assumption); have hcut69 := cut_from (P := Try.prog) 22 5 .i64 Try.underlying22 hi069 1 hsz69 Ao70 t435.length co70 t421 q069 q69; have hr69 := Kd.C_drop (m := (t421 : Int).toNat) (c := co70) hC69 (by omega) hroom69; obtain ⟨A69, hA69⟩ : ∃ A1, A1 = (if co70 = (t421 : Int).toNat then Ao70 else (Ao70 : Option Addr).map (·.add ((t421 : Int).toNat * 1))) := ⟨_, rfl⟩; obtain ⟨c69, hc69⟩ : ∃ c1, c1 = co70 - (t421 : Int).toNat := ⟨_, rfl⟩; have hy69 : y438.length = t435.length - (t421 : Int).toNat := (by rw [Ny438.out, List.length_drop] <;> omega); rw [show (t435).drop (t421 : Int).toNat = y438 from Ny438.out.symm] at hr69; replace hr69 : Kd.C (Kd.int .u8) _ A69 y438.length y438 := (by rw [hA69]; exact hr69); rw [← hy69, ← hA69, ← hc69] at hcut69; have HR441 := Aside0.mk hr69; have HC441 := Aside0.mk (show y438.length ≤ c69 from by rw [hy69, hc69]; exact Nat.sub_le_sub_right hroom69 _); clear hr69 hC69 hroom69 hi069 hsz69 hc69; have KY69 := Aside0.mk hy69; have KA69 := Aside0.mk hA69; clear hy69 hA69; have KL69 := Aside0.mk (show (t421 : Int).toNat ≤ t435.length from by omega); (try (have q69s := q69; simp only [List.length_drop, List.length_take] at q69s; replace q69s := eq_true q69s)); replace q69 := eq_true q69) | ((with_reducible refine gate_callee (f := 12) rfl ?_); refine goesL_ (some 87) rfl rfl Try.func12 (by kernel_rfl) rfl #[.slice A69 y438.length c69] rfl (by (try simp only [List.map_toArray, List.map_cons, List.map_nil]); first | done | rfl | (simp only [List.length_drop, List.length_take]; rfl)) ?_; (with_reducible refine (gaiterref01_GetDod.calls kj21 _ _ y438 t442 t443 t444 _ ?side1 ?side2 A43.out).mono ?_); (case side1 => repeat (first | exact (by repeat (first | (with_reducible exact HR441.out) | (with_reducible refine Kd.C_alloc ?_ _) | (with_reducible refine Kd.C_drewN ?_ _) | (with_reducible refine Kd.C_drew ?_) | exact HR441.out)) | (with_reducible refine Kd.C_alloc ?_ _) | (with_reducible refine Kd.C_drewN ?_ _) | (with_reducible refine Kd.C_drew ?_))); (case side2 => exact HC441.out); rintro e w71 ⟨rfl, hb⟩; refine ⟨_, rfl, ?_⟩; have n0_ := Aside0.mk (Kd.R_below (by (with_reducible repeat (first | apply Kd.R_alloc | apply Kd.R_drewN | apply Kd.R_drew)); exact HO437.out) hb); have n1_ := Aside0.mk (IsS91.below (by repeat (first | (with_reducible first | exact HI425.out | apply IsS91.alloc | apply IsS91.drewN | apply IsS91.drew | apply IsS91.set_1 | apply IsS91.set_2) | exact HI425.out)) hb); have n2_ := Aside0.mk (Kd.C_below (by repeat (first | (with_reducible exact HR441.out) | (with_reducible refine Kd.C_alloc ?_ _) | (with_reducible refine Kd.C_drewN ?_ _) | (with_reducible refine Kd.C_drew ?_) | exact HR441.out)) hb); have n3_ := Aside0.mk (below_step (by repeat (first | (with_reducible first | exact HB.out | apply below_alloc | apply pw_below_drewN | apply below_drew1 | refine below_set ?_ (IsS91.ge HI425.out)) | exact HB.out)) hb); clear HO437; clear HI425; clear HR441; clear HB; have HO437 := n0_; have HI425 := n1_; have HR441 := n2_; have HB := n3_; clear n0_ n1_ n2_ n3_; (try clear hb); (try clear hb2); (try clear hk); (try clear hi); have CA46 := fun W => gaiterlaw00_Code.calls t431 t445 W A46.out; try simp only [errW_none, errW_some] at CA46) | (go_at_call 17; (with_reducible refine (CA46 _).mono ?_); rintro e w' ⟨rfl, ⟨nd, rfl⟩⟩))
                            go_ret
                            exact ⟨by first | rfl | (simp [errW_none, errW_some] <;> rfl) | (simp [*, errW_none, errW_some] <;> rfl), by repeat (first | (with_reducible first | exact HB.out | apply below_alloc | apply pw_below_drewN | apply below_drew1 | refine below_set ?_ (IsS91.ge HI425.out)) | exact HB.out)⟩
                        · rw [if_neg c45] at H
                          have c45b0 : (t430 == t442) = false := beq_eq_false_iff_ne.mpr c45
                          have c45b1 : (t430 != t442) = true := bne_iff_ne.mpr c45
                          obtain rfl := Option.some.inj H
                          go_wp2_with (first | ((with_reducible refine gate_callee (f := 20) rfl ?_); refine goesL_ (some 70) rfl rfl Try.func20 (by kernel_rfl) rfl #[.int .i64 a2, .int .i64 (wrap64 ((wrap64 (8 * (l1.length : Int))) + 1))] rfl (by (try simp only [List.map_toArray, List.map_cons, List.map_nil]); first | done | rfl | (simp only [List.length_drop, List.length_take]; rfl)) ?_; (with_reducible refine (gaiterlaw00_Pick.calls a2 (wrap64 ((wrap64 (8 * (l1.length : Int))) + 1)) t421 _ A35.out).mono ?_); rintro e w' ⟨rfl, ⟨nd, rfl⟩⟩; refine ⟨_, rfl, ?_⟩) | ((with_reducible refine gate_callee (f := 26) rfl ?_); refine goesL_ (some 72) rfl rfl Try.func26 (by kernel_rfl) rfl #[.slice A1 l1.length c1] rfl (by (try simp only [List.map_toArray, List.map_cons, List.map_nil]); first | done | rfl | (simp only [List.length_drop, List.length_take]; rfl)) ?_; (with_reducible refine (fill_New.calls _ _ l1 t422 t423 t424 w _ ?side1 ?side2 ?side3 A36.out).mono ?_); (case side1 => repeat (first | (with_reducible first | exact HB.out | apply below_alloc | apply pw_below_drewN | apply below_drew1) | exact HB.out)); (case side2 => exact HR1.out); (case side3 => exact HC1.out); rintro e w72 ⟨g425, rfl, hi, hb, hb2⟩; refine ⟨_, rfl, ?_⟩; have n0_ := Aside0.mk (hb); have n1_ := Aside0.mk (hi); clear HB; have HB := n0_; have HI425 := n1_; clear n0_ n1_; (try clear hb); (try clear hb2); (try clear hk); (try clear hi)) | ((with_reducible refine gate_callee (f := 27) rfl ?_); refine goesL_ (some 75) rfl rfl Try.func27 (by kernel_rfl) rfl #[.pointer (some ⟨g425, 0, none⟩), .int .i64 t421] rfl (by (try simp only [List.map_toArray, List.map_cons, List.map_nil]); first | done | rfl | (simp only [List.length_drop, List.length_take]; rfl)) ?_; (with_reducible refine (fill_Reader_Skip.calls kj21 g425 t422 t423 t424 t421 true t427 t428 t429 w _ ?side1 ?side2 A37.out).mono ?_); (case side1 => repeat (first | (with_reducible first | exact HI425.out | apply IsS91.alloc | apply IsS91.drewN | apply IsS91.drew | apply IsS91.set_1 | apply IsS91.set_2) | exact HI425.out)); (case side2 => repeat (first | (with_reducible first | exact HB.out | apply below_alloc | apply pw_below_drewN | apply below_drew1 | refine below_set ?_ (IsS91.ge HI425.out)) | exact HB.out)); rintro e w73 ⟨rfl, hi, hb, hk⟩; refine ⟨_, rfl, ?_⟩; have n0_ := Aside0.mk (hb); have n1_ := Aside0.mk (hi); clear HB; clear HI425; have HB := n0_; have HI425 := n1_; clear n0_ n1_; (try clear hb); (try clear hb2); (try clear hk); (try clear hi)) | ((with_reducible refine gate_callee (f := 28) rfl ?_); refine goesL_ (some 79) rfl rfl Try.func28 (by kernel_rfl) rfl #[.pointer (some ⟨g425, 0, none⟩)] rfl (by (try simp only [List.map_toArray, List.map_cons, List.map_nil]); first | done | rfl | (simp only [List.length_drop, List.length_take]; rfl)) ?_; (with_reducible refine (tab_Get.calls kj21 g425 t427 t428 t429 t430 t431 t432 t433 t434 w _ ?side1 ?side2 A39.out).mono ?_); (case side1 => repeat (first | (with_reducible first | exact HI425.out | apply IsS91.alloc | apply IsS91.drewN | apply IsS91.drew | apply IsS91.set_1 | apply IsS91.set_2) | exact HI425.out)); (case side2 => repeat (first | (with_reducible first | exact HB.out | apply below_alloc | apply pw_below_drewN | apply below_drew1 | refine below_set ?_ (IsS91.ge HI425.out)) | exact HB.out)); rintro e w74 ⟨rfl, hi, hb, hk⟩; refine ⟨_, rfl, ?_⟩; have n0_ := Aside0.mk (hb); have n1_ := Aside0.mk (hi); clear HB; clear HI425; have HB := n0_; have HI425 := n1_; clear n0_ n1_; (try clear hb); (try clear hb2); (try clear hk); (try clear hi); (try simp only [errW_none, errW_some])) | ((with_reducible refine gate_callee (f := 22) rfl ?_); refine goesL_ (some 84) rfl rfl Try.func22 (by kernel_rfl) rfl #[.slice A1 l1.length c1] rfl (by (try simp only [List.map_toArray, List.map_cons, List.map_nil]); first | done | rfl | (simp only [List.length_drop, List.length_take]; rfl)) ?_; (with_reducible refine (gaiterref01_Flat.calls kj21 _ _ l1 t435 _ ?side1 ?side2 A40.out).mono ?_); (case side1 => repeat (first | exact (Kd.C_below HR1.out HB.out) | (with_reducible refine Kd.C_alloc ?_ _) | (with_reducible refine Kd.C_drewN ?_ _) | (with_reducible refine Kd.C_drew ?_))); (case side2 => exact HC1.out); rintro e w75 ⟨v436, rfl, ho0, hb⟩; refine ⟨_, rfl, ?_⟩; have n0_ := Aside0.mk (Kd.R_lower ho0 (below_size (by repeat (first | (with_reducible first | exact HB.out | apply below_alloc | apply pw_below_drewN | apply below_drew1 | refine below_set ?_ (IsS91.ge HI425.out)) | exact HB.out)))); have n1_ := Aside0.mk (IsS91.below (by repeat (first | (with_reducible first | exact HI425.out | apply IsS91.alloc | apply IsS91.drewN | apply IsS91.drew | apply IsS91.set_1 | apply IsS91.set_2) | exact HI425.out)) hb); have n2_ := Aside0.mk (below_step (by repeat (first | (with_reducible first | exact HB.out | apply below_alloc | apply pw_below_drewN | apply below_drew1 | refine below_set ?_ (IsS91.ge HI425.out)) | exact HB.out)) hb); clear HI425; clear HB; have HO437 := n0_; have HI425 := n1_; have HB := n2_; clear n0_ n1_ n2_; (try clear hb); (try clear hb2); (try clear hk); (try clear hi); (try clear ho0); obtain ⟨Ao77, co77, eo77⟩ := Kd.R_slice HO437.out; subst eo77; have q76 : (t421 : Int) ≤ ((t435.length : Int) : Int) := of_decide_eq_true (by first | (with_reducible assumption) | assumption); obtain ⟨i076, hi076, _, hsz76, _⟩ := info_parts info5; have hroom76 : t435.length ≤ co77 := (Kd.R_reads' HO437.out).2.1; have hC76 : Kd.C (Kd.int .u8) _ Ao77 t435.length t435 := (Kd.R_reads' HO437.out).2.2; have q076 : (0 : Int) ≤ (t421 : Int) := of_decide_eq_true (by first | (with_reducible assumption) | assumption); have hcut76 := cut_from (P := Try.prog) 22 5 .i64 Try.underlying22 hi076 1 hsz76 Ao77 t435.length co77 t421 q076 q76; have hr76 := Kd.C_drop (m := (t421 : Int).toNat) (c := co77) hC76 (by omega) hroom76; obtain ⟨A76, hA76⟩ : ∃ A1, A1 = (if co77 = (t421 : Int).toNat then Ao77 else (Ao77 : Option Addr).map (·.add ((t421 : Int).toNat * 1))) := ⟨_, rfl⟩; obtain ⟨c76, hc76⟩ : ∃ c1, c1 = co77 - (t421 : Int).toNat := ⟨_, rfl⟩; have hy76 : y438.length = t435.length - (t421 : Int).toNat := (by rw [Ny438.out, List.length_drop] <;> omega); rw [show (t435).drop (t421 : Int).toNat = y438 from Ny438.out.symm] at hr76; replace hr76 : Kd.C (Kd.int .u8) _ A76 y438.length y438 := (by rw [hA76]; exact hr76); rw [← hy76, ← hA76, ← hc76] at hcut76; have HR441 := Aside0.mk hr76; have HC441 := Aside0.mk (show y438.length ≤ c76 from by rw [hy76, hc76]; exact Nat.sub_le_sub_right hroom76 _); clear hr76 hC76 hroom76 hi076 hsz76 hc76; have KY76 := Aside0.mk hy76; have KA76 := Aside0.mk hA76; clear hy76 hA76; have KL76 := Aside0.mk (show (t421 : Int).toNat ≤ t435.length from by omega); (try (have q76s := q76; simp only [List.length_drop, List.length_take] at q76s; replace q76s := eq_true q76s)); replace q76 := eq_true q76) | ((with_reducible refine gate_callee (f := 12) rfl ?_); refine goesL_ (some 87) rfl rfl Try.func12 (by kernel_rfl) rfl #[.slice A76 y438.length c76] rfl (by (try simp only [List.map_toArray, List.map_cons, List.map_nil]); first | done | rfl | (simp only [List.length_drop, List.length_take]; rfl)) ?_; (with_reducible refine (gaiterref01_GetDod.calls kj21 _ _ y438 t442 t443 t444 _ ?side1 ?side2 A43.out).mono ?_); (case side1 => repeat (first | exact (by repeat (first | (with_reducible exact HR441.out) | (with_reducible refine Kd.C_alloc ?_ _) | (with_reducible refine Kd.C_drewN ?_ _) | (with_reducible refine Kd.C_drew ?_) | exact HR441.out)) | (with_reducible refine Kd.C_alloc ?_ _) | (with_reducible refine Kd.C_drewN ?_ _) | (with_reducible refine Kd.C_drew ?_))); (case side2 => exact HC441.out); rintro e w78 ⟨rfl, hb⟩; refine ⟨_, rfl, ?_⟩; have n0_ := Aside0.mk (Kd.R_below (by (with_reducible repeat (first | apply Kd.R_alloc | apply Kd.R_drewN | apply Kd.R_drew)); exact HO437.out) hb); have n1_ := Aside0.mk (IsS91.below (by repeat (first | (with_reducible first | exact HI425.out | apply IsS91.alloc | apply IsS91.drewN | apply IsS91.drew | apply IsS91.set_1 | apply IsS91.set_2) | exact HI425.out)) hb); have n2_ := Aside0.mk (Kd.C_below (by repeat (first | (with_reducible exact HR441.out) | (with_reducible refine Kd.C_alloc ?_ _) | (with_reducible refine Kd.C_drewN ?_ _) | (with_reducible refine Kd.C_drew ?_) | exact HR441.out)) hb); have n3_ := Aside0.mk (below_step (by repeat (first | (with_reducible first | exact HB.out | apply below_alloc | apply pw_below_drewN | apply below_drew1 | refine below_set ?_ (IsS91.ge HI425.out)) | exact HB.out)) hb); clear HO437; clear HI425; clear HR441; clear HB; have HO437 := n0_; have HI425 := n1_; have HR441 := n2_; have HB := n3_; clear n0_ n1_ n2_ n3_; (try clear hb); (try clear hb2); (try clear hk); (try clear hi)))
                          go_ret
                          exact ⟨by first | rfl | (simp [errW_none, errW_some] <;> rfl) | (simp [*, errW_none, errW_some] <;> rfl), by repeat (first | (with_reducible first | exact HB.out | apply below_alloc | apply pw_below_drewN | apply below_drew1 | refine below_set ?_ (IsS91.ge HI425.out)) | exact HB.out)⟩
                      · replace c44 := Bool.eq_false_iff.mpr c44
                        subst c44
                        have H1 : (some false) = some r := by rw [if_neg (show ¬ (false = true) by decide)] at H; exact H
                        clear H
                        have H := H1
                        clear H1
                        obtain rfl := Option.some.inj H
                        go_wp2_with (first | ((with_reducible refine gate_callee (f := 20) rfl ?_); refine goesL_ (some 70) rfl rfl Try.func20 (by kernel_rfl) rfl #[.int .i64 a2, .int .i64 (wrap64 ((wrap64 (8 * (l1.length : Int))) + 1))] rfl (by (try simp only [List.map_toArray, List.map_cons, List.map_nil]); first | done | rfl | (simp only [List.length_drop, List.length_take]; rfl)) ?_; (with_reducible refine (gaiterlaw00_Pick.calls a2 (wrap64 ((wrap64 (8 * (l1.length : Int))) + 1)) t421 _ A35.out).mono ?_); rintro e w' ⟨rfl, ⟨nd, rfl⟩⟩; refine ⟨_, rfl, ?_⟩) | ((with_reducible refine gate_callee (f := 26) rfl ?_); refine goesL_ (some 72) rfl rfl Try.func26 (by kernel_rfl) rfl #[.slice A1 l1.length c1] rfl (by (try simp only [List.map_toArray, List.map_cons, List.map_nil]); first | done | rfl | (simp only [List.length_drop, List.length_take]; rfl)) ?_; (with_reducible refine (fill_New.calls _ _ l1 t422 t423 t424 w _ ?side1 ?side2 ?side3 A36.out).mono ?_); (case side1 => repeat (first | (with_reducible first | exact HB.out | apply below_alloc | apply pw_below_drewN | apply below_drew1) | exact HB.out)); (case side2 => exact HR1.out); (case side3 => exact HC1.out); rintro e w79 ⟨g425, rfl, hi, hb, hb2⟩; refine ⟨_, rfl, ?_⟩; have n0_ := Aside0.mk (hb); have n1_ := Aside0.mk (hi); clear HB; have HB := n0_; have HI425 := n1_; clear n0_ n1_; (try clear hb); (try clear hb2); (try clear hk); (try clear hi)) | ((with_reducible refine gate_callee (f := 27) rfl ?_); refine goesL_ (some 75) rfl rfl Try.func27 (by kernel_rfl) rfl #[.pointer (some ⟨g425, 0, none⟩), .int .i64 t421] rfl (by (try simp only [List.map_toArray, List.map_cons, List.map_nil]); first | done | rfl | (simp only [List.length_drop, List.length_take]; rfl)) ?_; (with_reducible refine (fill_Reader_Skip.calls kj21 g425 t422 t423 t424 t421 true t427 t428 t429 w _ ?side1 ?side2 A37.out).mono ?_); (case side1 => repeat (first | (with_reducible first | exact HI425.out | apply IsS91.alloc | apply IsS91.drewN | apply IsS91.drew | apply IsS91.set_1 | apply IsS91.set_2) | exact HI425.out)); (case side2 => repeat (first | (with_reducible first | exact HB.out | apply below_alloc | apply pw_below_drewN | apply below_drew1 | refine below_set ?_ (IsS91.ge HI425.out)) | exact HB.out)); rintro e w80 ⟨rfl, hi, hb, hk⟩; refine ⟨_, rfl, ?_⟩; have n0_ := Aside0.mk (hb); have n1_ := Aside0.mk (hi); clear HB; clear HI425; have HB := n0_; have HI425 := n1_; clear n0_ n1_; (try clear hb); (try clear hb2); (try clear hk); (try clear hi)) | ((with_reducible refine gate_callee (f := 28) rfl ?_); refine goesL_ (some 79) rfl rfl Try.func28 (by kernel_rfl) rfl #[.pointer (some ⟨g425, 0, none⟩)] rfl (by (try simp only [List.map_toArray, List.map_cons, List.map_nil]); first | done | rfl | (simp only [List.length_drop, List.length_take]; rfl)) ?_; (with_reducible refine (tab_Get.calls kj21 g425 t427 t428 t429 t430 t431 t432 t433 t434 w _ ?side1 ?side2 A39.out).mono ?_); (case side1 => repeat (first | (with_reducible first | exact HI425.out | apply IsS91.alloc | apply IsS91.drewN | apply IsS91.drew | apply IsS91.set_1 | apply IsS91.set_2) | exact HI425.out)); (case side2 => repeat (first | (with_reducible first | exact HB.out | apply below_alloc | apply pw_below_drewN | apply below_drew1 | refine below_set ?_ (IsS91.ge HI425.out)) | exact HB.out)); rintro e w81 ⟨rfl, hi, hb, hk⟩; refine ⟨_, rfl, ?_⟩; have n0_ := Aside0.mk (hb); have n1_ := Aside0.mk (hi); clear HB; clear HI425; have HB := n0_; have HI425 := n1_; clear n0_ n1_; (try clear hb); (try clear hb2); (try clear hk); (try clear hi); (try simp only [errW_none, errW_some])) | ((with_reducible refine gate_callee (f := 22) rfl ?_); refine goesL_ (some 84) rfl rfl Try.func22 (by kernel_rfl) rfl #[.slice A1 l1.length c1] rfl (by (try simp only [List.map_toArray, List.map_cons, List.map_nil]); first | done | rfl | (simp only [List.length_drop, List.length_take]; rfl)) ?_; (with_reducible refine (gaiterref01_Flat.calls kj21 _ _ l1 t435 _ ?side1 ?side2 A40.out).mono ?_); (case side1 => repeat (first | exact (Kd.C_below HR1.out HB.out) | (with_reducible refine Kd.C_alloc ?_ _) | (with_reducible refine Kd.C_drewN ?_ _) | (with_reducible refine Kd.C_drew ?_))); (case side2 => exact HC1.out); rintro e w82 ⟨v436, rfl, ho0, hb⟩; refine ⟨_, rfl, ?_⟩; have n0_ := Aside0.mk (Kd.R_lower ho0 (below_size (by repeat (first | (with_reducible first | exact HB.out | apply below_alloc | apply pw_below_drewN | apply below_drew1 | refine below_set ?_ (IsS91.ge HI425.out)) | exact HB.out)))); have n1_ := Aside0.mk (IsS91.below (by repeat (first | (with_reducible first | exact HI425.out | apply IsS91.alloc | apply IsS91.drewN | apply IsS91.drew | apply IsS91.set_1 | apply IsS91.set_2) | exact HI425.out)) hb); have n2_ := Aside0.mk (below_step (by repeat (first | (with_reducible first | exact HB.out | apply below_alloc | apply pw_below_drewN | apply below_drew1 | refine below_set ?_ (IsS91.ge HI425.out)) | exact HB.out)) hb); clear HI425; clear HB; have HO437 := n0_; have HI425 := n1_; have HB := n2_; clear n0_ n1_ n2_; (try clear hb); (try clear hb2); (try clear hk); (try clear hi); (try clear ho0); obtain ⟨Ao84, co84, eo84⟩ := Kd.R_slice HO437.out; subst eo84; have q83 : (t421 : Int) ≤ ((t435.length : Int) : Int) := of_decide_eq_true (by first | (with_reducible assumption) | assumption); obtain ⟨i083, hi083, _, hsz83, _⟩ := info_parts info5; have hroom83 : t435.length ≤ co84 := (Kd.R_reads' HO437.out).2.1; have hC83 : Kd.C (Kd.int .u8) _ Ao84 t435.length t435 := (Kd.R_reads' HO437.out).2.2; have q083 : (0 : Int) ≤ (t421 : Int) := of_decide_eq_true (by first | (with_reducible assumption) | assumption); have hcut83 := cut_from (P := Try.prog) 22 5 .i64 Try.underlying22 hi083 1 hsz83 Ao84 t435.length co84 t421 q083 q83; have hr83 := Kd.C_drop (m := (t421 : Int).toNat) (c := co84) hC83 (by omega) hroom83; obtain ⟨A83, hA83⟩ : ∃ A1, A1 = (if co84 = (t421 : Int).toNat then Ao84 else (Ao84 : Option Addr).map (·.add ((t421 : Int).toNat * 1))) := ⟨_, rfl⟩; obtain ⟨c83, hc83⟩ : ∃ c1, c1 = co84 - (t421 : Int).toNat := ⟨_, rfl⟩; have hy83 : y438.length = t435.length - (t421 : Int).toNat := (by rw [Ny438.out, List.length_drop] <;> omega); rw [show (t435).drop (t421 : Int).toNat = y438 from Ny438.out.symm] at hr83; replace hr83 : Kd.C (Kd.int .u8) _ A83 y438.length y438 := (by rw [hA83]; exact hr83); rw [← hy83, ← hA83, ← hc83] at hcut83; have HR441 := Aside0.mk hr83; have HC441 := Aside0.mk (show y438.length ≤ c83 from by rw [hy83, hc83]; exact Nat.sub_le_sub_right hroom83 _); clear hr83 hC83 hroom83 hi083 hsz83 hc83; have KY83 := Aside0.mk hy83; have KA83 := Aside0.mk hA83; clear hy83 hA83; have KL83 := Aside0.mk (show (t421 : Int).toNat ≤ t435.length from by omega); (try (have q83s := q83; simp only [List.length_drop, List.length_take] at q83s; replace q83s := eq_true q83s)); replace q83 := eq_true q83) | ((with_reducible refine gate_callee (f := 12) rfl ?_); refine goesL_ (some 87) rfl rfl Try.func12 (by kernel_rfl) rfl #[.slice A83 y438.length c83] rfl (by (try simp only [List.map_toArray, List.map_cons, List.map_nil]); first | done | rfl | (simp only [List.length_drop, List.length_take]; rfl)) ?_; (with_reducible refine (gaiterref01_GetDod.calls kj21 _ _ y438 t442 t443 t444 _ ?side1 ?side2 A43.out).mono ?_); (case side1 => repeat (first | exact (by repeat (first | (with_reducible exact HR441.out) | (with_reducible refine Kd.C_alloc ?_ _) | (with_reducible refine Kd.C_drewN ?_ _) | (with_reducible refine Kd.C_drew ?_) | exact HR441.out)) | (with_reducible refine Kd.C_alloc ?_ _) | (with_reducible refine Kd.C_drewN ?_ _) | (with_reducible refine Kd.C_drew ?_))); (case side2 => exact HC441.out); rintro e w85 ⟨rfl, hb⟩; refine ⟨_, rfl, ?_⟩; have n0_ := Aside0.mk (Kd.R_below (by (with_reducible repeat (first | apply Kd.R_alloc | apply Kd.R_drewN | apply Kd.R_drew)); exact HO437.out) hb); have n1_ := Aside0.mk (IsS91.below (by repeat (first | (with_reducible first | exact HI425.out | apply IsS91.alloc | apply IsS91.drewN | apply IsS91.drew | apply IsS91.set_1 | apply IsS91.set_2) | exact HI425.out)) hb); have n2_ := Aside0.mk (Kd.C_below (by repeat (first | (with_reducible exact HR441.out) | (with_reducible refine Kd.C_alloc ?_ _) | (with_reducible refine Kd.C_drewN ?_ _) | (with_reducible refine Kd.C_drew ?_) | exact HR441.out)) hb); have n3_ := Aside0.mk (below_step (by repeat (first | (with_reducible first | exact HB.out | apply below_alloc | apply pw_below_drewN | apply below_drew1 | refine below_set ?_ (IsS91.ge HI425.out)) | exact HB.out)) hb); clear HO437; clear HI425; clear HR441; clear HB; have HO437 := n0_; have HI425 := n1_; have HR441 := n2_; have HB := n3_; clear n0_ n1_ n2_ n3_; (try clear hb); (try clear hb2); (try clear hk); (try clear hi)))
                        go_ret
                        exact ⟨by first | rfl | (simp [errW_none, errW_some] <;> rfl) | (simp [*, errW_none, errW_some] <;> rfl), by repeat (first | (with_reducible first | exact HB.out | apply below_alloc | apply pw_below_drewN | apply below_drew1 | refine below_set ?_ (IsS91.ge HI425.out)) | exact HB.out)⟩
                    · rw [if_neg c42] at H
                      exact absurd H (by simp)
                  · rw [if_neg c41] at H
                    exact absurd H (by simp)
                · replace c38 := Bool.eq_false_iff.mpr c38
                  subst c38
                  have H1 : (some false) = some r := by rw [if_neg (show ¬ (false = true) by decide)] at H; exact H
                  clear H
                  have H := H1
                  clear H1
                  obtain rfl := Option.some.inj H
                  go_wp2_with (first | ((with_reducible refine gate_callee (f := 20) rfl ?_); refine goesL_ (some 70) rfl rfl Try.func20 (by kernel_rfl) rfl #[.int .i64 a2, .int .i64 (wrap64 ((wrap64 (8 * (l1.length : Int))) + 1))] rfl (by (try simp only [List.map_toArray, List.map_cons, List.map_nil]); first | done | rfl | (simp only [List.length_drop, List.length_take]; rfl)) ?_; (with_reducible refine (gaiterlaw00_Pick.calls a2 (wrap64 ((wrap64 (8 * (l1.length : Int))) + 1)) t421 _ A35.out).mono ?_); rintro e w' ⟨rfl, ⟨nd, rfl⟩⟩; refine ⟨_, rfl, ?_⟩) | ((with_reducible refine gate_callee (f := 26) rfl ?_); refine goesL_ (some 72) rfl rfl Try.func26 (by kernel_rfl) rfl #[.slice A1 l1.length c1] rfl (by (try simp only [List.map_toArray, List.map_cons, List.map_nil]); first | done | rfl | (simp only [List.length_drop, List.length_take]; rfl)) ?_; (with_reducible refine (fill_New.calls _ _ l1 t422 t423 t424 w _ ?side1 ?side2 ?side3 A36.out).mono ?_); (case side1 => repeat (first | (with_reducible first | exact HB.out | apply below_alloc | apply pw_below_drewN | apply below_drew1) | exact HB.out)); (case side2 => exact HR1.out); (case side3 => exact HC1.out); rintro e w86 ⟨g425, rfl, hi, hb, hb2⟩; refine ⟨_, rfl, ?_⟩; have n0_ := Aside0.mk (hb); have n1_ := Aside0.mk (hi); clear HB; have HB := n0_; have HI425 := n1_; clear n0_ n1_; (try clear hb); (try clear hb2); (try clear hk); (try clear hi)) | ((with_reducible refine gate_callee (f := 27) rfl ?_); refine goesL_ (some 75) rfl rfl Try.func27 (by kernel_rfl) rfl #[.pointer (some ⟨g425, 0, none⟩), .int .i64 t421] rfl (by (try simp only [List.map_toArray, List.map_cons, List.map_nil]); first | done | rfl | (simp only [List.length_drop, List.length_take]; rfl)) ?_; (with_reducible refine (fill_Reader_Skip.calls kj21 g425 t422 t423 t424 t421 false t427 t428 t429 w _ ?side1 ?side2 A37.out).mono ?_); (case side1 => repeat (first | (with_reducible first | exact HI425.out | apply IsS91.alloc | apply IsS91.drewN | apply IsS91.drew | apply IsS91.set_1 | apply IsS91.set_2) | exact HI425.out)); (case side2 => repeat (first | (with_reducible first | exact HB.out | apply below_alloc | apply pw_below_drewN | apply below_drew1 | refine below_set ?_ (IsS91.ge HI425.out)) | exact HB.out)); rintro e w87 ⟨rfl, hi, hb, hk⟩; refine ⟨_, rfl, ?_⟩; have n0_ := Aside0.mk (hb); have n1_ := Aside0.mk (hi); clear HB; clear HI425; have HB := n0_; have HI425 := n1_; clear n0_ n1_; (try clear hb); (try clear hb2); (try clear hk); (try clear hi)))
                  go_ret
                  exact ⟨by first | rfl | (simp [errW_none, errW_some] <;> rfl) | (simp [*, errW_none, errW_some] <;> rfl), by repeat (first | (with_reducible first | exact HB.out | apply below_alloc | apply pw_below_drewN | apply below_drew1 | refine below_set ?_ (IsS91.ge HI425.out)) | exact HB.out)⟩
    · rw [if_neg c8] at H
      have c8b0 : ((t407.length : Int) == 256) = false := beq_eq_false_iff_ne.mpr c8
      have c8b1 : ((t407.length : Int) != 256) = true := bne_iff_ne.mpr c8
      obtain rfl := Option.some.inj H
      go_enter Try.func5, Try.ntmps5
      go_wp2_with (first | ((with_reducible refine gate_callee (f := 23) rfl ?_); refine goesL_ (some 19) rfl rfl Try.func23 (by kernel_rfl) rfl #[] rfl (by (try simp only [List.map_toArray, List.map_cons, List.map_nil]); first | done | rfl | (simp only [List.length_drop, List.length_take]; rfl)) ?_; (with_reducible refine (gaiterlaw06_up.calls k  t406 _ A4.out).mono ?_); rintro e w88 ⟨rfl, hb⟩; refine ⟨_, rfl, ?_⟩; have n0_ := Aside0.mk (below_step (by repeat (first | (with_reducible first | exact HB.out | apply below_alloc | apply pw_below_drewN | apply below_drew1) | exact HB.out)) hb); clear HB; have HB := n0_; clear n0_; (try clear hb); (try clear hb2); (try clear hk); (try clear hi)) | ((with_reducible refine gate_callee (f := 24) rfl ?_); refine goesL_ (some 24) rfl rfl Try.func24 (by kernel_rfl) rfl #[] rfl (by (try simp only [List.map_toArray, List.map_cons, List.map_nil]); first | done | rfl | (simp only [List.length_drop, List.length_take]; rfl)) ?_; (with_reducible refine (tab_Table.calls k  t407 _ A7.out).mono ?_); rintro e w89 ⟨v408, rfl, ho0, hb⟩; refine ⟨_, rfl, ?_⟩; have n0_ := Aside0.mk (Kd.R_lower ho0 (below_size (by repeat (first | (with_reducible first | exact HB.out | apply below_alloc | apply pw_below_drewN | apply below_drew1) | exact HB.out)))); have n1_ := Aside0.mk (below_step (by repeat (first | (with_reducible first | exact HB.out | apply below_alloc | apply pw_below_drewN | apply below_drew1) | exact HB.out)) hb); clear HB; have HO409 := n0_; have HB := n1_; clear n0_ n1_; (try clear hb); (try clear hb2); (try clear hk); (try clear hi); (try clear ho0); obtain ⟨Ao90, co90, eo90⟩ := Kd.R_slice HO409.out; subst eo90))
      go_ret
      exact ⟨by first | rfl | (simp [errW_none, errW_some] <;> rfl) | (simp [*, errW_none, errW_some] <;> rfl), by repeat (first | (with_reducible first | exact HB.out | apply below_alloc | apply pw_below_drewN | apply below_drew1) | exact HB.out)⟩

/-- THE ONE PURE STATEMENT of gaiterlaw06_TabTells: yours. -/
def gaiterlaw06_TabTells.Pure : Prop := ∀ (a0 : Int) (l1 : List Int) (a2 : Int), (Lit.int .i64 a0).wf = true → l1.length ≤ maxLen → l1.length * 1 ≤ 140737488351232 → (∀ x ∈ l1, (Lit.int .u8 x).wf = true) → (Lit.int .i64 a2).wf = true → ∃ k, gaiterlaw06_TabTells.f k a0 l1 a2 = some true
theorem gaiterlaw06_TabTells.walk (P : gaiterlaw06_TabTells.Pure) (a0 : Int) (a1 : Option Addr) (len1 cap1 : Nat) (z1 : List Int) (a2 : Int) (w : World) (w0 : (Lit.int .i64 a0).wf = true) (w1 : (a1 = none ∧ len1 = 0 ∧ cap1 = 0 ∧ z1 = []) ∨ ∃ x, a1 = some x ∧ len1 ≤ cap1 ∧ cap1 ≤ maxLen ∧ z1.length = cap1 ∧ (∀ i, i < z1.length → w.cell? (x.add i) = some (.int .u8 (z1.getD i 0))) ∧ ∀ n ∈ z1, (Lit.int .u8 n).wf = true) (y1 : len1 * 1 ≤ 140737488351232) (w2 : (Lit.int .i64 a2).wf = true) :
    Calls Try.prog 5 #[.int .i64 a0, .slice a1 len1 cap1, .int .i64 a2] w fun e w' => e = .returned (.bool true) ∧ Below w.heap.size w w' := by
  obtain ⟨l1, rfl, hr1, hm1, hw1, hc1⟩ := ReadsInt.ofRowC w1
  obtain ⟨k, h⟩ := P a0 l1 a2 w0 hm1 y1 hw1 w2
  refine (gaiterlaw06_TabTells.calls k a0 _ _ l1 a2 true w (Kd.C_of_reads (d := (0 : Int)) (h1 := fun _ => rfl) hr1) hc1 h).mono ?_
  rintro e w' ⟨rfl, hd⟩
  exact ⟨rfl, hd⟩

end Go.Proofs.Ytfpcbnkipdjlhab.All
