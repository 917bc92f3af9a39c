-- written by a program of the session out of the translation; Lean checks it
import Derived.Test.YtfpcbnkipdjlhabAllx0
import Derived.Test.YtfpcbnkipdjlhabAllx4
import Derived.Test.YtfpcbnkipdjlhabAllx15
import Derived.Test.YtfpcbnkipdjlhabAllx17
import Derived.Test.YtfpcbnkipdjlhabAllx18
namespace Go.Proofs.Ytfpcbnkipdjlhab.All
open Go.RowKit Go.Proofs.YtfpcbnkipdjlhabW.PrintWords Go.Proofs.YtfpcbnkipdjlhabW.PrintLast Go.Proofs.YtfpcbnkipdjlhabW.PrintMore
attribute [local go_sem] max2_int min2_int max_two min_two max_three min_three max_four min_four   -- for this text's walks alone
set_option linter.unusedVariables false
set_option linter.unusedSimpArgs false

/-! ### gaiterlaw06_TabSame: function 6 -/
mutual
def gaiterlaw06_TabSame.l0 : Nat → List Int → Bool → Int → Int → List Int → Int → Int → Option (Bool)
  | 0, _, _, _, _, _, _, _ => none
  | k + 1, x0, x3, x5, x6, x455000, x455001, x455002 => if x6 < (wrap64 ((wrap64 (8 * (x0.length : Int))) + 1)) then ((tab_Get.f k x455000 x455001 x455002).bind fun bt455 => ((dod_Get.f k x0 x5).bind fun bt460 => (if bt455.1 = bt460.1 then ((gaiterlaw00_Code.f bt455.2.1).bind fun t463 => ((gaiterlaw00_Code.f bt460.2.2).bind fun t464 => (gaiterlaw06_TabSame.j1 k x0 x3 x5 x6 bt460.2.1 bt460.2.2 (t463 != t464) bt455.2.2.1 bt455.2.2.2.1 bt455.2.2.2.2))) else (gaiterlaw06_TabSame.j1 k x0 x3 x5 x6 bt460.2.1 bt460.2.2 true bt455.2.2.1 bt455.2.2.2.1 bt455.2.2.2.2)))) else (some false)
def gaiterlaw06_TabSame.j1 : Nat → List Int → Bool → Int → Int → Int → Option Int → Bool → List Int → Int → Int → Option (Bool)
  | 0, _, _, _, _, _, _, _, _, _, _ => none
  | k + 1, x0, x3, x5, x6, x10, x11, x48, x455000, x455001, x455002 => if x48 = true then (some false) else (if x11.isNone = true then (if x10 < 1 then (some false) else ((fill_Reader_Left.f x455000 x455001 x455002).bind fun bt466 => (if bt466.1 = (wrap64 ((wrap64 (8 * (x0.length : Int))) - (wrap64 (x5 + x10)))) then (gaiterlaw06_TabSame.l0 k x0 x3 (wrap64 (x5 + x10)) (wrap64 (x6 + 1)) bt466.2.1 bt466.2.2.1 bt466.2.2.2) else (some false)))) else (some x3))
end
def gaiterlaw06_TabSame.f (k : Nat) (l0 : List Int) : Option (Bool) := (gaiterlaw06_up.f k).bind fun t450 => (if (l0.length : Int) > 500 then (some t450) else ((fill_New.f l0).bind fun bt451 => (gaiterlaw06_TabSame.l0 k l0 t450 0 0 bt451.1 bt451.2.1 bt451.2.2)))
theorem gaiterlaw06_TabSame.mono_l : ∀ k, (∀ y0 y1 y2 y3 y4 y5 y6, LeO (gaiterlaw06_TabSame.l0 k y0 y1 y2 y3 y4 y5 y6) (gaiterlaw06_TabSame.l0 (k + 1) y0 y1 y2 y3 y4 y5 y6)) ∧ (∀ y0 y1 y2 y3 y4 y5 y6 y7 y8 y9, LeO (gaiterlaw06_TabSame.j1 k y0 y1 y2 y3 y4 y5 y6 y7 y8 y9) (gaiterlaw06_TabSame.j1 (k + 1) y0 y1 y2 y3 y4 y5 y6 y7 y8 y9))
  | 0 => ⟨fun _ _ _ _ _ _ _ r h => by simp [gaiterlaw06_TabSame.l0] at h, fun _ _ _ _ _ _ _ _ _ _ r h => by simp [gaiterlaw06_TabSame.j1] at h⟩
  | k + 1 => by
    obtain ⟨ih0, ih1⟩ := gaiterlaw06_TabSame.mono_l k
    refine ⟨?_, ?_⟩
    · intro y0 y1 y2 y3 y4 y5 y6
      unfold gaiterlaw06_TabSame.l0
      repeat' first
      | (with_reducible exact ih0 _ _ _ _ _ _ _)
      | (with_reducible exact ih1 _ _ _ _ _ _ _ _ _ _)
      | (with_reducible exact dod_Get.mono _ _ _)
      | (with_reducible exact gaiterlaw06_up.mono _)
      | (with_reducible exact tab_Get.mono _ _ _ _)
      | (with_reducible exact LeO.refl _)
      | (with_reducible exact LeO.none _)
      | (with_reducible refine LeO.ite ?_ ?_)
      | (with_reducible refine LeO.bind ?_ (fun _ => ?_))
      | exact ih0 _ _ _ _ _ _ _
      | exact ih1 _ _ _ _ _ _ _ _ _ _
      | exact dod_Get.mono _ _ _
      | exact gaiterlaw06_up.mono _
      | exact tab_Get.mono _ _ _ _
      | exact LeO.none _
      | refine LeO.ite ?_ ?_
      | refine LeO.bind ?_ (fun _ => ?_)
    · intro y0 y1 y2 y3 y4 y5 y6 y7 y8 y9
      unfold gaiterlaw06_TabSame.j1
      repeat' first
      | (with_reducible exact ih0 _ _ _ _ _ _ _)
      | (with_reducible exact ih1 _ _ _ _ _ _ _ _ _ _)
      | (with_reducible exact dod_Get.mono _ _ _)
      | (with_reducible exact gaiterlaw06_up.mono _)
      | (with_reducible exact tab_Get.mono _ _ _ _)
      | (with_reducible exact LeO.refl _)
      | (with_reducible exact LeO.none _)
      | (with_reducible refine LeO.ite ?_ ?_)
      | (with_reducible refine LeO.bind ?_ (fun _ => ?_))
      | exact ih0 _ _ _ _ _ _ _
      | exact ih1 _ _ _ _ _ _ _ _ _ _
      | exact dod_Get.mono _ _ _
      | exact gaiterlaw06_up.mono _
      | exact tab_Get.mono _ _ _ _
      | exact LeO.none _
      | refine LeO.ite ?_ ?_
      | refine LeO.bind ?_ (fun _ => ?_)
theorem gaiterlaw06_TabSame.mono : ∀ a0 k, LeO (gaiterlaw06_TabSame.f k a0) (gaiterlaw06_TabSame.f (k + 1) a0) := by
  intro a0 k
  obtain ⟨ih0, ih1⟩ := gaiterlaw06_TabSame.mono_l k
  unfold gaiterlaw06_TabSame.f
  repeat' first
      | (with_reducible exact ih0 _ _ _ _ _ _ _)
      | (with_reducible exact ih1 _ _ _ _ _ _ _ _ _ _)
      | (with_reducible exact dod_Get.mono _ _ _)
      | (with_reducible exact gaiterlaw06_up.mono _)
      | (with_reducible exact tab_Get.mono _ _ _ _)
      | (with_reducible exact LeO.refl _)
      | (with_reducible exact LeO.none _)
      | (with_reducible refine LeO.ite ?_ ?_)
      | (with_reducible refine LeO.bind ?_ (fun _ => ?_))
      | exact ih0 _ _ _ _ _ _ _
      | exact ih1 _ _ _ _ _ _ _ _ _ _
      | exact dod_Get.mono _ _ _
      | exact gaiterlaw06_up.mono _
      | exact tab_Get.mono _ _ _ _
      | exact LeO.none _
      | refine LeO.ite ?_ ?_
      | refine LeO.bind ?_ (fun _ => ?_)
set_option maxHeartbeats 8000000 in
set_option maxRecDepth 100000 in
theorem gaiterlaw06_TabSame.calls (k : Nat) (A0 : Option Addr) (c0 : Nat) (l0 : List Int) (r : Bool) (w : World) (hr0 : Kd.C (Kd.int .u8) w A0 l0.length l0) (hc0 : l0.length ≤ c0) (h : gaiterlaw06_TabSame.f k l0 = some r) :
    Calls Try.prog 6 #[.slice A0 l0.length c0] w fun e w' => e = .returned (.bool r) ∧ Below w.heap.size w w' := by
  have hu25 := Try.underlying25
  have hu83 := Try.underlying83
  have HR0 := Aside0.mk hr0
  have HC0 := Aside0.mk hc0
  clear hr0 hc0
  have HB := Aside0.mk (Below.refl w.heap.size w)
  have H : ((gaiterlaw06_up.f k).bind fun t450 => (if (l0.length : Int) > 500 then (some t450) else ((fill_New.f l0).bind fun bt451 => (gaiterlaw06_TabSame.l0 k l0 t450 0 0 bt451.1 bt451.2.1 bt451.2.2)))) = some r := h
  clear h
  replace H := Option.bind_eq_some_iff.mp H
  obtain ⟨t450, A20, H⟩ := H
  replace H : (if (l0.length : Int) > 500 then (some t450) else ((fill_New.f l0).bind fun bt451 => (gaiterlaw06_TabSame.l0 k l0 t450 0 0 bt451.1 bt451.2.1 bt451.2.2))) = some r := H
  have A2 := Aside0.mk A20
  clear A20
  by_cases c3 : (l0.length : Int) > 500
  · rw [if_pos c3] at H
    have c3b0 : decide (500 < (l0.length : Int)) = true := decide_eq_true c3
    have c3b1 : decide (500 < l0.length) = true := decide_eq_true (by omega)
    clear c3
    obtain rfl := Option.some.inj H
    go_enter Try.func6, Try.ntmps6
    go_wp2_with (first | ((with_reducible refine gate_callee (f := 23) rfl ?_); refine goesL_ (some 12) rfl rfl Try.func23 (by kernel_rfl) rfl #[] rfl (by (try simp only [List.map_toArray, List.map_cons, List.map_nil]); first | done | rfl | (simp only [List.length_drop, List.length_take]; rfl)) ?_; (with_reducible refine (gaiterlaw06_up.calls k  t450 _ A2.out).mono ?_); rintro e w4 ⟨rfl, hb⟩; refine ⟨_, rfl, ?_⟩; have n0_ := Aside0.mk (below_step (by repeat (first | (with_reducible first | exact HB.out | apply below_alloc | apply pw_below_drewN | apply below_drew1) | exact HB.out)) hb); clear HB; have HB := n0_; clear n0_; (try clear hb); (try clear hb2); (try clear hk); (try clear hi)))
    go_ret
    exact ⟨by first | rfl | (simp [errW_none, errW_some] <;> rfl) | (simp [*, errW_none, errW_some] <;> rfl), by repeat (first | (with_reducible first | exact HB.out | apply below_alloc | apply pw_below_drewN | apply below_drew1) | exact HB.out)⟩
  · rw [if_neg c3] at H
    have c3b0 : decide (500 < (l0.length : Int)) = false := decide_eq_false c3
    have c3b1 : decide (500 < l0.length) = false := decide_eq_false (by omega)
    clear c3
    replace H := Option.bind_eq_some_iff.mp H
    obtain ⟨⟨t451, t452, t453⟩, A50, H⟩ := H
    replace H : (gaiterlaw06_TabSame.l0 k l0 t450 0 0 t451 t452 t453) = some r := H
    have A5 := Aside0.mk A50
    clear A50
    have H' := Aside0.mk H
    clear H
    go_enter Try.func6, Try.ntmps6
    go_wp2_with (first | ((with_reducible refine gate_callee (f := 23) rfl ?_); refine goesL_ (some 12) rfl rfl Try.func23 (by kernel_rfl) rfl #[] rfl (by (try simp only [List.map_toArray, List.map_cons, List.map_nil]); first | done | rfl | (simp only [List.length_drop, List.length_take]; rfl)) ?_; (with_reducible refine (gaiterlaw06_up.calls k  t450 _ A2.out).mono ?_); rintro e w6 ⟨rfl, hb⟩; refine ⟨_, rfl, ?_⟩; have n0_ := Aside0.mk (below_step (by repeat (first | (with_reducible first | exact HB.out | apply below_alloc | apply pw_below_drewN | apply below_drew1) | exact HB.out)) hb); clear HB; have HB := n0_; clear n0_; (try clear hb); (try clear hb2); (try clear hk); (try clear hi)) | ((with_reducible refine gate_callee (f := 26) rfl ?_); refine goesL_ (some 18) rfl rfl Try.func26 (by kernel_rfl) rfl #[.slice A0 l0.length c0] rfl (by (try simp only [List.map_toArray, List.map_cons, List.map_nil]); first | done | rfl | (simp only [List.length_drop, List.length_take]; rfl)) ?_; (with_reducible refine (fill_New.calls _ _ l0 t451 t452 t453 w _ ?side1 ?side2 ?side3 A5.out).mono ?_); (case side1 => repeat (first | (with_reducible first | exact HB.out | apply below_alloc | apply pw_below_drewN | apply below_drew1) | exact HB.out)); (case side2 => exact HR0.out); (case side3 => exact HC0.out); rintro e w7 ⟨g454, rfl, hi, hb, hb2⟩; refine ⟨_, rfl, ?_⟩; have n0_ := Aside0.mk (hb); have n1_ := Aside0.mk (hi); clear HB; have HB := n0_; have HI454 := n1_; clear n0_ n1_; (try clear hb); (try clear hb2); (try clear hk); (try clear hi)))
    go_loopg [5, 6] k (fun kq v5 v6 w' => ∃ (x5_1 : Int) (x6_1 : Int) (x455000_1 : List Int) (x455001_1 : Int) (x455002_1 : Int), v5 = .int .i64 x5_1 ∧ v6 = .int .i64 x6_1 ∧ Aside0 (gaiterlaw06_TabSame.l0 kq l0 t450 x5_1 x6_1 x455000_1 x455001_1 x455002_1 = some r) ∧ Aside0 (kq ≤ k) ∧ Aside0 (IsS91 w w' g454 x455000_1 x455001_1 x455002_1) ∧ Aside0 (Below w.heap.size w w'))
    case atStart => exact ⟨(0), (0), (t451), (t452), (t453), (by first | rfl | (simp; done) | (simp [*]; done)), (by first | rfl | (simp; done) | (simp [*]; done)), H', ⟨Nat.le_refl _⟩, ⟨by repeat (first | (with_reducible first | exact HI454.out | apply IsS91.alloc | apply IsS91.drewN | apply IsS91.drew | apply IsS91.set_1 | apply IsS91.set_2) | exact HI454.out)⟩, ⟨by repeat (first | (with_reducible first | exact HB.out | apply below_alloc | apply pw_below_drewN | apply below_drew1 | refine below_set ?_ (IsS91.ge HI454.out)) | exact HB.out)⟩⟩
    case round =>
      clear H'
      try clear c2
      try clear p2
      try clear c3
      try clear c3b0
      try clear c3b1
      try clear c6
      obtain ⟨x5_1, x6_1, x455000_1, x455001_1, x455002_1, rfl, rfl, HA, HK1, HI454, HB⟩ := hrel
      cases gk with
      | zero => exact absurd HA.out (by simp [gaiterlaw06_TabSame.l0])
      | succ k1 =>
        have H := HA.out
        clear HA
        simp only [gaiterlaw06_TabSame.l0] at H
        by_cases c8 : x6_1 < (wrap64 ((wrap64 (8 * (l0.length : Int))) + 1))
        · rw [if_pos c8] at H
          have c8b0 : decide (x6_1 < (wrap64 ((wrap64 (8 * (l0.length : Int))) + 1))) = true := decide_eq_true c8
          clear c8
          replace H := Option.bind_eq_some_iff.mp H
          obtain ⟨⟨t455, t456, t457, t458, t459⟩, A90, H⟩ := H
          replace H : ((dod_Get.f k1 l0 x5_1).bind fun bt460 => (if t455 = bt460.1 then ((gaiterlaw00_Code.f t456).bind fun t463 => ((gaiterlaw00_Code.f bt460.2.2).bind fun t464 => (gaiterlaw06_TabSame.j1 k1 l0 t450 x5_1 x6_1 bt460.2.1 bt460.2.2 (t463 != t464) t457 t458 t459))) else (gaiterlaw06_TabSame.j1 k1 l0 t450 x5_1 x6_1 bt460.2.1 bt460.2.2 true t457 t458 t459))) = some r := H
          have A9 := Aside0.mk A90
          clear A90
          replace H := Option.bind_eq_some_iff.mp H
          obtain ⟨⟨t460, t461, t462⟩, A100, H⟩ := H
          replace H : (if t455 = t460 then ((gaiterlaw00_Code.f t456).bind fun t463 => ((gaiterlaw00_Code.f t462).bind fun t464 => (gaiterlaw06_TabSame.j1 k1 l0 t450 x5_1 x6_1 t461 t462 (t463 != t464) t457 t458 t459))) else (gaiterlaw06_TabSame.j1 k1 l0 t450 x5_1 x6_1 t461 t462 true t457 t458 t459)) = some r := H
          have A10 := Aside0.mk A100
          clear A100
          have HC11 := Aside0.mk H
          clear H
          go_upto_region 11 with (first | ((with_reducible refine gate_callee (f := 28) rfl ?_); refine goesL_ (some 29) rfl rfl Try.func28 (by kernel_rfl) rfl #[.pointer (some ⟨g454, 0, none⟩)] rfl (by (try simp only [List.map_toArray, List.map_cons, List.map_nil]); first | done | rfl | (simp only [List.length_drop, List.length_take]; rfl)) ?_; (with_reducible refine (tab_Get.calls k1 g454 x455000_1 x455001_1 x455002_1 t455 t456 t457 t458 t459 w _ ?side1 ?side2 A9.out).mono ?_); (case side1 => repeat (first | (with_reducible first | exact HI454.out | apply IsS91.alloc | apply IsS91.drewN | apply IsS91.drew | apply IsS91.set_1 | apply IsS91.set_2) | exact HI454.out)); (case side2 => repeat (first | (with_reducible first | exact HB.out | apply below_alloc | apply pw_below_drewN | apply below_drew1 | refine below_set ?_ (IsS91.ge HI454.out)) | exact HB.out)); rintro e w12 ⟨rfl, hi, hb, hk⟩; refine ⟨_, rfl, ?_⟩; have n0_ := Aside0.mk (hb); have n1_ := Aside0.mk (hi); clear HB; clear HI454; have HB := n0_; have HI454 := n1_; clear n0_ n1_; (try clear hb); (try clear hb2); (try clear hk); (try clear hi); (try simp only [errW_none, errW_some])) | ((with_reducible refine gate_callee (f := 11) rfl ?_); refine goesL_ (some 35) rfl rfl Try.func11 (by kernel_rfl) rfl #[.slice A0 l0.length c0, .int .i64 x5_1] rfl (by (try simp only [List.map_toArray, List.map_cons, List.map_nil]); first | done | rfl | (simp only [List.length_drop, List.length_take]; rfl)) ?_; (with_reducible refine (dod_Get.calls k1 _ _ l0 x5_1 t460 t461 t462 _ ?side1 ?side2 A10.out).mono ?_); (case side1 => repeat (first | exact (Kd.C_below HR0.out HB.out) | (with_reducible refine Kd.C_alloc ?_ _) | (with_reducible refine Kd.C_drewN ?_ _) | (with_reducible refine Kd.C_drew ?_))); (case side2 => exact HC0.out); rintro e w' ⟨rfl, ⟨nd, rfl⟩⟩; refine ⟨_, rfl, ?_⟩; (try simp only [errW_none, errW_some])))
          (try simp only [Act.put, List.setIfInBounds_toArray, List.set_cons_zero, List.set_cons_succ])
          go_cut [48] (fun v48 wc => ∃ (kq : Nat) (x48_10 : Bool), v48 = .bool x48_10 ∧ Aside0 (gaiterlaw06_TabSame.j1 kq l0 t450 x5_1 x6_1 t461 t462 x48_10 t457 t458 t459 = some r) ∧ Aside0 (kq ≤ k1) ∧ Aside0 (IsS91 w wc g454 t457 t458 t459) ∧ Aside0 (Below w.heap.size w wc))
          case first =>
            have H := HC11.out
            clear HC11
            by_cases c13 : t455 = t460
            · rw [if_pos c13] at H
              have c13b0 : (t455 == t460) = true := beq_iff_eq.mpr c13
              have c13b1 : (t455 != t460) = false := bne_eq_false_iff_eq.mpr c13
              clear c13
              (first | rw [c13b0] | (simp only [i64_w, i32_w]; rw [c13b0]) | skip)
              replace H := Option.bind_eq_some_iff.mp H
              obtain ⟨t463, A140, H⟩ := H
              replace H : ((gaiterlaw00_Code.f t462).bind fun t464 => (gaiterlaw06_TabSame.j1 k1 l0 t450 x5_1 x6_1 t461 t462 (t463 != t464) t457 t458 t459)) = some r := H
              have A14 := Aside0.mk A140
              clear A140
              replace H := Option.bind_eq_some_iff.mp H
              obtain ⟨t464, A150, H⟩ := H
              replace H : (gaiterlaw06_TabSame.j1 k1 l0 t450 x5_1 x6_1 t461 t462 (t463 != t464) t457 t458 t459) = some r := H
              have A15 := Aside0.mk A150
              clear A150
              have H' := Aside0.mk H
              clear H
              have CA14 := fun W => gaiterlaw00_Code.calls t456 t463 W A14.out
              try simp only [errW_none, errW_some] at CA14
              go_wp2_with (first | (go_at_call 17; (with_reducible refine (CA14 _).mono ?_); rintro e w' ⟨rfl, ⟨nd, rfl⟩⟩; have CA15 := fun W => gaiterlaw00_Code.calls t462 t464 W A15.out; try simp only [errW_none, errW_some] at CA15) | (go_at_call 17; (with_reducible refine (CA15 _).mono ?_); rintro e w' ⟨rfl, ⟨nd, rfl⟩⟩))
              go_meet
              case rel => exact ⟨_, ((t463 != t464)), (by first | rfl | (simp; done) | (simp [*]; done)), H', ⟨by have := HK1.out; first | omega | exact Nat.le_refl _⟩, ⟨by repeat (first | (with_reducible first | exact HI454.out | apply IsS91.alloc | apply IsS91.drewN | apply IsS91.drew | apply IsS91.set_1 | apply IsS91.set_2) | exact HI454.out)⟩, ⟨by repeat (first | (with_reducible first | exact HB.out | apply below_alloc | apply pw_below_drewN | apply below_drew1 | refine below_set ?_ (IsS91.ge HI454.out)) | exact HB.out)⟩⟩
            · rw [if_neg c13] at H
              have c13b0 : (t455 == t460) = false := beq_eq_false_iff_ne.mpr c13
              have c13b1 : (t455 != t460) = true := bne_iff_ne.mpr c13
              (first | rw [c13b0] | (simp only [i64_w, i32_w]; rw [c13b0]) | skip)
              have H' := Aside0.mk H
              clear H
              go_wp2
              go_meet
              case rel => exact ⟨_, (true), (by first | rfl | (simp; done) | (simp [*]; done)), H', ⟨by have := HK1.out; first | omega | exact Nat.le_refl _⟩, ⟨by repeat (first | (with_reducible first | exact HI454.out | apply IsS91.alloc | apply IsS91.drewN | apply IsS91.drew | apply IsS91.set_1 | apply IsS91.set_2) | exact HI454.out)⟩, ⟨by repeat (first | (with_reducible first | exact HB.out | apply below_alloc | apply pw_below_drewN | apply below_drew1 | refine below_set ?_ (IsS91.ge HI454.out)) | exact HB.out)⟩⟩
          case rest =>
            clear HC11
            try clear c1
            try clear c2
            try clear p2
            try clear c3
            try clear c3b0
            try clear c3b1
            try clear c6
            try clear p6
            try clear c8
            try clear c8b0
            try clear c11
            try clear c13
            try clear c13b0
            try clear c13b1
            try clear p2
            obtain ⟨kq, x48_10, rfl, HA, HJ10, HI454, HB⟩ := hcut
            cases kq with
            | zero => exact absurd HA.out (by simp [gaiterlaw06_TabSame.j1])
            | succ kj10 =>
              have H := HA.out
              clear HA
              simp only [gaiterlaw06_TabSame.j1] at H
              by_cases c16 : x48_10 = true
              · subst c16
                have H1 : (some false) = some r := by rw [if_pos rfl] at H; exact H
                clear H
                have H := H1
                clear H1
                obtain rfl := Option.some.inj H
                go_wp2
                go_ret
                exact ⟨by first | rfl | (simp [errW_none, errW_some] <;> rfl) | (simp [*, errW_none, errW_some] <;> rfl), by repeat (first | (with_reducible first | exact HB.out | apply below_alloc | apply pw_below_drewN | apply below_drew1 | refine below_set ?_ (IsS91.ge HI454.out)) | exact HB.out)⟩
              · replace c16 := Bool.eq_false_iff.mpr c16
                subst c16
                have H1 : (if t462.isNone = true then (if t461 < 1 then (some false) else ((fill_Reader_Left.f t457 t458 t459).bind fun bt466 => (if bt466.1 = (wrap64 ((wrap64 (8 * (l0.length : Int))) - (wrap64 (x5_1 + t461)))) then (gaiterlaw06_TabSame.l0 kj10 l0 t450 (wrap64 (x5_1 + t461)) (wrap64 (x6_1 + 1)) bt466.2.1 bt466.2.2.1 bt466.2.2.2) else (some false)))) else (some t450)) = some r := by rw [if_neg (show ¬ (false = true) by decide)] at H; exact H
                clear H
                have H := H1
                clear H1
                rcases t462 with _ | q465
                · have H1 : (if t461 < 1 then (some false) else ((fill_Reader_Left.f t457 t458 t459).bind fun bt466 => (if bt466.1 = (wrap64 ((wrap64 (8 * (l0.length : Int))) - (wrap64 (x5_1 + t461)))) then (gaiterlaw06_TabSame.l0 kj10 l0 t450 (wrap64 (x5_1 + t461)) (wrap64 (x6_1 + 1)) bt466.2.1 bt466.2.2.1 bt466.2.2.2) else (some false)))) = some r := by rw [if_pos (show (none : Option Int).isNone = true by rfl)] at H; exact H
                  clear H
                  have H := H1
                  clear H1
                  try simp only [errW_none, errW_some]
                  by_cases c17 : t461 < 1
                  · rw [if_pos c17] at H
                    have c17b0 : decide (t461 < 1) = true := decide_eq_true c17
                    clear c17
                    obtain rfl := Option.some.inj H
                    go_wp2
                    go_ret
                    exact ⟨by first | rfl | (simp [errW_none, errW_some] <;> rfl) | (simp [*, errW_none, errW_some] <;> rfl), by repeat (first | (with_reducible first | exact HB.out | apply below_alloc | apply pw_below_drewN | apply below_drew1 | refine below_set ?_ (IsS91.ge HI454.out)) | exact HB.out)⟩
                  · rw [if_neg c17] at H
                    have c17b0 : decide (t461 < 1) = false := decide_eq_false c17
                    clear c17
                    replace H := Option.bind_eq_some_iff.mp H
                    obtain ⟨⟨t466, t467, t468, t469⟩, A180, H⟩ := H
                    replace H : (if t466 = (wrap64 ((wrap64 (8 * (l0.length : Int))) - (wrap64 (x5_1 + t461)))) then (gaiterlaw06_TabSame.l0 kj10 l0 t450 (wrap64 (x5_1 + t461)) (wrap64 (x6_1 + 1)) t467 t468 t469) else (some false)) = some r := H
                    have A18 := Aside0.mk A180
                    clear A180
                    by_cases c19 : t466 = (wrap64 ((wrap64 (8 * (l0.length : Int))) - (wrap64 (x5_1 + t461))))
                    · rw [if_pos c19] at H
                      have c19b0 : (t466 == (wrap64 ((wrap64 (8 * (l0.length : Int))) - (wrap64 (x5_1 + t461))))) = true := beq_iff_eq.mpr c19
                      have c19b1 : (t466 != (wrap64 ((wrap64 (8 * (l0.length : Int))) - (wrap64 (x5_1 + t461))))) = false := bne_eq_false_iff_eq.mpr c19
                      clear c19
                      have H' := Aside0.mk H
                      clear H
                      go_wp2_with (first | (go_at_call 29; (with_reducible refine (fill_Reader_Left.calls g454 t457 t458 t459 t466 t467 t468 t469 w _ ?side1 ?side2 A18.out).mono ?_); (case side1 => repeat (first | (with_reducible first | exact HI454.out | apply IsS91.alloc | apply IsS91.drewN | apply IsS91.drew | apply IsS91.set_1 | apply IsS91.set_2) | exact HI454.out)); (case side2 => repeat (first | (with_reducible first | exact HB.out | apply below_alloc | apply pw_below_drewN | apply below_drew1 | refine below_set ?_ (IsS91.ge HI454.out)) | exact HB.out)); rintro e w20 ⟨rfl, hi, hb, hk⟩; have n0_ := Aside0.mk (hb); have n1_ := Aside0.mk (hi); clear HB; clear HI454; have HB := n0_; have HI454 := n1_; clear n0_ n1_; (try clear hb); (try clear hb2); (try clear hk); (try clear hi)))
                      go_roundg kj10
                      case measure => have := HK1.out; have := HJ10.out; omega
                      case rel => exact ⟨(wrap64 (x5_1 + t461)), (wrap64 (x6_1 + 1)), (t467), (t468), (t469), (by first | rfl | (simp; done) | (simp [*]; done)), (by first | rfl | (simp; done) | (simp [*]; done)), H', ⟨by have := HK1.out; have := HJ10.out; omega⟩, ⟨by repeat (first | (with_reducible first | exact HI454.out | apply IsS91.alloc | apply IsS91.drewN | apply IsS91.drew | apply IsS91.set_1 | apply IsS91.set_2) | exact HI454.out)⟩, ⟨by repeat (first | (with_reducible first | exact HB.out | apply below_alloc | apply pw_below_drewN | apply below_drew1 | refine below_set ?_ (IsS91.ge HI454.out)) | exact HB.out)⟩⟩
                    · rw [if_neg c19] at H
                      have c19b0 : (t466 == (wrap64 ((wrap64 (8 * (l0.length : Int))) - (wrap64 (x5_1 + t461))))) = false := beq_eq_false_iff_ne.mpr c19
                      have c19b1 : (t466 != (wrap64 ((wrap64 (8 * (l0.length : Int))) - (wrap64 (x5_1 + t461))))) = true := bne_iff_ne.mpr c19
                      obtain rfl := Option.some.inj H
                      go_wp2_with (first | (go_at_call 29; (with_reducible refine (fill_Reader_Left.calls g454 t457 t458 t459 t466 t467 t468 t469 w _ ?side1 ?side2 A18.out).mono ?_); (case side1 => repeat (first | (with_reducible first | exact HI454.out | apply IsS91.alloc | apply IsS91.drewN | apply IsS91.drew | apply IsS91.set_1 | apply IsS91.set_2) | exact HI454.out)); (case side2 => repeat (first | (with_reducible first | exact HB.out | apply below_alloc | apply pw_below_drewN | apply below_drew1 | refine below_set ?_ (IsS91.ge HI454.out)) | exact HB.out)); rintro e w21 ⟨rfl, hi, hb, hk⟩; have n0_ := Aside0.mk (hb); have n1_ := Aside0.mk (hi); clear HB; clear HI454; have HB := n0_; have HI454 := n1_; clear n0_ n1_; (try clear hb); (try clear hb2); (try clear hk); (try clear hi)))
                      go_ret
                      exact ⟨by first | rfl | (simp [errW_none, errW_some] <;> rfl) | (simp [*, errW_none, errW_some] <;> rfl), by repeat (first | (with_reducible first | exact HB.out | apply below_alloc | apply pw_below_drewN | apply below_drew1 | refine below_set ?_ (IsS91.ge HI454.out)) | exact HB.out)⟩
                · have H1 : (some t450) = some r := by rw [if_neg (show ¬ (some q465).isNone = true by simp)] at H; exact H
                  clear H
                  have H := H1
                  clear H1
                  try simp only [errW_none, errW_some]
                  obtain rfl := Option.some.inj H
                  go_wp2
                  go_ret
                  exact ⟨by first | rfl | (simp [errW_none, errW_some] <;> rfl) | (simp [*, errW_none, errW_some] <;> rfl), by repeat (first | (with_reducible first | exact HB.out | apply below_alloc | apply pw_below_drewN | apply below_drew1 | refine below_set ?_ (IsS91.ge HI454.out)) | exact HB.out)⟩
        · rw [if_neg c8] at H
          have c8b0 : decide (x6_1 < (wrap64 ((wrap64 (8 * (l0.length : Int))) + 1))) = false := decide_eq_false c8
          clear c8
          obtain rfl := Option.some.inj H
          go_wp2
          go_ret
          exact ⟨by first | rfl | (simp [errW_none, errW_some] <;> rfl) | (simp [*, errW_none, errW_some] <;> rfl), by repeat (first | (with_reducible first | exact HB.out | apply below_alloc | apply pw_below_drewN | apply below_drew1 | refine below_set ?_ (IsS91.ge HI454.out)) | exact HB.out)⟩

/-- THE ONE PURE STATEMENT of gaiterlaw06_TabSame: yours. -/
def gaiterlaw06_TabSame.Pure : Prop := ∀ (l0 : List Int), l0.length ≤ maxLen → l0.length * 1 ≤ 140737488351232 → (∀ x ∈ l0, (Lit.int .u8 x).wf = true) → ∃ k, gaiterlaw06_TabSame.f k l0 = some true
theorem gaiterlaw06_TabSame.walk (P : gaiterlaw06_TabSame.Pure) (a0 : Option Addr) (len0 cap0 : Nat) (z0 : List Int) (w : World) (w0 : (a0 = none ∧ len0 = 0 ∧ cap0 = 0 ∧ z0 = []) ∨ ∃ x, a0 = some x ∧ len0 ≤ cap0 ∧ cap0 ≤ maxLen ∧ z0.length = cap0 ∧ (∀ i, i < z0.length → w.cell? (x.add i) = some (.int .u8 (z0.getD i 0))) ∧ ∀ n ∈ z0, (Lit.int .u8 n).wf = true) (y0 : len0 * 1 ≤ 140737488351232) :
    Calls Try.prog 6 #[.slice a0 len0 cap0] w fun e w' => e = .returned (.bool true) ∧ Below w.heap.size w w' := by
  obtain ⟨l0, rfl, hr0, hm0, hw0, hc0⟩ := ReadsInt.ofRowC w0
  obtain ⟨k, h⟩ := P l0 hm0 y0 hw0
  refine (gaiterlaw06_TabSame.calls k _ _ l0 true w (Kd.C_of_reads (d := (0 : Int)) (h1 := fun _ => rfl) hr0) hc0 h).mono ?_
  rintro e w' ⟨rfl, hd⟩
  exact ⟨rfl, hd⟩

end Go.Proofs.Ytfpcbnkipdjlhab.All
