-- written by a program of the session out of the translation; Lean checks it
import Derived.Test.YtfpcbnkipdjlhaaAllx0
import Derived.Test.YtfpcbnkipdjlhaaAllx13
import Derived.Test.YtfpcbnkipdjlhaaAllx23
import Derived.Test.YtfpcbnkipdjlhaaAllx24
import Derived.Test.YtfpcbnkipdjlhaaAllx26
import Derived.Test.YtfpcbnkipdjlhaaAllx28
namespace Go.Proofs.Ytfpcbnkipdjlhaa.All
open Go.RowKit Go.Proofs.YtfpcbnkipdjlhaaW.PrintWords Go.Proofs.YtfpcbnkipdjlhaaW.PrintLast Go.Proofs.YtfpcbnkipdjlhaaW.PrintMore
attribute [local go_sem] max2_int min2_int max_two min_two max_three min_three max_four min_four   -- for this text's walks alone
set_option linter.unusedVariables false
set_option linter.unusedSimpArgs false

/-! ### gaiterlaw02_FillBits: function 12 -/
mutual
def gaiterlaw02_FillBits.j0 : Nat → List Int → List Int → Bool → Bool → Option (Bool)
  | 0, _, _, _, _ => none
  | k + 1, x0, x1, x5, x25 => if x25 = true then (some x5) else ((fill_New.f x0).bind fun bt409 => (gaiterlaw02_FillBits.l0 k x0 x1 x5 0 0 bt409.1 bt409.2.1 bt409.2.2))
def gaiterlaw02_FillBits.l0 : Nat → List Int → List Int → Bool → Int → Int → List Int → Int → Int → Option (Bool)
  | 0, _, _, _, _, _, _, _, _ => none
  | k + 1, x0, x1, x5, x7, x8, x413000, x413001, x413002 => if x8 < (x1.length : Int) then (if 0 ≤ x8 then ((gaiterlaw00_Pick.f (rd x1 x8) 65).bind fun t418 => ((bits_Take.f k x0 x7 t418).bind fun bt419 => ((fill_Reader_Read.f k x413000 x413001 x413002 t418).bind fun bt421 => (if bt421.1 = bt419.1 then (gaiterlaw02_FillBits.j2 k x0 x1 x5 x7 x8 t418 bt421.2.1 (bt421.2.1 != bt419.2) bt421.2.2.1 bt421.2.2.2.1 bt421.2.2.2.2) else (gaiterlaw02_FillBits.j2 k x0 x1 x5 x7 x8 t418 bt421.2.1 true bt421.2.2.1 bt421.2.2.2.1 bt421.2.2.2.2))))) else (none)) else (if x5 = true then ((fill_Reader_Left.f x413000 x413001 x413002).bind fun bt413 => (some (bt413.1 == (wrap64 ((wrap64 (8 * (x0.length : Int))) - x7))))) else (some false))
def gaiterlaw02_FillBits.j2 : Nat → List Int → List Int → Bool → Int → Int → Int → Bool → Bool → List Int → Int → Int → Option (Bool)
  | 0, _, _, _, _, _, _, _, _, _, _, _ => none
  | k + 1, x0, x1, x5, x7, x8, x9, x13, x60, x413000, x413001, x413002 => if x60 = true then (some false) else (if x13 = true then (gaiterlaw02_FillBits.j3 k x0 x1 x5 (wrap64 (x7 + x9)) x8 x9 x413000 x413001 x413002) else (gaiterlaw02_FillBits.j3 k x0 x1 x5 x7 x8 x9 x413000 x413001 x413002))
def gaiterlaw02_FillBits.j3 : Nat → List Int → List Int → Bool → Int → Int → Int → List Int → Int → Int → Option (Bool)
  | 0, _, _, _, _, _, _, _, _, _ => none
  | k + 1, x0, x1, x5, x7, x8, x9, x413000, x413001, x413002 => (fill_Reader_Left.f x413000 x413001 x413002).bind fun bt426 => ((bits_Take.f k x0 x7 (mn (mn x9 56) bt426.1)).bind fun bt430 => (if bt430.2 = true then ((fill_Reader_Peek.f k bt426.2.1 bt426.2.2.1 bt426.2.2.2 (mn (mn x9 56) bt426.1)).bind fun bt432 => (if bt432.1 = bt430.1 then (gaiterlaw02_FillBits.l0 k x0 x1 x5 x7 (wrap64 (x8 + 1)) bt432.2.1 bt432.2.2.1 bt432.2.2.2) else (some false))) else (some false)))
end
def gaiterlaw02_FillBits.f (k : Nat) (l0 : List Int) (l1 : List Int) : Option (Bool) := (gaiterlaw02_up.f k).bind fun t408 => (if (l0.length : Int) > 500 then (gaiterlaw02_FillBits.j0 k l0 l1 t408 true) else (gaiterlaw02_FillBits.j0 k l0 l1 t408 (decide ((l1.length : Int) > 100))))
theorem gaiterlaw02_FillBits.mono_l : ∀ k, (∀ y0 y1 y2 y3, LeO (gaiterlaw02_FillBits.j0 k y0 y1 y2 y3) (gaiterlaw02_FillBits.j0 (k + 1) y0 y1 y2 y3)) ∧ (∀ y0 y1 y2 y3 y4 y5 y6 y7, LeO (gaiterlaw02_FillBits.l0 k y0 y1 y2 y3 y4 y5 y6 y7) (gaiterlaw02_FillBits.l0 (k + 1) y0 y1 y2 y3 y4 y5 y6 y7)) ∧ (∀ y0 y1 y2 y3 y4 y5 y6 y7 y8 y9 y10, LeO (gaiterlaw02_FillBits.j2 k y0 y1 y2 y3 y4 y5 y6 y7 y8 y9 y10) (gaiterlaw02_FillBits.j2 (k + 1) y0 y1 y2 y3 y4 y5 y6 y7 y8 y9 y10)) ∧ (∀ y0 y1 y2 y3 y4 y5 y6 y7 y8, LeO (gaiterlaw02_FillBits.j3 k y0 y1 y2 y3 y4 y5 y6 y7 y8) (gaiterlaw02_FillBits.j3 (k + 1) y0 y1 y2 y3 y4 y5 y6 y7 y8))
  | 0 => ⟨fun _ _ _ _ r h => by simp [gaiterlaw02_FillBits.j0] at h, fun _ _ _ _ _ _ _ _ r h => by simp [gaiterlaw02_FillBits.l0] at h, fun _ _ _ _ _ _ _ _ _ _ _ r h => by simp [gaiterlaw02_FillBits.j2] at h, fun _ _ _ _ _ _ _ _ _ r h => by simp [gaiterlaw02_FillBits.j3] at h⟩
  | k + 1 => by
    obtain ⟨ih0, ih1, ih2, ih3⟩ := gaiterlaw02_FillBits.mono_l k
    refine ⟨?_, ?_, ?_, ?_⟩
    · intro y0 y1 y2 y3
      unfold gaiterlaw02_FillBits.j0
      repeat' first
      | (with_reducible exact ih0 _ _ _ _)
      | (with_reducible exact ih1 _ _ _ _ _ _ _ _)
      | (with_reducible exact ih2 _ _ _ _ _ _ _ _ _ _ _)
      | (with_reducible exact ih3 _ _ _ _ _ _ _ _ _)
      | (with_reducible exact bits_Take.mono _ _ _ _)
      | (with_reducible exact fill_Reader_Peek.mono _ _ _ _ _)
      | (with_reducible exact fill_Reader_Read.mono _ _ _ _ _)
      | (with_reducible exact gaiterlaw02_up.mono _)
      | (with_reducible exact LeO.refl _)
      | (with_reducible exact LeO.none _)
      | (with_reducible refine LeO.ite ?_ ?_)
      | (with_reducible refine LeO.bind ?_ (fun _ => ?_))
      | exact ih0 _ _ _ _
      | exact ih1 _ _ _ _ _ _ _ _
      | exact ih2 _ _ _ _ _ _ _ _ _ _ _
      | exact ih3 _ _ _ _ _ _ _ _ _
      | exact bits_Take.mono _ _ _ _
      | exact fill_Reader_Peek.mono _ _ _ _ _
      | exact fill_Reader_Read.mono _ _ _ _ _
      | exact gaiterlaw02_up.mono _
      | exact LeO.none _
      | refine LeO.ite ?_ ?_
      | refine LeO.bind ?_ (fun _ => ?_)
    · intro y0 y1 y2 y3 y4 y5 y6 y7
      unfold gaiterlaw02_FillBits.l0
      repeat' first
      | (with_reducible exact ih0 _ _ _ _)
      | (with_reducible exact ih1 _ _ _ _ _ _ _ _)
      | (with_reducible exact ih2 _ _ _ _ _ _ _ _ _ _ _)
      | (with_reducible exact ih3 _ _ _ _ _ _ _ _ _)
      | (with_reducible exact bits_Take.mono _ _ _ _)
      | (with_reducible exact fill_Reader_Peek.mono _ _ _ _ _)
      | (with_reducible exact fill_Reader_Read.mono _ _ _ _ _)
      | (with_reducible exact gaiterlaw02_up.mono _)
      | (with_reducible exact LeO.refl _)
      | (with_reducible exact LeO.none _)
      | (with_reducible refine LeO.ite ?_ ?_)
      | (with_reducible refine LeO.bind ?_ (fun _ => ?_))
      | exact ih0 _ _ _ _
      | exact ih1 _ _ _ _ _ _ _ _
      | exact ih2 _ _ _ _ _ _ _ _ _ _ _
      | exact ih3 _ _ _ _ _ _ _ _ _
      | exact bits_Take.mono _ _ _ _
      | exact fill_Reader_Peek.mono _ _ _ _ _
      | exact fill_Reader_Read.mono _ _ _ _ _
      | exact gaiterlaw02_up.mono _
      | exact LeO.none _
      | refine LeO.ite ?_ ?_
      | refine LeO.bind ?_ (fun _ => ?_)
    · intro y0 y1 y2 y3 y4 y5 y6 y7 y8 y9 y10
      unfold gaiterlaw02_FillBits.j2
      repeat' first
      | (with_reducible exact ih0 _ _ _ _)
      | (with_reducible exact ih1 _ _ _ _ _ _ _ _)
      | (with_reducible exact ih2 _ _ _ _ _ _ _ _ _ _ _)
      | (with_reducible exact ih3 _ _ _ _ _ _ _ _ _)
      | (with_reducible exact bits_Take.mono _ _ _ _)
      | (with_reducible exact fill_Reader_Peek.mono _ _ _ _ _)
      | (with_reducible exact fill_Reader_Read.mono _ _ _ _ _)
      | (with_reducible exact gaiterlaw02_up.mono _)
      | (with_reducible exact LeO.refl _)
      | (with_reducible exact LeO.none _)
      | (with_reducible refine LeO.ite ?_ ?_)
      | (with_reducible refine LeO.bind ?_ (fun _ => ?_))
      | exact ih0 _ _ _ _
      | exact ih1 _ _ _ _ _ _ _ _
      | exact ih2 _ _ _ _ _ _ _ _ _ _ _
      | exact ih3 _ _ _ _ _ _ _ _ _
      | exact bits_Take.mono _ _ _ _
      | exact fill_Reader_Peek.mono _ _ _ _ _
      | exact fill_Reader_Read.mono _ _ _ _ _
      | exact gaiterlaw02_up.mono _
      | exact LeO.none _
      | refine LeO.ite ?_ ?_
      | refine LeO.bind ?_ (fun _ => ?_)
    · intro y0 y1 y2 y3 y4 y5 y6 y7 y8
      unfold gaiterlaw02_FillBits.j3
      repeat' first
      | (with_reducible exact ih0 _ _ _ _)
      | (with_reducible exact ih1 _ _ _ _ _ _ _ _)
      | (with_reducible exact ih2 _ _ _ _ _ _ _ _ _ _ _)
      | (with_reducible exact ih3 _ _ _ _ _ _ _ _ _)
      | (with_reducible exact bits_Take.mono _ _ _ _)
      | (with_reducible exact fill_Reader_Peek.mono _ _ _ _ _)
      | (with_reducible exact fill_Reader_Read.mono _ _ _ _ _)
      | (with_reducible exact gaiterlaw02_up.mono _)
      | (with_reducible exact LeO.refl _)
      | (with_reducible exact LeO.none _)
      | (with_reducible refine LeO.ite ?_ ?_)
      | (with_reducible refine LeO.bind ?_ (fun _ => ?_))
      | exact ih0 _ _ _ _
      | exact ih1 _ _ _ _ _ _ _ _
      | exact ih2 _ _ _ _ _ _ _ _ _ _ _
      | exact ih3 _ _ _ _ _ _ _ _ _
      | exact bits_Take.mono _ _ _ _
      | exact fill_Reader_Peek.mono _ _ _ _ _
      | exact fill_Reader_Read.mono _ _ _ _ _
      | exact gaiterlaw02_up.mono _
      | exact LeO.none _
      | refine LeO.ite ?_ ?_
      | refine LeO.bind ?_ (fun _ => ?_)
theorem gaiterlaw02_FillBits.mono : ∀ a0 a1 k, LeO (gaiterlaw02_FillBits.f k a0 a1) (gaiterlaw02_FillBits.f (k + 1) a0 a1) := by
  intro a0 a1 k
  obtain ⟨ih0, ih1, ih2, ih3⟩ := gaiterlaw02_FillBits.mono_l k
  unfold gaiterlaw02_FillBits.f
  repeat' first
      | (with_reducible exact ih0 _ _ _ _)
      | (with_reducible exact ih1 _ _ _ _ _ _ _ _)
      | (with_reducible exact ih2 _ _ _ _ _ _ _ _ _ _ _)
      | (with_reducible exact ih3 _ _ _ _ _ _ _ _ _)
      | (with_reducible exact bits_Take.mono _ _ _ _)
      | (with_reducible exact fill_Reader_Peek.mono _ _ _ _ _)
      | (with_reducible exact fill_Reader_Read.mono _ _ _ _ _)
      | (with_reducible exact gaiterlaw02_up.mono _)
      | (with_reducible exact LeO.refl _)
      | (with_reducible exact LeO.none _)
      | (with_reducible refine LeO.ite ?_ ?_)
      | (with_reducible refine LeO.bind ?_ (fun _ => ?_))
      | exact ih0 _ _ _ _
      | exact ih1 _ _ _ _ _ _ _ _
      | exact ih2 _ _ _ _ _ _ _ _ _ _ _
      | exact ih3 _ _ _ _ _ _ _ _ _
      | exact bits_Take.mono _ _ _ _
      | exact fill_Reader_Peek.mono _ _ _ _ _
      | exact fill_Reader_Read.mono _ _ _ _ _
      | exact gaiterlaw02_up.mono _
      | exact LeO.none _
      | refine LeO.ite ?_ ?_
      | refine LeO.bind ?_ (fun _ => ?_)
set_option maxHeartbeats 8000000 in
set_option maxRecDepth 100000 in
theorem gaiterlaw02_FillBits.calls (k : Nat) (A0 : Option Addr) (c0 : Nat) (l0 : List Int) (A1 : Option Addr) (c1 : Nat) (l1 : List Int) (r : Bool) (w : World) (hr0 : Kd.C (Kd.int .u8) w A0 l0.length l0) (hc0 : l0.length ≤ c0) (hr1 : Kd.C (Kd.int .i64) w A1 l1.length l1) (hc1 : l1.length ≤ c1) (h : gaiterlaw02_FillBits.f k l0 l1 = some r) :
    Calls Try.prog 12 #[.slice A0 l0.length c0, .slice A1 l1.length c1] w fun e w' => e = .returned (.bool r) ∧ Below w.heap.size w w' := by
  have HR0 := Aside0.mk hr0
  have HC0 := Aside0.mk hc0
  clear hr0 hc0
  have HR1 := Aside0.mk hr1
  have HC1 := Aside0.mk hc1
  clear hr1 hc1
  have HB := Aside0.mk (Below.refl w.heap.size w)
  have H : ((gaiterlaw02_up.f k).bind fun t408 => (if (l0.length : Int) > 500 then (gaiterlaw02_FillBits.j0 k l0 l1 t408 true) else (gaiterlaw02_FillBits.j0 k l0 l1 t408 (decide ((l1.length : Int) > 100))))) = some r := h
  clear h
  replace H := Option.bind_eq_some_iff.mp H
  obtain ⟨t408, A30, H⟩ := H
  replace H : (if (l0.length : Int) > 500 then (gaiterlaw02_FillBits.j0 k l0 l1 t408 true) else (gaiterlaw02_FillBits.j0 k l0 l1 t408 (decide ((l1.length : Int) > 100)))) = some r := H
  have A3 := Aside0.mk A30
  clear A30
  have HC4 := Aside0.mk H
  clear H
  go_enter Try.func12, Try.ntmps12
  go_upto_region 2 with (first | ((with_reducible refine gate_callee (f := 42) rfl ?_); refine goesL_ (some 17) rfl rfl Try.func42 (by kernel_rfl) rfl #[] rfl (by (try simp only [List.map_toArray, List.map_cons, List.map_nil]); first | done | rfl | (simp only [List.length_drop, List.length_take]; rfl)) ?_; (with_reducible refine (gaiterlaw02_up.calls k  t408 _ A3.out).mono ?_); rintro e w5 ⟨rfl, hb⟩; refine ⟨_, rfl, ?_⟩; have n0_ := Aside0.mk (below_step (by repeat (first | (with_reducible first | exact HB.out | apply below_alloc | apply pw_below_drewN | apply below_drew1) | exact HB.out)) hb); clear HB; have HB := n0_; clear n0_; (try clear hb); (try clear hb2); (try clear hk); (try clear hi)))
  (try simp only [Act.put, List.setIfInBounds_toArray, List.set_cons_zero, List.set_cons_succ])
  go_cut [25] (fun v25 wc => ∃ (kq : Nat) (x25_3 : Bool), v25 = .bool x25_3 ∧ Aside0 (gaiterlaw02_FillBits.j0 kq l0 l1 t408 x25_3 = some r) ∧ Aside0 (kq ≤ k) ∧ Aside0 (Below w.heap.size w wc))
  case first =>
    have H := HC4.out
    clear HC4
    by_cases c6 : (l0.length : Int) > 500
    · rw [if_pos c6] at H
      have c6b0 : decide (500 < (l0.length : Int)) = true := decide_eq_true c6
      have c6b1 : decide (500 < l0.length) = true := decide_eq_true (by omega)
      clear c6
      (first | rw [c6b0] | (simp only [i64_w, i32_w]; rw [c6b0]) | skip)
      have H' := Aside0.mk H
      clear H
      go_wp2
      go_meet
      case rel => exact ⟨_, (true), (by first | rfl | (simp; done) | (simp [*]; done)), H', ⟨by first | omega | exact Nat.le_refl _⟩, ⟨by repeat (first | (with_reducible first | exact HB.out | apply below_alloc | apply pw_below_drewN | apply below_drew1) | exact HB.out)⟩⟩
    · rw [if_neg c6] at H
      have c6b0 : decide (500 < (l0.length : Int)) = false := decide_eq_false c6
      have c6b1 : decide (500 < l0.length) = false := decide_eq_false (by omega)
      clear c6
      (first | rw [c6b0] | (simp only [i64_w, i32_w]; rw [c6b0]) | skip)
      have H' := Aside0.mk H
      clear H
      go_wp2
      go_meet
      case rel => exact ⟨_, (decide ((l1.length : Int) > 100)), (by first | rfl | (simp; done) | (simp [*]; done)), H', ⟨by first | omega | exact Nat.le_refl _⟩, ⟨by repeat (first | (with_reducible first | exact HB.out | apply below_alloc | apply pw_below_drewN | apply below_drew1) | exact HB.out)⟩⟩
  case rest =>
    clear HC4
    try clear c1
    try clear p2
    try clear c4
    try clear c6
    try clear c6b0
    try clear c6b1
    obtain ⟨kq, x25_3, rfl, HA, HJ3, HB⟩ := hcut
    cases kq with
    | zero => exact absurd HA.out (by simp [gaiterlaw02_FillBits.j0])
    | succ kj3 =>
      have H := HA.out
      clear HA
      simp only [gaiterlaw02_FillBits.j0] at H
      by_cases c7 : x25_3 = true
      · subst c7
        have H1 : (some t408) = some r := by rw [if_pos rfl] at H; exact H
        clear H
        have H := H1
        clear H1
        obtain rfl := Option.some.inj H
        go_wp2
        go_ret
        exact ⟨by first | rfl | (simp [errW_none, errW_some] <;> rfl) | (simp [*, errW_none, errW_some] <;> rfl), by repeat (first | (with_reducible first | exact HB.out | apply below_alloc | apply pw_below_drewN | apply below_drew1) | exact HB.out)⟩
      · replace c7 := Bool.eq_false_iff.mpr c7
        subst c7
        have H1 : ((fill_New.f l0).bind fun bt409 => (gaiterlaw02_FillBits.l0 kj3 l0 l1 t408 0 0 bt409.1 bt409.2.1 bt409.2.2)) = some r := by rw [if_neg (show ¬ (false = true) by decide)] at H; exact H
        clear H
        have H := H1
        clear H1
        replace H := Option.bind_eq_some_iff.mp H
        obtain ⟨⟨t409, t410, t411⟩, A80, H⟩ := H
        replace H : (gaiterlaw02_FillBits.l0 kj3 l0 l1 t408 0 0 t409 t410 t411) = some r := H
        have A8 := Aside0.mk A80
        clear A80
        have H' := Aside0.mk H
        clear H
        go_wp2_with (first | ((with_reducible refine gate_callee (f := 43) rfl ?_); refine goesL_ (some 28) rfl rfl Try.func43 (by kernel_rfl) rfl #[.slice A0 l0.length c0] rfl (by (try simp only [List.map_toArray, List.map_cons, List.map_nil]); first | done | rfl | (simp only [List.length_drop, List.length_take]; rfl)) ?_; (with_reducible refine (fill_New.calls _ _ l0 t409 t410 t411 w _ ?side1 ?side2 ?side3 A8.out).mono ?_); (case side1 => repeat (first | (with_reducible first | exact HB.out | apply below_alloc | apply pw_below_drewN | apply below_drew1) | exact HB.out)); (case side2 => exact HR0.out); (case side3 => exact HC0.out); rintro e w9 ⟨g412, rfl, hi, hb, hb2⟩; refine ⟨_, rfl, ?_⟩; have n0_ := Aside0.mk (hb); have n1_ := Aside0.mk (hi); clear HB; have HB := n0_; have HI412 := n1_; clear n0_ n1_; (try clear hb); (try clear hb2); (try clear hk); (try clear hi)))
        go_loopg [7, 8] kj3 (fun kq v7 v8 w' => ∃ (x7_2 : Int) (x8_2 : Int) (x413000_2 : List Int) (x413001_2 : Int) (x413002_2 : Int), v7 = .int .i64 x7_2 ∧ v8 = .int .i64 x8_2 ∧ Aside0 (gaiterlaw02_FillBits.l0 kq l0 l1 t408 x7_2 x8_2 x413000_2 x413001_2 x413002_2 = some r) ∧ Aside0 (kq ≤ kj3) ∧ Aside0 (IsS95 w w' g412 x413000_2 x413001_2 x413002_2) ∧ Aside0 (Below w.heap.size w w'))
        case atStart => exact ⟨(0), (0), (t409), (t410), (t411), (by first | rfl | (simp; done) | (simp [*]; done)), (by first | rfl | (simp; done) | (simp [*]; done)), H', ⟨Nat.le_refl _⟩, ⟨by repeat (first | (with_reducible first | exact HI412.out | apply IsS95.alloc | apply IsS95.drewN | apply IsS95.drew | apply IsS95.set_1 | apply IsS95.set_2) | exact HI412.out)⟩, ⟨by repeat (first | (with_reducible first | exact HB.out | apply below_alloc | apply pw_below_drewN | apply below_drew1 | refine below_set ?_ (IsS95.ge HI412.out)) | exact HB.out)⟩⟩
        case round =>
          clear H'
          try clear c1
          try clear p2
          try clear c4
          try clear c6
          try clear c6b0
          try clear c6b1
          try clear c7
          try clear p2
          obtain ⟨x7_2, x8_2, x413000_2, x413001_2, x413002_2, rfl, rfl, HA, HK2, HI412, HB⟩ := hrel
          cases gk with
          | zero => exact absurd HA.out (by simp [gaiterlaw02_FillBits.l0])
          | succ k2 =>
            have H := HA.out
            clear HA
            simp only [gaiterlaw02_FillBits.l0] at H
            by_cases c10 : x8_2 < (l1.length : Int)
            · rw [if_pos c10] at H
              have c10b0 : decide (x8_2 < (l1.length : Int)) = true := decide_eq_true c10
              clear c10
              by_cases c11 : 0 ≤ x8_2
              · rw [if_pos c11] at H
                have c11b0 : decide (0 ≤ x8_2) = true := decide_eq_true c11
                clear c11
                replace H := Option.bind_eq_some_iff.mp H
                obtain ⟨t418, A120, H⟩ := H
                replace H : ((bits_Take.f k2 l0 x7_2 t418).bind fun bt419 => ((fill_Reader_Read.f k2 x413000_2 x413001_2 x413002_2 t418).bind fun bt421 => (if bt421.1 = bt419.1 then (gaiterlaw02_FillBits.j2 k2 l0 l1 t408 x7_2 x8_2 t418 bt421.2.1 (bt421.2.1 != bt419.2) bt421.2.2.1 bt421.2.2.2.1 bt421.2.2.2.2) else (gaiterlaw02_FillBits.j2 k2 l0 l1 t408 x7_2 x8_2 t418 bt421.2.1 true bt421.2.2.1 bt421.2.2.2.1 bt421.2.2.2.2)))) = some r := H
                have A12 := Aside0.mk A120
                clear A120
                replace H := Option.bind_eq_some_iff.mp H
                obtain ⟨⟨t419, t420⟩, A130, H⟩ := H
                replace H : ((fill_Reader_Read.f k2 x413000_2 x413001_2 x413002_2 t418).bind fun bt421 => (if bt421.1 = t419 then (gaiterlaw02_FillBits.j2 k2 l0 l1 t408 x7_2 x8_2 t418 bt421.2.1 (bt421.2.1 != t420) bt421.2.2.1 bt421.2.2.2.1 bt421.2.2.2.2) else (gaiterlaw02_FillBits.j2 k2 l0 l1 t408 x7_2 x8_2 t418 bt421.2.1 true bt421.2.2.1 bt421.2.2.2.1 bt421.2.2.2.2))) = some r := H
                have A13 := Aside0.mk A130
                clear A130
                replace H := Option.bind_eq_some_iff.mp H
                obtain ⟨⟨t421, t422, t423, t424, t425⟩, A140, H⟩ := H
                replace H : (if t421 = t419 then (gaiterlaw02_FillBits.j2 k2 l0 l1 t408 x7_2 x8_2 t418 t422 (t422 != t420) t423 t424 t425) else (gaiterlaw02_FillBits.j2 k2 l0 l1 t408 x7_2 x8_2 t418 t422 true t423 t424 t425)) = some r := H
                have A14 := Aside0.mk A140
                clear A140
                have HC15 := Aside0.mk H
                clear H
                have p417 : 0 ≤ (x8_2 : Int) := of_decide_eq_true (by first | (with_reducible assumption) | assumption)
                have q417 : x8_2 < (l1.length : Int) := of_decide_eq_true (by first | (with_reducible assumption) | assumption)
                obtain ⟨ad417, e417, hx417_0⟩ := Kd.at_int HR1.out x8_2 p417 q417
                cases e417
                replace hx417_0 := (HB.out.cell (World.block_lt_of_cell? w _ hx417_0)).trans hx417_0
                replace p417 := eq_true p417
                (try (have q417s := q417; simp only [List.length_drop, List.length_take] at q417s; replace q417s := eq_true q417s)); replace q417 := eq_true q417
                go_upto_region 12 with (first | ((with_reducible refine gate_callee (f := 29) rfl ?_); refine goesL_ (some 39) rfl rfl Try.func29 (by kernel_rfl) rfl #[.int .i64 (rd l1 x8_2), .int .i64 65] rfl (by (try simp only [List.map_toArray, List.map_cons, List.map_nil]); first | done | rfl | (simp only [List.length_drop, List.length_take]; rfl)) ?_; (with_reducible refine (gaiterlaw00_Pick.calls (rd l1 x8_2) 65 t418 _ A12.out).mono ?_); rintro e w' ⟨rfl, ⟨nd, rfl⟩⟩; refine ⟨_, rfl, ?_⟩) | ((with_reducible refine gate_callee (f := 50) rfl ?_); refine goesL_ (some 44) rfl rfl Try.func50 (by kernel_rfl) rfl #[.slice A0 l0.length c0, .int .i64 x7_2, .int .i64 t418] rfl (by (try simp only [List.map_toArray, List.map_cons, List.map_nil]); first | done | rfl | (simp only [List.length_drop, List.length_take]; rfl)) ?_; (with_reducible refine (bits_Take.calls k2 _ _ l0 x7_2 t418 t419 t420 _ ?side1 ?side2 A13.out).mono ?_); (case side1 => repeat (first | exact (Kd.C_below HR0.out (by repeat (first | (with_reducible first | exact HB.out | apply below_alloc | apply pw_below_drewN | apply below_drew1 | refine below_set ?_ (IsS95.ge HI412.out)) | exact HB.out))) | (with_reducible refine Kd.C_alloc ?_ _) | (with_reducible refine Kd.C_drewN ?_ _) | (with_reducible refine Kd.C_drew ?_))); (case side2 => exact HC0.out); rintro e w' ⟨rfl, ⟨nd, rfl⟩⟩; refine ⟨_, rfl, ?_⟩) | ((with_reducible refine gate_callee (f := 48) rfl ?_); refine goesL_ (some 50) rfl rfl Try.func48 (by kernel_rfl) rfl #[.pointer (some ⟨g412, 0, none⟩), .int .i64 t418] rfl (by (try simp only [List.map_toArray, List.map_cons, List.map_nil]); first | done | rfl | (simp only [List.length_drop, List.length_take]; rfl)) ?_; (with_reducible refine (fill_Reader_Read.calls k2 g412 x413000_2 x413001_2 x413002_2 t418 t421 t422 t423 t424 t425 w _ ?side1 ?side2 A14.out).mono ?_); (case side1 => repeat (first | (with_reducible first | exact HI412.out | apply IsS95.alloc | apply IsS95.drewN | apply IsS95.drew | apply IsS95.set_1 | apply IsS95.set_2) | exact HI412.out)); (case side2 => repeat (first | (with_reducible first | exact HB.out | apply below_alloc | apply pw_below_drewN | apply below_drew1 | refine below_set ?_ (IsS95.ge HI412.out)) | exact HB.out)); rintro e w16 ⟨rfl, hi, hb, hk⟩; refine ⟨_, rfl, ?_⟩; have n0_ := Aside0.mk (hb); have n1_ := Aside0.mk (hi); clear HB; clear HI412; have HB := n0_; have HI412 := n1_; clear n0_ n1_; (try clear hb); (try clear hb2); (try clear hk); (try clear hi)))
                (try simp only [Act.put, List.setIfInBounds_toArray, List.set_cons_zero, List.set_cons_succ])
                go_cut [60] (fun v60 wc => ∃ (kq : Nat) (x60_14 : Bool), v60 = .bool x60_14 ∧ Aside0 (gaiterlaw02_FillBits.j2 kq l0 l1 t408 x7_2 x8_2 t418 t422 x60_14 t423 t424 t425 = some r) ∧ Aside0 (kq ≤ k2) ∧ Aside0 (IsS95 w wc g412 t423 t424 t425) ∧ Aside0 (Below w.heap.size w wc))
                case first =>
                  have H := HC15.out
                  clear HC15
                  by_cases c17 : t421 = t419
                  · rw [if_pos c17] at H
                    have c17b0 : (t421 == t419) = true := beq_iff_eq.mpr c17
                    have c17b1 : (t421 != t419) = false := bne_eq_false_iff_eq.mpr c17
                    clear c17
                    (first | rw [c17b0] | (simp only [i64_w, i32_w]; rw [c17b0]) | skip)
                    have H' := Aside0.mk H
                    clear H
                    go_wp2
                    go_meet
                    case rel => exact ⟨_, ((t422 != t420)), (by first | rfl | (simp; done) | (simp [*]; done)), H', ⟨by have := HJ3.out; have := HK2.out; first | omega | exact Nat.le_refl _⟩, ⟨by repeat (first | (with_reducible first | exact HI412.out | apply IsS95.alloc | apply IsS95.drewN | apply IsS95.drew | apply IsS95.set_1 | apply IsS95.set_2) | exact HI412.out)⟩, ⟨by repeat (first | (with_reducible first | exact HB.out | apply below_alloc | apply pw_below_drewN | apply below_drew1 | refine below_set ?_ (IsS95.ge HI412.out)) | exact HB.out)⟩⟩
                  · rw [if_neg c17] at H
                    have c17b0 : (t421 == t419) = false := beq_eq_false_iff_ne.mpr c17
                    have c17b1 : (t421 != t419) = true := bne_iff_ne.mpr c17
                    (first | rw [c17b0] | (simp only [i64_w, i32_w]; rw [c17b0]) | skip)
                    have H' := Aside0.mk H
                    clear H
                    go_wp2
                    go_meet
                    case rel => exact ⟨_, (true), (by first | rfl | (simp; done) | (simp [*]; done)), H', ⟨by have := HJ3.out; have := HK2.out; first | omega | exact Nat.le_refl _⟩, ⟨by repeat (first | (with_reducible first | exact HI412.out | apply IsS95.alloc | apply IsS95.drewN | apply IsS95.drew | apply IsS95.set_1 | apply IsS95.set_2) | exact HI412.out)⟩, ⟨by repeat (first | (with_reducible first | exact HB.out | apply below_alloc | apply pw_below_drewN | apply below_drew1 | refine below_set ?_ (IsS95.ge HI412.out)) | exact HB.out)⟩⟩
                case rest =>
                  clear HC15
                  try clear c1
                  try clear c2
                  try clear p2
                  try clear c4
                  try clear p4
                  try clear q4
                  try clear hx4
                  try clear c5
                  try clear c6
                  try clear c6b0
                  try clear c6b1
                  try clear c7
                  try clear c10
                  try clear c10b0
                  try clear c11
                  try clear c11b0
                  try clear c12
                  try clear c17
                  try clear c17b0
                  try clear c17b1
                  try clear hx417_0
                  try clear p2
                  try clear p417
                  try clear q417
                  obtain ⟨kq, x60_14, rfl, HA, HJ14, HI412, HB⟩ := hcut
                  cases kq with
                  | zero => exact absurd HA.out (by simp [gaiterlaw02_FillBits.j2])
                  | succ kj14 =>
                    have H := HA.out
                    clear HA
                    simp only [gaiterlaw02_FillBits.j2] at H
                    by_cases c18 : x60_14 = true
                    · subst c18
                      have H1 : (some false) = some r := by rw [if_pos rfl] at H; exact H
                      clear H
                      have H := H1
                      clear H1
                      obtain rfl := Option.some.inj H
                      go_wp2
                      go_ret
                      exact ⟨by first | rfl | (simp [errW_none, errW_some] <;> rfl) | (simp [*, errW_none, errW_some] <;> rfl), by repeat (first | (with_reducible first | exact HB.out | apply below_alloc | apply pw_below_drewN | apply below_drew1 | refine below_set ?_ (IsS95.ge HI412.out)) | exact HB.out)⟩
                    · replace c18 := Bool.eq_false_iff.mpr c18
                      subst c18
                      have H1 : (if t422 = true then (gaiterlaw02_FillBits.j3 kj14 l0 l1 t408 (wrap64 (x7_2 + t418)) x8_2 t418 t423 t424 t425) else (gaiterlaw02_FillBits.j3 kj14 l0 l1 t408 x7_2 x8_2 t418 t423 t424 t425)) = some r := by rw [if_neg (show ¬ (false = true) by decide)] at H; exact H
                      clear H
                      have H := H1
                      clear H1
                      have HC19 := Aside0.mk H
                      clear H
                      go_upto_if 61 with (fail)
                      go_cut [7] (fun v7 wc => ∃ (kq : Nat) (x7_18 : Int), v7 = .int .i64 x7_18 ∧ Aside0 (gaiterlaw02_FillBits.j3 kq l0 l1 t408 x7_18 x8_2 t418 t423 t424 t425 = some r) ∧ Aside0 (kq ≤ kj14) ∧ Aside0 (IsS95 w wc g412 t423 t424 t425) ∧ Aside0 (Below w.heap.size w wc))
                      case first =>
                        have H := HC19.out
                        clear HC19
                        by_cases c20 : t422 = true
                        · subst c20
                          have H1 : (gaiterlaw02_FillBits.j3 kj14 l0 l1 t408 (wrap64 (x7_2 + t418)) x8_2 t418 t423 t424 t425) = some r := by rw [if_pos rfl] at H; exact H
                          clear H
                          have H := H1
                          clear H1
                          have H' := Aside0.mk H
                          clear H
                          go_wp2
                          go_meet
                          case rel => exact ⟨_, (wrap64 (x7_2 + t418)), (by first | rfl | (simp; done) | (simp [*]; done)), H', ⟨by have := HJ3.out; have := HK2.out; have := HJ14.out; first | omega | exact Nat.le_refl _⟩, ⟨by repeat (first | (with_reducible first | exact HI412.out | apply IsS95.alloc | apply IsS95.drewN | apply IsS95.drew | apply IsS95.set_1 | apply IsS95.set_2) | exact HI412.out)⟩, ⟨by repeat (first | (with_reducible first | exact HB.out | apply below_alloc | apply pw_below_drewN | apply below_drew1 | refine below_set ?_ (IsS95.ge HI412.out)) | exact HB.out)⟩⟩
                        · replace c20 := Bool.eq_false_iff.mpr c20
                          subst c20
                          have H1 : (gaiterlaw02_FillBits.j3 kj14 l0 l1 t408 x7_2 x8_2 t418 t423 t424 t425) = some r := by rw [if_neg (show ¬ (false = true) by decide)] at H; exact H
                          clear H
                          have H := H1
                          clear H1
                          have H' := Aside0.mk H
                          clear H
                          go_wp2
                          go_meet
                          case rel => exact ⟨_, (x7_2), (by first | rfl | (simp; done) | (simp [*]; done)), H', ⟨by have := HJ3.out; have := HK2.out; have := HJ14.out; first | omega | exact Nat.le_refl _⟩, ⟨by repeat (first | (with_reducible first | exact HI412.out | apply IsS95.alloc | apply IsS95.drewN | apply IsS95.drew | apply IsS95.set_1 | apply IsS95.set_2) | exact HI412.out)⟩, ⟨by repeat (first | (with_reducible first | exact HB.out | apply below_alloc | apply pw_below_drewN | apply below_drew1 | refine below_set ?_ (IsS95.ge HI412.out)) | exact HB.out)⟩⟩
                      case rest =>
                        clear HC19
                        try clear c1
                        try clear c2
                        try clear p2
                        try clear c4
                        try clear p4
                        try clear q4
                        try clear hx4
                        try clear c5
                        try clear c6
                        try clear c6b0
                        try clear c6b1
                        try clear p6
                        try clear c7
                        try clear c10
                        try clear c10b0
                        try clear c11
                        try clear c11b0
                        try clear c12
                        try clear c17
                        try clear c17b0
                        try clear c17b1
                        try clear c18
                        try clear c20
                        try clear hx417_0
                        try clear p2
                        try clear p4
                        try clear p417
                        try clear q4
                        try clear q417
                        obtain ⟨kq, x7_18, rfl, HA, HJ18, HI412, HB⟩ := hcut
                        cases kq with
                        | zero => exact absurd HA.out (by simp [gaiterlaw02_FillBits.j3])
                        | succ kj18 =>
                          have H := HA.out
                          clear HA
                          simp only [gaiterlaw02_FillBits.j3] at H
                          replace H := Option.bind_eq_some_iff.mp H
                          obtain ⟨⟨t426, t427, t428, t429⟩, A210, H⟩ := H
                          replace H : ((bits_Take.f kj18 l0 x7_18 (mn (mn t418 56) t426)).bind fun bt430 => (if bt430.2 = true then ((fill_Reader_Peek.f kj18 t427 t428 t429 (mn (mn t418 56) t426)).bind fun bt432 => (if bt432.1 = bt430.1 then (gaiterlaw02_FillBits.l0 kj18 l0 l1 t408 x7_18 (wrap64 (x8_2 + 1)) bt432.2.1 bt432.2.2.1 bt432.2.2.2) else (some false))) else (some false))) = some r := H
                          have A21 := Aside0.mk A210
                          clear A210
                          obtain ⟨ji22, hji22⟩ : ∃ j_ : Int, (mn t418 56) = j_ := ⟨_, rfl⟩
                          replace H : ((bits_Take.f kj18 l0 x7_18 (mn (ji22) t426)).bind fun bt430 => (if bt430.2 = true then ((fill_Reader_Peek.f kj18 t427 t428 t429 (mn (ji22) t426)).bind fun bt432 => (if bt432.1 = bt430.1 then (gaiterlaw02_FillBits.l0 kj18 l0 l1 t408 x7_18 (wrap64 (x8_2 + 1)) bt432.2.1 bt432.2.2.1 bt432.2.2.2) else (some false))) else (some false))) = some r := by first | (rw [hji22] at H; exact H) | (simp only [hji22] at H ⊢; exact H)
                          (try rw [hji22] at A21)
                          have hji22_ : (if 56 < t418 then 56 else t418) = ji22 := hji22
                          (try (have hji22n := hji22_; simp only [Int.ofNat_lt] at hji22n))
                          obtain ⟨ji23, hji23⟩ : ∃ j_ : Int, (mn (ji22) t426) = j_ := ⟨_, rfl⟩
                          replace H : ((bits_Take.f kj18 l0 x7_18 (ji23)).bind fun bt430 => (if bt430.2 = true then ((fill_Reader_Peek.f kj18 t427 t428 t429 (ji23)).bind fun bt432 => (if bt432.1 = bt430.1 then (gaiterlaw02_FillBits.l0 kj18 l0 l1 t408 x7_18 (wrap64 (x8_2 + 1)) bt432.2.1 bt432.2.2.1 bt432.2.2.2) else (some false))) else (some false))) = some r := by first | (rw [hji23] at H; exact H) | (simp only [hji23] at H ⊢; exact H)
                          (try rw [hji23] at A21)
                          have hji23_ : (if t426 < (ji22) then t426 else (ji22)) = ji23 := hji23
                          (try (have hji23n := hji23_; simp only [Int.ofNat_lt] at hji23n))
                          replace H := Option.bind_eq_some_iff.mp H
                          obtain ⟨⟨t430, t431⟩, A240, H⟩ := H
                          replace H : (if t431 = true then ((fill_Reader_Peek.f kj18 t427 t428 t429 (ji23)).bind fun bt432 => (if bt432.1 = t430 then (gaiterlaw02_FillBits.l0 kj18 l0 l1 t408 x7_18 (wrap64 (x8_2 + 1)) bt432.2.1 bt432.2.2.1 bt432.2.2.2) else (some false))) else (some false)) = some r := H
                          have A24 := Aside0.mk A240
                          clear A240
                          by_cases c25 : t431 = true
                          · subst c25
                            have H1 : ((fill_Reader_Peek.f kj18 t427 t428 t429 (ji23)).bind fun bt432 => (if bt432.1 = t430 then (gaiterlaw02_FillBits.l0 kj18 l0 l1 t408 x7_18 (wrap64 (x8_2 + 1)) bt432.2.1 bt432.2.2.1 bt432.2.2.2) else (some false))) = some r := by rw [if_pos rfl] at H; exact H
                            clear H
                            have H := H1
                            clear H1
                            replace H := Option.bind_eq_some_iff.mp H
                            obtain ⟨⟨t432, t433, t434, t435⟩, A260, H⟩ := H
                            replace H : (if t432 = t430 then (gaiterlaw02_FillBits.l0 kj18 l0 l1 t408 x7_18 (wrap64 (x8_2 + 1)) t433 t434 t435) else (some false)) = some r := H
                            have A26 := Aside0.mk A260
                            clear A260
                            by_cases c27 : t432 = t430
                            · rw [if_pos c27] at H
                              have c27b0 : (t432 == t430) = true := beq_iff_eq.mpr c27
                              have c27b1 : (t432 != t430) = false := bne_eq_false_iff_eq.mpr c27
                              clear c27
                              have H' := Aside0.mk H
                              clear H
                              go_wp2_with (first | ((with_reducible refine gate_callee (f := 49) rfl ?_); refine goesL_ (some 67) rfl rfl Try.func49 (by kernel_rfl) rfl #[.pointer (some ⟨g412, 0, none⟩)] rfl (by (try simp only [List.map_toArray, List.map_cons, List.map_nil]); first | done | rfl | (simp only [List.length_drop, List.length_take]; rfl)) ?_; (with_reducible refine (fill_Reader_Left.calls g412 t423 t424 t425 t426 t427 t428 t429 w _ ?side1 ?side2 A21.out).mono ?_); (case side1 => repeat (first | (with_reducible first | exact HI412.out | apply IsS95.alloc | apply IsS95.drewN | apply IsS95.drew | apply IsS95.set_1 | apply IsS95.set_2) | exact HI412.out)); (case side2 => repeat (first | (with_reducible first | exact HB.out | apply below_alloc | apply pw_below_drewN | apply below_drew1 | refine below_set ?_ (IsS95.ge HI412.out)) | exact HB.out)); rintro e w28 ⟨rfl, hi, hb, hk⟩; refine ⟨_, rfl, ?_⟩; have n0_ := Aside0.mk (hb); have n1_ := Aside0.mk (hi); clear HB; clear HI412; have HB := n0_; have HI412 := n1_; clear n0_ n1_; (try clear hb); (try clear hb2); (try clear hk); (try clear hi)) | ((with_reducible refine gate_callee (f := 50) rfl ?_); refine goesL_ (some 73) rfl rfl Try.func50 (by kernel_rfl) rfl #[.slice A0 l0.length c0, .int .i64 x7_18, .int .i64 ji23] rfl (by (try simp only [List.map_toArray, List.map_cons, List.map_nil]); first | done | (simp only [hji23]; rfl) | rfl | (simp only [List.length_drop, List.length_take]; rfl)) ?_; (with_reducible refine (bits_Take.calls kj18 _ _ l0 x7_18 ji23 t430 true _ ?side1 ?side2 A24.out).mono ?_); (case side1 => repeat (first | exact (Kd.C_below HR0.out HB.out) | (with_reducible refine Kd.C_alloc ?_ _) | (with_reducible refine Kd.C_drewN ?_ _) | (with_reducible refine Kd.C_drew ?_))); (case side2 => exact HC0.out); rintro e w' ⟨rfl, ⟨nd, rfl⟩⟩; refine ⟨_, rfl, ?_⟩) | (go_at_call 46; (with_reducible refine (fill_Reader_Peek.calls kj18 g412 t427 t428 t429 ji23 t432 t433 t434 t435 w _ ?side1 ?side2 A26.out).mono ?_); (case side1 => repeat (first | (with_reducible first | exact HI412.out | apply IsS95.alloc | apply IsS95.drewN | apply IsS95.drew | apply IsS95.set_1 | apply IsS95.set_2) | exact HI412.out)); (case side2 => repeat (first | (with_reducible first | exact HB.out | apply below_alloc | apply pw_below_drewN | apply below_drew1 | refine below_set ?_ (IsS95.ge HI412.out)) | exact HB.out)); rintro e w29 ⟨rfl, hi, hb, hk⟩; have n0_ := Aside0.mk (hb); have n1_ := Aside0.mk (hi); clear HB; clear HI412; have HB := n0_; have HI412 := n1_; clear n0_ n1_; (try clear hb); (try clear hb2); (try clear hk); (try clear hi)))
                              go_roundg kj18
                              case measure => have := HJ3.out; have := HK2.out; have := HJ14.out; have := HJ18.out; omega
                              case rel => exact ⟨(x7_18), (wrap64 (x8_2 + 1)), (t433), (t434), (t435), (by first | rfl | (simp; done) | (simp [*]; done)), (by first | rfl | (simp; done) | (simp [*]; done)), H', ⟨by have := HJ3.out; have := HK2.out; have := HJ14.out; have := HJ18.out; omega⟩, ⟨by repeat (first | (with_reducible first | exact HI412.out | apply IsS95.alloc | apply IsS95.drewN | apply IsS95.drew | apply IsS95.set_1 | apply IsS95.set_2) | exact HI412.out)⟩, ⟨by repeat (first | (with_reducible first | exact HB.out | apply below_alloc | apply pw_below_drewN | apply below_drew1 | refine below_set ?_ (IsS95.ge HI412.out)) | exact HB.out)⟩⟩
                            · rw [if_neg c27] at H
                              have c27b0 : (t432 == t430) = false := beq_eq_false_iff_ne.mpr c27
                              have c27b1 : (t432 != t430) = true := bne_iff_ne.mpr c27
                              obtain rfl := Option.some.inj H
                              go_wp2_with (first | ((with_reducible refine gate_callee (f := 49) rfl ?_); refine goesL_ (some 67) rfl rfl Try.func49 (by kernel_rfl) rfl #[.pointer (some ⟨g412, 0, none⟩)] rfl (by (try simp only [List.map_toArray, List.map_cons, List.map_nil]); first | done | rfl | (simp only [List.length_drop, List.length_take]; rfl)) ?_; (with_reducible refine (fill_Reader_Left.calls g412 t423 t424 t425 t426 t427 t428 t429 w _ ?side1 ?side2 A21.out).mono ?_); (case side1 => repeat (first | (with_reducible first | exact HI412.out | apply IsS95.alloc | apply IsS95.drewN | apply IsS95.drew | apply IsS95.set_1 | apply IsS95.set_2) | exact HI412.out)); (case side2 => repeat (first | (with_reducible first | exact HB.out | apply below_alloc | apply pw_below_drewN | apply below_drew1 | refine below_set ?_ (IsS95.ge HI412.out)) | exact HB.out)); rintro e w30 ⟨rfl, hi, hb, hk⟩; refine ⟨_, rfl, ?_⟩; have n0_ := Aside0.mk (hb); have n1_ := Aside0.mk (hi); clear HB; clear HI412; have HB := n0_; have HI412 := n1_; clear n0_ n1_; (try clear hb); (try clear hb2); (try clear hk); (try clear hi)) | ((with_reducible refine gate_callee (f := 50) rfl ?_); refine goesL_ (some 73) rfl rfl Try.func50 (by kernel_rfl) rfl #[.slice A0 l0.length c0, .int .i64 x7_18, .int .i64 ji23] rfl (by (try simp only [List.map_toArray, List.map_cons, List.map_nil]); first | done | (simp only [hji23]; rfl) | rfl | (simp only [List.length_drop, List.length_take]; rfl)) ?_; (with_reducible refine (bits_Take.calls kj18 _ _ l0 x7_18 ji23 t430 true _ ?side1 ?side2 A24.out).mono ?_); (case side1 => repeat (first | exact (Kd.C_below HR0.out HB.out) | (with_reducible refine Kd.C_alloc ?_ _) | (with_reducible refine Kd.C_drewN ?_ _) | (with_reducible refine Kd.C_drew ?_))); (case side2 => exact HC0.out); rintro e w' ⟨rfl, ⟨nd, rfl⟩⟩; refine ⟨_, rfl, ?_⟩) | (go_at_call 46; (with_reducible refine (fill_Reader_Peek.calls kj18 g412 t427 t428 t429 ji23 t432 t433 t434 t435 w _ ?side1 ?side2 A26.out).mono ?_); (case side1 => repeat (first | (with_reducible first | exact HI412.out | apply IsS95.alloc | apply IsS95.drewN | apply IsS95.drew | apply IsS95.set_1 | apply IsS95.set_2) | exact HI412.out)); (case side2 => repeat (first | (with_reducible first | exact HB.out | apply below_alloc | apply pw_below_drewN | apply below_drew1 | refine below_set ?_ (IsS95.ge HI412.out)) | exact HB.out)); rintro e w31 ⟨rfl, hi, hb, hk⟩; have n0_ := Aside0.mk (hb); have n1_ := Aside0.mk (hi); clear HB; clear HI412; have HB := n0_; have HI412 := n1_; clear n0_ n1_; (try clear hb); (try clear hb2); (try clear hk); (try clear hi)))
                              go_ret
                              exact ⟨by first | rfl | (simp [errW_none, errW_some] <;> rfl) | (simp only [← hji22, ← hji23]; first | rfl | (simp [errW_none, errW_some] <;> rfl)) | (simp [*, errW_none, errW_some] <;> rfl), by repeat (first | (with_reducible first | exact HB.out | apply below_alloc | apply pw_below_drewN | apply below_drew1 | refine below_set ?_ (IsS95.ge HI412.out)) | exact HB.out)⟩
                          · replace c25 := Bool.eq_false_iff.mpr c25
                            subst c25
                            have H1 : (some false) = some r := by rw [if_neg (show ¬ (false = true) by decide)] at H; exact H
                            clear H
                            have H := H1
                            clear H1
                            obtain rfl := Option.some.inj H
                            go_wp2_with (first | ((with_reducible refine gate_callee (f := 49) rfl ?_); refine goesL_ (some 67) rfl rfl Try.func49 (by kernel_rfl) rfl #[.pointer (some ⟨g412, 0, none⟩)] rfl (by (try simp only [List.map_toArray, List.map_cons, List.map_nil]); first | done | rfl | (simp only [List.length_drop, List.length_take]; rfl)) ?_; (with_reducible refine (fill_Reader_Left.calls g412 t423 t424 t425 t426 t427 t428 t429 w _ ?side1 ?side2 A21.out).mono ?_); (case side1 => repeat (first | (with_reducible first | exact HI412.out | apply IsS95.alloc | apply IsS95.drewN | apply IsS95.drew | apply IsS95.set_1 | apply IsS95.set_2) | exact HI412.out)); (case side2 => repeat (first | (with_reducible first | exact HB.out | apply below_alloc | apply pw_below_drewN | apply below_drew1 | refine below_set ?_ (IsS95.ge HI412.out)) | exact HB.out)); rintro e w32 ⟨rfl, hi, hb, hk⟩; refine ⟨_, rfl, ?_⟩; have n0_ := Aside0.mk (hb); have n1_ := Aside0.mk (hi); clear HB; clear HI412; have HB := n0_; have HI412 := n1_; clear n0_ n1_; (try clear hb); (try clear hb2); (try clear hk); (try clear hi)) | ((with_reducible refine gate_callee (f := 50) rfl ?_); refine goesL_ (some 73) rfl rfl Try.func50 (by kernel_rfl) rfl #[.slice A0 l0.length c0, .int .i64 x7_18, .int .i64 ji23] rfl (by (try simp only [List.map_toArray, List.map_cons, List.map_nil]); first | done | (simp only [hji23]; rfl) | rfl | (simp only [List.length_drop, List.length_take]; rfl)) ?_; (with_reducible refine (bits_Take.calls kj18 _ _ l0 x7_18 ji23 t430 false _ ?side1 ?side2 A24.out).mono ?_); (case side1 => repeat (first | exact (Kd.C_below HR0.out HB.out) | (with_reducible refine Kd.C_alloc ?_ _) | (with_reducible refine Kd.C_drewN ?_ _) | (with_reducible refine Kd.C_drew ?_))); (case side2 => exact HC0.out); rintro e w' ⟨rfl, ⟨nd, rfl⟩⟩; refine ⟨_, rfl, ?_⟩))
                            go_ret
                            exact ⟨by first | rfl | (simp [errW_none, errW_some] <;> rfl) | (simp only [← hji22, ← hji23]; first | rfl | (simp [errW_none, errW_some] <;> rfl)) | (simp [*, errW_none, errW_some] <;> rfl), by repeat (first | (with_reducible first | exact HB.out | apply below_alloc | apply pw_below_drewN | apply below_drew1 | refine below_set ?_ (IsS95.ge HI412.out)) | exact HB.out)⟩
              · rw [if_neg c11] at H
                exact absurd H (by simp)
            · rw [if_neg c10] at H
              have c10b0 : decide (x8_2 < (l1.length : Int)) = false := decide_eq_false c10
              clear c10
              by_cases c33 : t408 = true
              · subst c33
                have H1 : ((fill_Reader_Left.f x413000_2 x413001_2 x413002_2).bind fun bt413 => (some (bt413.1 == (wrap64 ((wrap64 (8 * (l0.length : Int))) - x7_2))))) = some r := by rw [if_pos rfl] at H; exact H
                clear H
                have H := H1
                clear H1
                replace H := Option.bind_eq_some_iff.mp H
                obtain ⟨⟨t413, t414, t415, t416⟩, A340, H⟩ := H
                replace H : (some (t413 == (wrap64 ((wrap64 (8 * (l0.length : Int))) - x7_2)))) = some r := H
                have A34 := Aside0.mk A340
                clear A340
                obtain rfl := Option.some.inj H
                go_wp2_with (first | (go_at_call 49; (with_reducible refine (fill_Reader_Left.calls g412 x413000_2 x413001_2 x413002_2 t413 t414 t415 t416 w _ ?side1 ?side2 A34.out).mono ?_); (case side1 => repeat (first | (with_reducible first | exact HI412.out | apply IsS95.alloc | apply IsS95.drewN | apply IsS95.drew | apply IsS95.set_1 | apply IsS95.set_2) | exact HI412.out)); (case side2 => repeat (first | (with_reducible first | exact HB.out | apply below_alloc | apply pw_below_drewN | apply below_drew1 | refine below_set ?_ (IsS95.ge HI412.out)) | exact HB.out)); rintro e w35 ⟨rfl, hi, hb, hk⟩; have n0_ := Aside0.mk (hb); have n1_ := Aside0.mk (hi); clear HB; clear HI412; have HB := n0_; have HI412 := n1_; clear n0_ n1_; (try clear hb); (try clear hb2); (try clear hk); (try clear hi)))
                go_ret
                exact ⟨by first | rfl | (simp [errW_none, errW_some] <;> rfl) | (simp [*, errW_none, errW_some] <;> rfl), by repeat (first | (with_reducible first | exact HB.out | apply below_alloc | apply pw_below_drewN | apply below_drew1 | refine below_set ?_ (IsS95.ge HI412.out)) | exact HB.out)⟩
              · replace c33 := Bool.eq_false_iff.mpr c33
                subst c33
                have H1 : (some false) = some r := by rw [if_neg (show ¬ (false = true) by decide)] at H; exact H
                clear H
                have H := H1
                clear H1
                obtain rfl := Option.some.inj H
                go_wp2
                go_ret
                exact ⟨by first | rfl | (simp [errW_none, errW_some] <;> rfl) | (simp [*, errW_none, errW_some] <;> rfl), by repeat (first | (with_reducible first | exact HB.out | apply below_alloc | apply pw_below_drewN | apply below_drew1 | refine below_set ?_ (IsS95.ge HI412.out)) | exact HB.out)⟩

/-- THE ONE PURE STATEMENT of gaiterlaw02_FillBits: yours. -/
def gaiterlaw02_FillBits.Pure : Prop := ∀ (l0 : List Int) (l1 : List Int), l0.length ≤ maxLen → l0.length * 1 ≤ 140737488351232 → (∀ x ∈ l0, (Lit.int .u8 x).wf = true) → l1.length ≤ maxLen → l1.length * 8 ≤ 140737488351232 → (∀ x ∈ l1, (Lit.int .i64 x).wf = true) → ∃ k, gaiterlaw02_FillBits.f k l0 l1 = some true
theorem gaiterlaw02_FillBits.walk (P : gaiterlaw02_FillBits.Pure) (a0 : Option Addr) (len0 cap0 : Nat) (z0 : List Int) (a1 : Option Addr) (len1 cap1 : Nat) (z1 : List Int) (w : World) (w0 : (a0 = none ∧ len0 = 0 ∧ cap0 = 0 ∧ z0 = []) ∨ ∃ x, a0 = some x ∧ len0 ≤ cap0 ∧ cap0 ≤ maxLen ∧ z0.length = cap0 ∧ (∀ i, i < z0.length → w.cell? (x.add i) = some (.int .u8 (z0.getD i 0))) ∧ ∀ n ∈ z0, (Lit.int .u8 n).wf = true) (y0 : len0 * 1 ≤ 140737488351232) (w1 : (a1 = none ∧ len1 = 0 ∧ cap1 = 0 ∧ z1 = []) ∨ ∃ x, a1 = some x ∧ len1 ≤ cap1 ∧ cap1 ≤ maxLen ∧ z1.length = cap1 ∧ (∀ i, i < z1.length → w.cell? (x.add i) = some (.int .i64 (z1.getD i 0))) ∧ ∀ n ∈ z1, (Lit.int .i64 n).wf = true) (y1 : len1 * 8 ≤ 140737488351232) :
    Calls Try.prog 12 #[.slice a0 len0 cap0, .slice a1 len1 cap1] w fun e w' => e = .returned (.bool true) ∧ Below w.heap.size w w' := by
  obtain ⟨l0, rfl, hr0, hm0, hw0, hc0⟩ := ReadsInt.ofRowC w0
  obtain ⟨l1, rfl, hr1, hm1, hw1, hc1⟩ := ReadsInt.ofRowC w1
  obtain ⟨k, h⟩ := P l0 l1 hm0 y0 hw0 hm1 y1 hw1
  refine (gaiterlaw02_FillBits.calls k _ _ l0 _ _ l1 true w (Kd.C_of_reads (d := (0 : Int)) (h1 := fun _ => rfl) hr0) hc0 (Kd.C_of_reads (d := (0 : Int)) (h1 := fun _ => rfl) hr1) hc1 h).mono ?_
  rintro e w' ⟨rfl, hd⟩
  exact ⟨rfl, hd⟩

end Go.Proofs.Ytfpcbnkipdjlhaa.All
