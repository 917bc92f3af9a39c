-- written by a program of the session out of the translation; Lean checks it
import Derived.Test.YtfpcbnkipdjlhaaAllx0
import Derived.Test.YtfpcbnkipdjlhaaAllx23
namespace Go.Proofs.Ytfpcbnkipdjlhaa.All
open Go.RowKit Go.Proofs.YtfpcbnkipdjlhaaW.PrintWords Go.Proofs.YtfpcbnkipdjlhaaW.PrintLast Go.Proofs.YtfpcbnkipdjlhaaW.PrintMore
attribute [local go_sem] max2_int min2_int max_two min_two max_three min_three max_four min_four   -- for this text's walks alone
set_option linter.unusedVariables false
set_option linter.unusedSimpArgs false

/-! ### fill_Reader_Read: function 48 -/
def fill_Reader_Read.j0 : Nat → Int → Bool → List Int → Int → Int → Option (Int × Bool × List Int × Int × Int)
  | 0, _, _, _, _, _ => none
  | k + 1, x1, x20, x1000, x1001, x1002 => if x20 = true then (some (0, false, x1000, x1001, x1002)) else (if x1 ≤ 56 then ((fill_Reader_Peek.f k x1000 x1001 x1002 x1).bind fun bt317 => ((fill_Reader_drop.f bt317.2.1 bt317.2.2.1 bt317.2.2.2 x1).bind fun bt321 => (some (bt317.1, true, bt321.1, bt321.2.1, bt321.2.2)))) else ((fill_Reader_Peek.f k x1000 x1001 x1002 32).bind fun bt324 => ((fill_Reader_drop.f bt324.2.1 bt324.2.2.1 bt324.2.2.2 32).bind fun bt328 => ((fill_Reader_Peek.f k bt328.1 bt328.2.1 bt328.2.2 (wrap64 (x1 - 32))).bind fun bt331 => ((fill_Reader_drop.f bt331.2.1 bt331.2.2.1 bt331.2.2.2 (wrap64 (x1 - 32))).bind fun bt335 => (if 0 ≤ (wrap64 (x1 - 32)) then (some (Go.bits .or .u64 (shl .u64 bt324.1 (wrap64 (x1 - 32))) bt331.1, true, bt335.1, bt335.2.1, bt335.2.2)) else (none)))))))
def fill_Reader_Read.f (k : Nat) (s0_0 : List Int) (s0_1 : Int) (s0_2 : Int) (a1 : Int) : Option (Int × Bool × List Int × Int × Int) := if a1 < 0 then (fill_Reader_Read.j0 k a1 true s0_0 s0_1 s0_2) else (if a1 > 64 then (fill_Reader_Read.j0 k a1 true s0_0 s0_1 s0_2) else ((fill_Reader_Left.f s0_0 s0_1 s0_2).bind fun bt313 => (fill_Reader_Read.j0 k a1 (decide (a1 > bt313.1)) bt313.2.1 bt313.2.2.1 bt313.2.2.2)))
theorem fill_Reader_Read.mono_l : ∀ k, (∀ y0 y1 y2 y3 y4, LeO (fill_Reader_Read.j0 k y0 y1 y2 y3 y4) (fill_Reader_Read.j0 (k + 1) y0 y1 y2 y3 y4))
  | 0 => fun _ _ _ _ _ r h => by simp [fill_Reader_Read.j0] at h
  | k + 1 => by
    have ih0 := fill_Reader_Read.mono_l k
    · intro y0 y1 y2 y3 y4
      unfold fill_Reader_Read.j0
      repeat' first
      | (with_reducible exact ih0 _ _ _ _ _)
      | (with_reducible exact fill_Reader_Peek.mono _ _ _ _ _)
      | (with_reducible exact LeO.refl _)
      | (with_reducible exact LeO.none _)
      | (with_reducible refine LeO.ite ?_ ?_)
      | (with_reducible refine LeO.bind ?_ (fun _ => ?_))
      | exact ih0 _ _ _ _ _
      | exact fill_Reader_Peek.mono _ _ _ _ _
      | exact LeO.none _
      | refine LeO.ite ?_ ?_
      | refine LeO.bind ?_ (fun _ => ?_)
theorem fill_Reader_Read.mono : ∀ a0 a1 a2 a3 k, LeO (fill_Reader_Read.f k a0 a1 a2 a3) (fill_Reader_Read.f (k + 1) a0 a1 a2 a3) := by
  intro a0 a1 a2 a3 k
  have ih0 := fill_Reader_Read.mono_l k
  unfold fill_Reader_Read.f
  repeat' first
      | (with_reducible exact ih0 _ _ _ _ _)
      | (with_reducible exact fill_Reader_Peek.mono _ _ _ _ _)
      | (with_reducible exact LeO.refl _)
      | (with_reducible exact LeO.none _)
      | (with_reducible refine LeO.ite ?_ ?_)
      | (with_reducible refine LeO.bind ?_ (fun _ => ?_))
      | exact ih0 _ _ _ _ _
      | exact fill_Reader_Peek.mono _ _ _ _ _
      | exact LeO.none _
      | refine LeO.ite ?_ ?_
      | refine LeO.bind ?_ (fun _ => ?_)
set_option maxHeartbeats 8000000 in
set_option maxRecDepth 100000 in
theorem fill_Reader_Read.calls (k : Nat) (g : Nat) (s0_0 : List Int) (s0_1 : Int) (s0_2 : Int) (a1 : Int) (r1 : Int) (r2 : Bool) (r3 : List Int) (r4 : Int) (r5 : Int) (w0 w : World) (hI : IsS95 w0 w g s0_0 s0_1 s0_2) (hB : Below w0.heap.size w0 w) (h : fill_Reader_Read.f k s0_0 s0_1 s0_2 a1 = some (r1, r2, r3, r4, r5)) :
    Calls Try.prog 48 #[.pointer (some ⟨g, 0, none⟩), .int .i64 a1] w fun e w' => e = .returned (.tuple #[.int .u64 r1, .bool r2]) ∧ IsS95 w0 w' g r3 r4 r5 ∧ Below w0.heap.size w0 w' ∧ KeepBut w w' g none := by
  have HI0 := Aside0.mk hI
  have HK := Aside0.mk (KeepBut.refl w g none)
  have HL := Aside0.mk hB.size
  clear hI
  have HW0 := Aside0.mk hB.size
  have HB := Aside0.mk hB
  clear hB
  have H : (if a1 < 0 then (fill_Reader_Read.j0 k a1 true s0_0 s0_1 s0_2) else (if a1 > 64 then (fill_Reader_Read.j0 k a1 true s0_0 s0_1 s0_2) else ((fill_Reader_Left.f s0_0 s0_1 s0_2).bind fun bt313 => (fill_Reader_Read.j0 k a1 (decide (a1 > bt313.1)) bt313.2.1 bt313.2.2.1 bt313.2.2.2)))) = some (r1, r2, r3, r4, r5) := h
  clear h
  have HC3 := Aside0.mk H
  clear H
  go_enter Try.func48, Try.ntmps48
  go_upto_region 1 with (fail)
  go_cut [20] (fun v20 wc => ∃ (kq : Nat) (x20_2 : Bool) (x1000_2 : List Int) (x1001_2 : Int) (x1002_2 : Int), v20 = .bool x20_2 ∧ Aside0 (fill_Reader_Read.j0 kq a1 x20_2 x1000_2 x1001_2 x1002_2 = some (r1, r2, r3, r4, r5)) ∧ Aside0 (kq ≤ k) ∧ Aside0 (IsS95 w0 wc g x1000_2 x1001_2 x1002_2) ∧ Aside0 (KeepBut w wc g none) ∧ Aside0 (Below w0.heap.size w0 wc))
  case first =>
    have H := HC3.out
    clear HC3
    by_cases c4 : a1 < 0
    · rw [if_pos c4] at H
      have c4b0 : decide (a1 < 0) = true := decide_eq_true c4
      clear c4
      (first | rw [c4b0] | (simp only [i64_w, i32_w]; rw [c4b0]) | skip)
      have H' := Aside0.mk H
      clear H
      go_wp2
      go_meet
      case rel => exact ⟨_, (true), (s0_0), (s0_1), (s0_2), (by first | rfl | (simp; done) | (simp [*]; done)), H', ⟨by first | omega | exact Nat.le_refl _⟩, ⟨by repeat (first | (with_reducible first | exact HI0.out | apply IsS95.alloc | apply IsS95.drewN | apply IsS95.drew | apply IsS95.set_1 | apply IsS95.set_2) | exact HI0.out)⟩, ⟨by repeat (first | (with_reducible first | exact HK.out | apply KeepBut.set_ | apply keep_drewN | apply keep_drew | apply keep_alloc) | exact HK.out)⟩, ⟨by repeat (first | (with_reducible first | exact HB.out | apply below_alloc | apply pw_below_drewN | apply below_drew1 | refine below_set ?_ (IsS95.ge HI0.out)) | exact HB.out)⟩⟩
    · rw [if_neg c4] at H
      have c4b0 : decide (a1 < 0) = false := decide_eq_false c4
      clear c4
      (first | rw [c4b0] | (simp only [i64_w, i32_w]; rw [c4b0]) | skip)
      by_cases c5 : a1 > 64
      · rw [if_pos c5] at H
        have c5b0 : decide (64 < a1) = true := decide_eq_true c5
        clear c5
        have H' := Aside0.mk H
        clear H
        go_wp2
        go_meet
        case rel => exact ⟨_, (true), (s0_0), (s0_1), (s0_2), (by first | rfl | (simp; done) | (simp [*]; done)), H', ⟨by first | omega | exact Nat.le_refl _⟩, ⟨by repeat (first | (with_reducible first | exact HI0.out | apply IsS95.alloc | apply IsS95.drewN | apply IsS95.drew | apply IsS95.set_1 | apply IsS95.set_2) | exact HI0.out)⟩, ⟨by repeat (first | (with_reducible first | exact HK.out | apply KeepBut.set_ | apply keep_drewN | apply keep_drew | apply keep_alloc) | exact HK.out)⟩, ⟨by repeat (first | (with_reducible first | exact HB.out | apply below_alloc | apply pw_below_drewN | apply below_drew1 | refine below_set ?_ (IsS95.ge HI0.out)) | exact HB.out)⟩⟩
      · rw [if_neg c5] at H
        have c5b0 : decide (64 < a1) = false := decide_eq_false c5
        clear c5
        replace H := Option.bind_eq_some_iff.mp H
        obtain ⟨⟨t313, t314, t315, t316⟩, A60, H⟩ := H
        replace H : (fill_Reader_Read.j0 k a1 (decide (a1 > t313)) t314 t315 t316) = some (r1, r2, r3, r4, r5) := H
        have A6 := Aside0.mk A60
        clear A60
        have H' := Aside0.mk H
        clear H
        go_wp2_with (first | (go_at_call 49; (with_reducible refine (fill_Reader_Left.calls g s0_0 s0_1 s0_2 t313 t314 t315 t316 w0 _ ?side1 ?side2 A6.out).mono ?_); (case side1 => repeat (first | (with_reducible first | exact HI0.out | apply IsS95.alloc | apply IsS95.drewN | apply IsS95.drew | apply IsS95.set_1 | apply IsS95.set_2) | exact HI0.out)); (case side2 => repeat (first | (with_reducible first | exact HB.out | apply below_alloc | apply pw_below_drewN | apply below_drew1 | refine below_set ?_ (IsS95.ge HI0.out)) | exact HB.out)); rintro e w7 ⟨rfl, hi, hb, hk⟩; have n0_ := Aside0.mk (KeepBut.trans (by repeat (first | (with_reducible first | exact HK.out | apply KeepBut.set_ | apply keep_drewN | apply keep_drew | apply keep_alloc) | exact HK.out)) hk (.inl rfl)); have n1_ := Aside0.mk (hb); have n2_ := Aside0.mk (hi); clear HK; clear HB; clear HI0; have HK := n0_; have HB := n1_; have HI0 := n2_; clear n0_ n1_ n2_; (try clear hb); (try clear hb2); (try clear hk); (try clear hi)))
        go_meet
        case rel => exact ⟨_, (decide (a1 > t313)), (t314), (t315), (t316), (by first | rfl | (simp; done) | (simp [*]; done)), H', ⟨by first | omega | exact Nat.le_refl _⟩, ⟨by repeat (first | (with_reducible first | exact HI0.out | apply IsS95.alloc | apply IsS95.drewN | apply IsS95.drew | apply IsS95.set_1 | apply IsS95.set_2) | exact HI0.out)⟩, ⟨by repeat (first | (with_reducible first | exact HK.out | apply KeepBut.set_ | apply keep_drewN | apply keep_drew | apply keep_alloc) | exact HK.out)⟩, ⟨by repeat (first | (with_reducible first | exact HB.out | apply below_alloc | apply pw_below_drewN | apply below_drew1 | refine below_set ?_ (IsS95.ge HI0.out)) | exact HB.out)⟩⟩
  case rest =>
    clear HC3
    try clear p2
    try clear c4
    try clear c4b0
    try clear c5
    try clear c5b0
    obtain ⟨kq, x20_2, x1000_2, x1001_2, x1002_2, rfl, HA, HJ2, HI0, HK, HB⟩ := hcut
    cases kq with
    | zero => exact absurd HA.out (by simp [fill_Reader_Read.j0])
    | succ kj2 =>
      have H := HA.out
      clear HA
      simp only [fill_Reader_Read.j0] at H
      by_cases c8 : x20_2 = true
      · subst c8
        have H1 : (some (0, false, x1000_2, x1001_2, x1002_2)) = some (r1, r2, r3, r4, r5) := by rw [if_pos rfl] at H; exact H
        clear H
        have H := H1
        clear H1
        simp only [Option.some.injEq, Prod.mk.injEq] at H
        obtain ⟨rfl, rfl, rfl, rfl, rfl⟩ := H
        go_wp2
        go_ret2
        exact ⟨by first | rfl | (simp [errW_none, errW_some] <;> rfl) | (simp [*, errW_none, errW_some] <;> rfl), by repeat (first | (with_reducible first | exact HI0.out | apply IsS95.alloc | apply IsS95.drewN | apply IsS95.drew | apply IsS95.set_1 | apply IsS95.set_2) | exact HI0.out), by repeat (first | (with_reducible first | exact HB.out | apply below_alloc | apply pw_below_drewN | apply below_drew1 | refine below_set ?_ (IsS95.ge HI0.out)) | exact HB.out), by repeat (first | (with_reducible first | exact HK.out | apply KeepBut.set_ | apply keep_drewN | apply keep_drew | apply keep_alloc) | exact HK.out)⟩
      · replace c8 := Bool.eq_false_iff.mpr c8
        subst c8
        have H1 : (if a1 ≤ 56 then ((fill_Reader_Peek.f kj2 x1000_2 x1001_2 x1002_2 a1).bind fun bt317 => ((fill_Reader_drop.f bt317.2.1 bt317.2.2.1 bt317.2.2.2 a1).bind fun bt321 => (some (bt317.1, true, bt321.1, bt321.2.1, bt321.2.2)))) else ((fill_Reader_Peek.f kj2 x1000_2 x1001_2 x1002_2 32).bind fun bt324 => ((fill_Reader_drop.f bt324.2.1 bt324.2.2.1 bt324.2.2.2 32).bind fun bt328 => ((fill_Reader_Peek.f kj2 bt328.1 bt328.2.1 bt328.2.2 (wrap64 (a1 - 32))).bind fun bt331 => ((fill_Reader_drop.f bt331.2.1 bt331.2.2.1 bt331.2.2.2 (wrap64 (a1 - 32))).bind fun bt335 => (if 0 ≤ (wrap64 (a1 - 32)) then (some (Go.bits .or .u64 (shl .u64 bt324.1 (wrap64 (a1 - 32))) bt331.1, true, bt335.1, bt335.2.1, bt335.2.2)) else (none))))))) = some (r1, r2, r3, r4, r5) := by rw [if_neg (show ¬ (false = true) by decide)] at H; exact H
        clear H
        have H := H1
        clear H1
        by_cases c9 : a1 ≤ 56
        · rw [if_pos c9] at H
          have c9b0 : decide (a1 ≤ 56) = true := decide_eq_true c9
          clear c9
          replace H := Option.bind_eq_some_iff.mp H
          obtain ⟨⟨t317, t318, t319, t320⟩, A100, H⟩ := H
          replace H : ((fill_Reader_drop.f t318 t319 t320 a1).bind fun bt321 => (some (t317, true, bt321.1, bt321.2.1, bt321.2.2))) = some (r1, r2, r3, r4, r5) := H
          have A10 := Aside0.mk A100
          clear A100
          replace H := Option.bind_eq_some_iff.mp H
          obtain ⟨⟨t321, t322, t323⟩, A110, H⟩ := H
          replace H : (some (t317, true, t321, t322, t323)) = some (r1, r2, r3, r4, r5) := H
          have A11 := Aside0.mk A110
          clear A110
          simp only [Option.some.injEq, Prod.mk.injEq] at H
          obtain ⟨rfl, rfl, rfl, rfl, rfl⟩ := H
          go_wp2_with (first | ((with_reducible refine gate_callee (f := 46) rfl ?_); refine goesL_ (some 25) rfl rfl Try.func46 (by kernel_rfl) rfl #[.pointer (some ⟨g, 0, none⟩), .int .i64 a1] rfl (by (try simp only [List.map_toArray, List.map_cons, List.map_nil]); first | done | rfl | (simp only [List.length_drop, List.length_take]; rfl)) ?_; (with_reducible refine (fill_Reader_Peek.calls kj2 g x1000_2 x1001_2 x1002_2 a1 t317 t318 t319 t320 w0 _ ?side1 ?side2 A10.out).mono ?_); (case side1 => repeat (first | (with_reducible first | exact HI0.out | apply IsS95.alloc | apply IsS95.drewN | apply IsS95.drew | apply IsS95.set_1 | apply IsS95.set_2) | exact HI0.out)); (case side2 => repeat (first | (with_reducible first | exact HB.out | apply below_alloc | apply pw_below_drewN | apply below_drew1 | refine below_set ?_ (IsS95.ge HI0.out)) | exact HB.out)); rintro e w12 ⟨rfl, hi, hb, hk⟩; refine ⟨_, rfl, ?_⟩; have n0_ := Aside0.mk (KeepBut.trans (by repeat (first | (with_reducible first | exact HK.out | apply KeepBut.set_ | apply keep_drewN | apply keep_drew | apply keep_alloc) | exact HK.out)) hk (.inl rfl)); have n1_ := Aside0.mk (hb); have n2_ := Aside0.mk (hi); clear HK; clear HB; clear HI0; have HK := n0_; have HB := n1_; have HI0 := n2_; clear n0_ n1_ n2_; (try clear hb); (try clear hb2); (try clear hk); (try clear hi)) | ((with_reducible refine gate_callee (f := 59) rfl ?_); refine goesL_ (some 28) rfl rfl Try.func59 (by kernel_rfl) rfl #[.pointer (some ⟨g, 0, none⟩), .int .i64 a1] rfl (by (try simp only [List.map_toArray, List.map_cons, List.map_nil]); first | done | rfl | (simp only [List.length_drop, List.length_take]; rfl)) ?_; (with_reducible refine (fill_Reader_drop.calls g t318 t319 t320 a1 t321 t322 t323 w0 _ ?side1 ?side2 A11.out).mono ?_); (case side1 => repeat (first | (with_reducible first | exact HI0.out | apply IsS95.alloc | apply IsS95.drewN | apply IsS95.drew | apply IsS95.set_1 | apply IsS95.set_2) | exact HI0.out)); (case side2 => repeat (first | (with_reducible first | exact HB.out | apply below_alloc | apply pw_below_drewN | apply below_drew1 | refine below_set ?_ (IsS95.ge HI0.out)) | exact HB.out)); rintro e w13 ⟨rfl, hi, hb, hk⟩; refine ⟨_, rfl, ?_⟩; have n0_ := Aside0.mk (KeepBut.trans (by repeat (first | (with_reducible first | exact HK.out | apply KeepBut.set_ | apply keep_drewN | apply keep_drew | apply keep_alloc) | exact HK.out)) hk (.inl rfl)); have n1_ := Aside0.mk (hb); have n2_ := Aside0.mk (hi); clear HK; clear HB; clear HI0; have HK := n0_; have HB := n1_; have HI0 := n2_; clear n0_ n1_ n2_; (try clear hb); (try clear hb2); (try clear hk); (try clear hi)))
          go_ret2
          exact ⟨by first | rfl | (simp [errW_none, errW_some] <;> rfl) | (simp [*, errW_none, errW_some] <;> rfl), by repeat (first | (with_reducible first | exact HI0.out | apply IsS95.alloc | apply IsS95.drewN | apply IsS95.drew | apply IsS95.set_1 | apply IsS95.set_2) | exact HI0.out), by repeat (first | (with_reducible first | exact HB.out | apply below_alloc | apply pw_below_drewN | apply below_drew1 | refine below_set ?_ (IsS95.ge HI0.out)) | exact HB.out), by repeat (first | (with_reducible first | exact HK.out | apply KeepBut.set_ | apply keep_drewN | apply keep_drew | apply keep_alloc) | exact HK.out)⟩
        · rw [if_neg c9] at H
          have c9b0 : decide (a1 ≤ 56) = false := decide_eq_false c9
          clear c9
          replace H := Option.bind_eq_some_iff.mp H
          obtain ⟨⟨t324, t325, t326, t327⟩, A140, H⟩ := H
          replace H : ((fill_Reader_drop.f t325 t326 t327 32).bind fun bt328 => ((fill_Reader_Peek.f kj2 bt328.1 bt328.2.1 bt328.2.2 (wrap64 (a1 - 32))).bind fun bt331 => ((fill_Reader_drop.f bt331.2.1 bt331.2.2.1 bt331.2.2.2 (wrap64 (a1 - 32))).bind fun bt335 => (if 0 ≤ (wrap64 (a1 - 32)) then (some (Go.bits .or .u64 (shl .u64 t324 (wrap64 (a1 - 32))) bt331.1, true, bt335.1, bt335.2.1, bt335.2.2)) else (none))))) = some (r1, r2, r3, r4, r5) := H
          have A14 := Aside0.mk A140
          clear A140
          replace H := Option.bind_eq_some_iff.mp H
          obtain ⟨⟨t328, t329, t330⟩, A150, H⟩ := H
          replace H : ((fill_Reader_Peek.f kj2 t328 t329 t330 (wrap64 (a1 - 32))).bind fun bt331 => ((fill_Reader_drop.f bt331.2.1 bt331.2.2.1 bt331.2.2.2 (wrap64 (a1 - 32))).bind fun bt335 => (if 0 ≤ (wrap64 (a1 - 32)) then (some (Go.bits .or .u64 (shl .u64 t324 (wrap64 (a1 - 32))) bt331.1, true, bt335.1, bt335.2.1, bt335.2.2)) else (none)))) = some (r1, r2, r3, r4, r5) := H
          have A15 := Aside0.mk A150
          clear A150
          replace H := Option.bind_eq_some_iff.mp H
          obtain ⟨⟨t331, t332, t333, t334⟩, A160, H⟩ := H
          replace H : ((fill_Reader_drop.f t332 t333 t334 (wrap64 (a1 - 32))).bind fun bt335 => (if 0 ≤ (wrap64 (a1 - 32)) then (some (Go.bits .or .u64 (shl .u64 t324 (wrap64 (a1 - 32))) t331, true, bt335.1, bt335.2.1, bt335.2.2)) else (none))) = some (r1, r2, r3, r4, r5) := H
          have A16 := Aside0.mk A160
          clear A160
          replace H := Option.bind_eq_some_iff.mp H
          obtain ⟨⟨t335, t336, t337⟩, A170, H⟩ := H
          replace H : (if 0 ≤ (wrap64 (a1 - 32)) then (some (Go.bits .or .u64 (shl .u64 t324 (wrap64 (a1 - 32))) t331, true, t335, t336, t337)) else (none)) = some (r1, r2, r3, r4, r5) := H
          have A17 := Aside0.mk A170
          clear A170
          obtain ⟨ji18, hji18⟩ : ∃ j_ : Int, (wrap64 (a1 - 32)) = j_ := ⟨_, rfl⟩
          replace H : (if 0 ≤ (ji18) then (some (Go.bits .or .u64 (shl .u64 t324 (ji18)) t331, true, t335, t336, t337)) else (none)) = some (r1, r2, r3, r4, r5) := by first | (rw [hji18] at H; exact H) | (simp only [hji18] at H ⊢; exact H)
          (try rw [hji18] at A14)
          (try rw [hji18] at A15)
          (try rw [hji18] at A16)
          (try rw [hji18] at A17)
          have hji18w : (IntKind.i64.wrap (a1 - 32)) = ji18 := (i64_w _).trans hji18
          by_cases c19 : 0 ≤ (ji18)
          · rw [if_pos c19] at H
            have c19b0 := eq_true c19
            have c19b1 : decide (0 ≤ (ji18)) = true := decide_eq_true c19
            clear c19
            obtain ⟨ji20, hji20⟩ : ∃ j_ : Int, (shl .u64 t324 (ji18)) = j_ := ⟨_, rfl⟩
            replace H : (some (Go.bits .or .u64 (ji20) t331, true, t335, t336, t337)) = some (r1, r2, r3, r4, r5) := by first | (rw [hji20] at H; exact H) | (simp only [hji20] at H ⊢; exact H)
            (try rw [hji20] at A14)
            (try rw [hji20] at A15)
            (try rw [hji20] at A16)
            (try rw [hji20] at A17)
            have hji20_ : (IntKind.u64.wrap (t324 * 2 ^ min (ji18).toNat 64)) = ji20 := hji20
            have hji20z : (ji18) ≤ 64 → (IntKind.u64.wrap (t324 * 2 ^ (ji18).toNat)) = ji20 := shl_small hji20
            simp only [Option.some.injEq, Prod.mk.injEq] at H
            obtain ⟨rfl, rfl, rfl, rfl, rfl⟩ := H
            go_wp2_with (first | ((with_reducible refine gate_callee (f := 46) rfl ?_); refine goesL_ (some 31) rfl rfl Try.func46 (by kernel_rfl) rfl #[.pointer (some ⟨g, 0, none⟩), .int .i64 32] rfl (by (try simp only [List.map_toArray, List.map_cons, List.map_nil]); first | done | rfl | (simp only [List.length_drop, List.length_take]; rfl)) ?_; (with_reducible refine (fill_Reader_Peek.calls kj2 g x1000_2 x1001_2 x1002_2 32 t324 t325 t326 t327 w0 _ ?side1 ?side2 A14.out).mono ?_); (case side1 => repeat (first | (with_reducible first | exact HI0.out | apply IsS95.alloc | apply IsS95.drewN | apply IsS95.drew | apply IsS95.set_1 | apply IsS95.set_2) | exact HI0.out)); (case side2 => repeat (first | (with_reducible first | exact HB.out | apply below_alloc | apply pw_below_drewN | apply below_drew1 | refine below_set ?_ (IsS95.ge HI0.out)) | exact HB.out)); rintro e w21 ⟨rfl, hi, hb, hk⟩; refine ⟨_, rfl, ?_⟩; have n0_ := Aside0.mk (KeepBut.trans (by repeat (first | (with_reducible first | exact HK.out | apply KeepBut.set_ | apply keep_drewN | apply keep_drew | apply keep_alloc) | exact HK.out)) hk (.inl rfl)); have n1_ := Aside0.mk (hb); have n2_ := Aside0.mk (hi); clear HK; clear HB; clear HI0; have HK := n0_; have HB := n1_; have HI0 := n2_; clear n0_ n1_ n2_; (try clear hb); (try clear hb2); (try clear hk); (try clear hi)) | ((with_reducible refine gate_callee (f := 59) rfl ?_); refine goesL_ (some 33) rfl rfl Try.func59 (by kernel_rfl) rfl #[.pointer (some ⟨g, 0, none⟩), .int .i64 32] rfl (by (try simp only [List.map_toArray, List.map_cons, List.map_nil]); first | done | rfl | (simp only [List.length_drop, List.length_take]; rfl)) ?_; (with_reducible refine (fill_Reader_drop.calls g t325 t326 t327 32 t328 t329 t330 w0 _ ?side1 ?side2 A15.out).mono ?_); (case side1 => repeat (first | (with_reducible first | exact HI0.out | apply IsS95.alloc | apply IsS95.drewN | apply IsS95.drew | apply IsS95.set_1 | apply IsS95.set_2) | exact HI0.out)); (case side2 => repeat (first | (with_reducible first | exact HB.out | apply below_alloc | apply pw_below_drewN | apply below_drew1 | refine below_set ?_ (IsS95.ge HI0.out)) | exact HB.out)); rintro e w22 ⟨rfl, hi, hb, hk⟩; refine ⟨_, rfl, ?_⟩; have n0_ := Aside0.mk (KeepBut.trans (by repeat (first | (with_reducible first | exact HK.out | apply KeepBut.set_ | apply keep_drewN | apply keep_drew | apply keep_alloc) | exact HK.out)) hk (.inl rfl)); have n1_ := Aside0.mk (hb); have n2_ := Aside0.mk (hi); clear HK; clear HB; clear HI0; have HK := n0_; have HB := n1_; have HI0 := n2_; clear n0_ n1_ n2_; (try clear hb); (try clear hb2); (try clear hk); (try clear hi)) | ((with_reducible refine gate_callee (f := 46) rfl ?_); refine goesL_ (some 37) rfl rfl Try.func46 (by kernel_rfl) rfl #[.pointer (some ⟨g, 0, none⟩), .int .i64 ji18] rfl (by (try simp only [List.map_toArray, List.map_cons, List.map_nil]); first | done | (simp only [hji18]; rfl) | rfl | (simp only [List.length_drop, List.length_take]; rfl)) ?_; (with_reducible refine (fill_Reader_Peek.calls kj2 g t328 t329 t330 ji18 t331 t332 t333 t334 w0 _ ?side1 ?side2 A16.out).mono ?_); (case side1 => repeat (first | (with_reducible first | exact HI0.out | apply IsS95.alloc | apply IsS95.drewN | apply IsS95.drew | apply IsS95.set_1 | apply IsS95.set_2) | exact HI0.out)); (case side2 => repeat (first | (with_reducible first | exact HB.out | apply below_alloc | apply pw_below_drewN | apply below_drew1 | refine below_set ?_ (IsS95.ge HI0.out)) | exact HB.out)); rintro e w23 ⟨rfl, hi, hb, hk⟩; refine ⟨_, rfl, ?_⟩; have n0_ := Aside0.mk (KeepBut.trans (by repeat (first | (with_reducible first | exact HK.out | apply KeepBut.set_ | apply keep_drewN | apply keep_drew | apply keep_alloc) | exact HK.out)) hk (.inl rfl)); have n1_ := Aside0.mk (hb); have n2_ := Aside0.mk (hi); clear HK; clear HB; clear HI0; have HK := n0_; have HB := n1_; have HI0 := n2_; clear n0_ n1_ n2_; (try clear hb); (try clear hb2); (try clear hk); (try clear hi)) | ((with_reducible refine gate_callee (f := 59) rfl ?_); refine goesL_ (some 41) rfl rfl Try.func59 (by kernel_rfl) rfl #[.pointer (some ⟨g, 0, none⟩), .int .i64 ji18] rfl (by (try simp only [List.map_toArray, List.map_cons, List.map_nil]); first | done | (simp only [hji18]; rfl) | rfl | (simp only [List.length_drop, List.length_take]; rfl)) ?_; (with_reducible refine (fill_Reader_drop.calls g t332 t333 t334 ji18 t335 t336 t337 w0 _ ?side1 ?side2 A17.out).mono ?_); (case side1 => repeat (first | (with_reducible first | exact HI0.out | apply IsS95.alloc | apply IsS95.drewN | apply IsS95.drew | apply IsS95.set_1 | apply IsS95.set_2) | exact HI0.out)); (case side2 => repeat (first | (with_reducible first | exact HB.out | apply below_alloc | apply pw_below_drewN | apply below_drew1 | refine below_set ?_ (IsS95.ge HI0.out)) | exact HB.out)); rintro e w24 ⟨rfl, hi, hb, hk⟩; refine ⟨_, rfl, ?_⟩; have n0_ := Aside0.mk (KeepBut.trans (by repeat (first | (with_reducible first | exact HK.out | apply KeepBut.set_ | apply keep_drewN | apply keep_drew | apply keep_alloc) | exact HK.out)) hk (.inl rfl)); have n1_ := Aside0.mk (hb); have n2_ := Aside0.mk (hi); clear HK; clear HB; clear HI0; have HK := n0_; have HB := n1_; have HI0 := n2_; clear n0_ n1_ n2_; (try clear hb); (try clear hb2); (try clear hk); (try clear hi)))
            go_ret2
            exact ⟨by first | rfl | (simp [errW_none, errW_some] <;> rfl) | (simp only [← hji18, ← hji20]; first | rfl | (simp [errW_none, errW_some] <;> rfl)) | (simp [*, errW_none, errW_some] <;> rfl), by repeat (first | (with_reducible first | exact HI0.out | apply IsS95.alloc | apply IsS95.drewN | apply IsS95.drew | apply IsS95.set_1 | apply IsS95.set_2) | exact HI0.out), by repeat (first | (with_reducible first | exact HB.out | apply below_alloc | apply pw_below_drewN | apply below_drew1 | refine below_set ?_ (IsS95.ge HI0.out)) | exact HB.out), by repeat (first | (with_reducible first | exact HK.out | apply KeepBut.set_ | apply keep_drewN | apply keep_drew | apply keep_alloc) | exact HK.out)⟩
          · rw [if_neg c19] at H
            exact absurd H (by simp)

end Go.Proofs.Ytfpcbnkipdjlhaa.All
