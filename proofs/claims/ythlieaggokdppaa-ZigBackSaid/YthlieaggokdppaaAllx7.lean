-- written by a program of the session out of the translation; Lean checks it
import Derived.Test.YthlieaggokdppaaAllx0
import Derived.Test.YthlieaggokdppaaAllx1
import Derived.Test.YthlieaggokdppaaAllx2
import Derived.Test.YthlieaggokdppaaAllx3
namespace Go.Proofs.Ythlieaggokdppaa.All
open Go.RowKit Go.Proofs.YthlieaggokdppaaW.PrintWords Go.Proofs.YthlieaggokdppaaW.PrintLast Go.Proofs.YthlieaggokdppaaW.PrintMore
attribute [local go_sem] max2_int min2_int max_two min_two max_three min_three max_four min_four   -- for this text's walks alone
set_option linter.unusedVariables false
set_option linter.unusedSimpArgs false

/-! ### gaiterlaw04_ZigBack: function 4 -/
def gaiterlaw04_ZigBack.j0 : Nat → Int → Bool → Bool → Option (Bool)
  | 0, _, _, _ => none
  | k + 1, x0, x5, x27 => if x27 = true then (some false) else (if x5 = true then (if x0 ≤ 0 then (some true) else ((zig_Zig.f (wrap64 (x0 - 1))).bind fun t115 => ((zig_Zig.f x0).bind fun t116 => (if t115 < t116 then ((zig_Zig.f (wrap64 (-x0))).bind fun t117 => ((zig_Zig.f x0).bind fun t118 => (some (decide (t117 < t118))))) else (some false))))) else (some false))
def gaiterlaw04_ZigBack.f (k : Nat) (a0 : Int) (a1 : Int) : Option (Bool) := (gaiterlaw04_up.f).bind fun t109 => ((zig_Zig.f a0).bind fun t110 => ((zig_Zag.f t110).bind fun t111 => (if t111 = a0 then ((zig_Zag.f a1).bind fun t112 => ((zig_Zig.f t112).bind fun t113 => (if t113 = a1 then ((zig_Zig.f a0).bind fun t114 => (gaiterlaw04_ZigBack.j0 k a0 t109 (((Int.tmod t114 2) == 1) != (decide (a0 < 0))))) else (gaiterlaw04_ZigBack.j0 k a0 t109 true)))) else (gaiterlaw04_ZigBack.j0 k a0 t109 true))))
theorem gaiterlaw04_ZigBack.mono_l : ∀ k, (∀ y0 y1 y2, LeO (gaiterlaw04_ZigBack.j0 k y0 y1 y2) (gaiterlaw04_ZigBack.j0 (k + 1) y0 y1 y2))
  | 0 => fun _ _ _ r h => by simp [gaiterlaw04_ZigBack.j0] at h
  | k + 1 => by
    have ih0 := gaiterlaw04_ZigBack.mono_l k
    · intro y0 y1 y2
      unfold gaiterlaw04_ZigBack.j0
      repeat' first
      | (with_reducible exact ih0 _ _ _)
      | (with_reducible exact LeO.refl _)
      | (with_reducible exact LeO.none _)
      | (with_reducible refine LeO.ite ?_ ?_)
      | (with_reducible refine LeO.bind ?_ (fun _ => ?_))
      | exact ih0 _ _ _
      | exact LeO.none _
      | refine LeO.ite ?_ ?_
      | refine LeO.bind ?_ (fun _ => ?_)
theorem gaiterlaw04_ZigBack.mono : ∀ a0 a1 k, LeO (gaiterlaw04_ZigBack.f k a0 a1) (gaiterlaw04_ZigBack.f (k + 1) a0 a1) := by
  intro a0 a1 k
  have ih0 := gaiterlaw04_ZigBack.mono_l k
  unfold gaiterlaw04_ZigBack.f
  repeat' first
      | (with_reducible exact ih0 _ _ _)
      | (with_reducible exact LeO.refl _)
      | (with_reducible exact LeO.none _)
      | (with_reducible refine LeO.ite ?_ ?_)
      | (with_reducible refine LeO.bind ?_ (fun _ => ?_))
      | exact ih0 _ _ _
      | exact LeO.none _
      | refine LeO.ite ?_ ?_
      | refine LeO.bind ?_ (fun _ => ?_)
set_option maxHeartbeats 8000000 in
set_option maxRecDepth 100000 in
theorem gaiterlaw04_ZigBack.calls (k : Nat) (a0 : Int) (a1 : Int) (r : Bool) (w : World) (h : gaiterlaw04_ZigBack.f k a0 a1 = some r) :
    Calls Try.prog 4 #[.int .i64 a0, .int .u64 a1] w fun e w' => e = .returned (.bool r) ∧ Drawn0 w w' := by
  have H : ((gaiterlaw04_up.f).bind fun t109 => ((zig_Zig.f a0).bind fun t110 => ((zig_Zag.f t110).bind fun t111 => (if t111 = a0 then ((zig_Zag.f a1).bind fun t112 => ((zig_Zig.f t112).bind fun t113 => (if t113 = a1 then ((zig_Zig.f a0).bind fun t114 => (gaiterlaw04_ZigBack.j0 k a0 t109 (((Int.tmod t114 2) == 1) != (decide (a0 < 0))))) else (gaiterlaw04_ZigBack.j0 k a0 t109 true)))) else (gaiterlaw04_ZigBack.j0 k a0 t109 true))))) = some r := h
  clear h
  replace H := Option.bind_eq_some_iff.mp H
  obtain ⟨t109, A30, H⟩ := H
  replace H : ((zig_Zig.f a0).bind fun t110 => ((zig_Zag.f t110).bind fun t111 => (if t111 = a0 then ((zig_Zag.f a1).bind fun t112 => ((zig_Zig.f t112).bind fun t113 => (if t113 = a1 then ((zig_Zig.f a0).bind fun t114 => (gaiterlaw04_ZigBack.j0 k a0 t109 (((Int.tmod t114 2) == 1) != (decide (a0 < 0))))) else (gaiterlaw04_ZigBack.j0 k a0 t109 true)))) else (gaiterlaw04_ZigBack.j0 k a0 t109 true)))) = some r := H
  have A3 := Aside0.mk A30
  clear A30
  have HC4 := Aside0.mk H
  clear H
  go_enter Try.func4, Try.ntmps4
  go_upto_region 2 with (first | ((with_reducible refine gate_callee (f := 15) rfl ?_); refine goesL_ (some 6) rfl rfl Try.func15 (by kernel_rfl) rfl #[] rfl (by (try simp only [List.map_toArray, List.map_cons, List.map_nil]); first | done | rfl | (simp only [List.length_drop, List.length_take]; rfl)) ?_; (with_reducible refine (gaiterlaw04_up.calls  t109 _ A3.out).mono ?_); rintro e w' ⟨rfl, ⟨nd, rfl⟩⟩; refine ⟨_, rfl, ?_⟩))
  (try simp only [Act.put, List.setIfInBounds_toArray, List.set_cons_zero, List.set_cons_succ])
  go_cut [27] (fun v27 wc => ∃ (kq : Nat) (x27_3 : Bool), v27 = .bool x27_3 ∧ Aside0 (gaiterlaw04_ZigBack.j0 kq a0 t109 x27_3 = some r) ∧ Aside0 (kq ≤ k) ∧ Drawn0 w wc)
  case first =>
    have H := HC4.out
    clear HC4
    replace H := Option.bind_eq_some_iff.mp H
    obtain ⟨t110, A50, H⟩ := H
    replace H : ((zig_Zag.f t110).bind fun t111 => (if t111 = a0 then ((zig_Zag.f a1).bind fun t112 => ((zig_Zig.f t112).bind fun t113 => (if t113 = a1 then ((zig_Zig.f a0).bind fun t114 => (gaiterlaw04_ZigBack.j0 k a0 t109 (((Int.tmod t114 2) == 1) != (decide (a0 < 0))))) else (gaiterlaw04_ZigBack.j0 k a0 t109 true)))) else (gaiterlaw04_ZigBack.j0 k a0 t109 true))) = some r := H
    have A5 := Aside0.mk A50
    clear A50
    replace H := Option.bind_eq_some_iff.mp H
    obtain ⟨t111, A60, H⟩ := H
    replace H : (if t111 = a0 then ((zig_Zag.f a1).bind fun t112 => ((zig_Zig.f t112).bind fun t113 => (if t113 = a1 then ((zig_Zig.f a0).bind fun t114 => (gaiterlaw04_ZigBack.j0 k a0 t109 (((Int.tmod t114 2) == 1) != (decide (a0 < 0))))) else (gaiterlaw04_ZigBack.j0 k a0 t109 true)))) else (gaiterlaw04_ZigBack.j0 k a0 t109 true)) = some r := H
    have A6 := Aside0.mk A60
    clear A60
    by_cases c7 : t111 = a0
    · rw [if_pos c7] at H
      have c7b0 : (t111 == a0) = true := beq_iff_eq.mpr c7
      have c7b1 : (t111 != a0) = false := bne_eq_false_iff_eq.mpr c7
      clear c7
      (first | rw [c7b0] | (simp only [i64_w, i32_w]; rw [c7b0]) | skip)
      replace H := Option.bind_eq_some_iff.mp H
      obtain ⟨t112, A80, H⟩ := H
      replace H : ((zig_Zig.f t112).bind fun t113 => (if t113 = a1 then ((zig_Zig.f a0).bind fun t114 => (gaiterlaw04_ZigBack.j0 k a0 t109 (((Int.tmod t114 2) == 1) != (decide (a0 < 0))))) else (gaiterlaw04_ZigBack.j0 k a0 t109 true))) = some r := H
      have A8 := Aside0.mk A80
      clear A80
      replace H := Option.bind_eq_some_iff.mp H
      obtain ⟨t113, A90, H⟩ := H
      replace H : (if t113 = a1 then ((zig_Zig.f a0).bind fun t114 => (gaiterlaw04_ZigBack.j0 k a0 t109 (((Int.tmod t114 2) == 1) != (decide (a0 < 0))))) else (gaiterlaw04_ZigBack.j0 k a0 t109 true)) = some r := H
      have A9 := Aside0.mk A90
      clear A90
      by_cases c10 : t113 = a1
      · rw [if_pos c10] at H
        have c10b0 : (t113 == a1) = true := beq_iff_eq.mpr c10
        have c10b1 : (t113 != a1) = false := bne_eq_false_iff_eq.mpr c10
        clear c10
        replace H := Option.bind_eq_some_iff.mp H
        obtain ⟨t114, A110, H⟩ := H
        replace H : (gaiterlaw04_ZigBack.j0 k a0 t109 (((Int.tmod t114 2) == 1) != (decide (a0 < 0)))) = some r := H
        have A11 := Aside0.mk A110
        clear A110
        have H' := Aside0.mk H
        clear H
        go_wp2_with (first | ((with_reducible refine gate_callee (f := 16) rfl ?_); refine goesL_ (some 8) rfl rfl Try.func16 (by kernel_rfl) rfl #[.int .i64 a0] rfl (by (try simp only [List.map_toArray, List.map_cons, List.map_nil]); first | done | rfl | (simp only [List.length_drop, List.length_take]; rfl)) ?_; (with_reducible refine (zig_Zig.calls a0 t110 _ A5.out).mono ?_); rintro e w' ⟨rfl, ⟨nd, rfl⟩⟩; refine ⟨_, rfl, ?_⟩) | ((with_reducible refine gate_callee (f := 18) rfl ?_); refine goesL_ (some 9) rfl rfl Try.func18 (by kernel_rfl) rfl #[.int .u64 t110] rfl (by (try simp only [List.map_toArray, List.map_cons, List.map_nil]); first | done | rfl | (simp only [List.length_drop, List.length_take]; rfl)) ?_; (with_reducible refine (zig_Zag.calls t110 t111 _ A6.out).mono ?_); rintro e w' ⟨rfl, ⟨nd, rfl⟩⟩; refine ⟨_, rfl, ?_⟩) | (go_at_call 18; (with_reducible refine (zig_Zag.calls a1 t112 _ A8.out).mono ?_); rintro e w' ⟨rfl, ⟨nd, rfl⟩⟩) | (go_at_call 16; (with_reducible refine (zig_Zig.calls t112 t113 _ A9.out).mono ?_); rintro e w' ⟨rfl, ⟨nd, rfl⟩⟩) | (go_at_call 16; (with_reducible refine (zig_Zig.calls a0 t114 _ A11.out).mono ?_); rintro e w' ⟨rfl, ⟨nd, rfl⟩⟩))
        go_meet
        case rel => exact ⟨_, ((((Int.tmod t114 2) == 1) != (decide (a0 < 0)))), (by first | rfl | (simp; done) | (simp [*]; done)), H', ⟨by first | omega | exact Nat.le_refl _⟩, by repeat (first | exact Drawn0.refl _ | apply Drawn0.step)⟩
      · rw [if_neg c10] at H
        have c10b0 : (t113 == a1) = false := beq_eq_false_iff_ne.mpr c10
        have c10b1 : (t113 != a1) = true := bne_iff_ne.mpr c10
        have H' := Aside0.mk H
        clear H
        go_wp2_with (first | ((with_reducible refine gate_callee (f := 16) rfl ?_); refine goesL_ (some 8) rfl rfl Try.func16 (by kernel_rfl) rfl #[.int .i64 a0] rfl (by (try simp only [List.map_toArray, List.map_cons, List.map_nil]); first | done | rfl | (simp only [List.length_drop, List.length_take]; rfl)) ?_; (with_reducible refine (zig_Zig.calls a0 t110 _ A5.out).mono ?_); rintro e w' ⟨rfl, ⟨nd, rfl⟩⟩; refine ⟨_, rfl, ?_⟩) | ((with_reducible refine gate_callee (f := 18) rfl ?_); refine goesL_ (some 9) rfl rfl Try.func18 (by kernel_rfl) rfl #[.int .u64 t110] rfl (by (try simp only [List.map_toArray, List.map_cons, List.map_nil]); first | done | rfl | (simp only [List.length_drop, List.length_take]; rfl)) ?_; (with_reducible refine (zig_Zag.calls t110 t111 _ A6.out).mono ?_); rintro e w' ⟨rfl, ⟨nd, rfl⟩⟩; refine ⟨_, rfl, ?_⟩) | (go_at_call 18; (with_reducible refine (zig_Zag.calls a1 t112 _ A8.out).mono ?_); rintro e w' ⟨rfl, ⟨nd, rfl⟩⟩) | (go_at_call 16; (with_reducible refine (zig_Zig.calls t112 t113 _ A9.out).mono ?_); rintro e w' ⟨rfl, ⟨nd, rfl⟩⟩))
        go_meet
        case rel => exact ⟨_, (true), (by first | rfl | (simp; done) | (simp [*]; done)), H', ⟨by first | omega | exact Nat.le_refl _⟩, by repeat (first | exact Drawn0.refl _ | apply Drawn0.step)⟩
    · rw [if_neg c7] at H
      have c7b0 : (t111 == a0) = false := beq_eq_false_iff_ne.mpr c7
      have c7b1 : (t111 != a0) = true := bne_iff_ne.mpr c7
      (first | rw [c7b0] | (simp only [i64_w, i32_w]; rw [c7b0]) | skip)
      have H' := Aside0.mk H
      clear H
      go_wp2_with (first | ((with_reducible refine gate_callee (f := 16) rfl ?_); refine goesL_ (some 8) rfl rfl Try.func16 (by kernel_rfl) rfl #[.int .i64 a0] rfl (by (try simp only [List.map_toArray, List.map_cons, List.map_nil]); first | done | rfl | (simp only [List.length_drop, List.length_take]; rfl)) ?_; (with_reducible refine (zig_Zig.calls a0 t110 _ A5.out).mono ?_); rintro e w' ⟨rfl, ⟨nd, rfl⟩⟩; refine ⟨_, rfl, ?_⟩) | ((with_reducible refine gate_callee (f := 18) rfl ?_); refine goesL_ (some 9) rfl rfl Try.func18 (by kernel_rfl) rfl #[.int .u64 t110] rfl (by (try simp only [List.map_toArray, List.map_cons, List.map_nil]); first | done | rfl | (simp only [List.length_drop, List.length_take]; rfl)) ?_; (with_reducible refine (zig_Zag.calls t110 t111 _ A6.out).mono ?_); rintro e w' ⟨rfl, ⟨nd, rfl⟩⟩; refine ⟨_, rfl, ?_⟩))
      go_meet
      case rel => exact ⟨_, (true), (by first | rfl | (simp; done) | (simp [*]; done)), H', ⟨by first | omega | exact Nat.le_refl _⟩, by repeat (first | exact Drawn0.refl _ | apply Drawn0.step)⟩
  case rest =>
    clear HC4
    try clear c1
    try clear p2
    try clear c4
    try clear c7
    try clear c7b0
    try clear c7b1
    try clear c10
    try clear c10b0
    try clear c10b1
    obtain ⟨kq, x27_3, rfl, HA, HJ3, ⟨mc3, rfl⟩⟩ := hcut
    cases kq with
    | zero => exact absurd HA.out (by simp [gaiterlaw04_ZigBack.j0])
    | succ kj3 =>
      have H := HA.out
      clear HA
      simp only [gaiterlaw04_ZigBack.j0] at H
      by_cases c12 : x27_3 = true
      · subst c12
        have H1 : (some false) = some r := by rw [if_pos rfl] at H; exact H
        clear H
        have H := H1
        clear H1
        obtain rfl := Option.some.inj H
        go_wp2
        go_ret
        exact ⟨by first | rfl | (simp; done) | (simp [*]; done), by repeat (first | exact Drawn0.refl _ | apply Drawn0.step)⟩
      · replace c12 := Bool.eq_false_iff.mpr c12
        subst c12
        have H1 : (if t109 = true then (if a0 ≤ 0 then (some true) else ((zig_Zig.f (wrap64 (a0 - 1))).bind fun t115 => ((zig_Zig.f a0).bind fun t116 => (if t115 < t116 then ((zig_Zig.f (wrap64 (-a0))).bind fun t117 => ((zig_Zig.f a0).bind fun t118 => (some (decide (t117 < t118))))) else (some false))))) else (some false)) = some r := by rw [if_neg (show ¬ (false = true) by decide)] at H; exact H
        clear H
        have H := H1
        clear H1
        by_cases c13 : t109 = true
        · subst c13
          have H1 : (if a0 ≤ 0 then (some true) else ((zig_Zig.f (wrap64 (a0 - 1))).bind fun t115 => ((zig_Zig.f a0).bind fun t116 => (if t115 < t116 then ((zig_Zig.f (wrap64 (-a0))).bind fun t117 => ((zig_Zig.f a0).bind fun t118 => (some (decide (t117 < t118))))) else (some false))))) = some r := by rw [if_pos rfl] at H; exact H
          clear H
          have H := H1
          clear H1
          by_cases c14 : a0 ≤ 0
          · rw [if_pos c14] at H
            have c14b0 : decide (a0 ≤ 0) = true := decide_eq_true c14
            clear c14
            obtain rfl := Option.some.inj H
            go_wp2
            go_ret
            exact ⟨by first | rfl | (simp; done) | (simp [*]; done), by repeat (first | exact Drawn0.refl _ | apply Drawn0.step)⟩
          · rw [if_neg c14] at H
            have c14b0 : decide (a0 ≤ 0) = false := decide_eq_false c14
            clear c14
            replace H := Option.bind_eq_some_iff.mp H
            obtain ⟨t115, A150, H⟩ := H
            replace H : ((zig_Zig.f a0).bind fun t116 => (if t115 < t116 then ((zig_Zig.f (wrap64 (-a0))).bind fun t117 => ((zig_Zig.f a0).bind fun t118 => (some (decide (t117 < t118))))) else (some false))) = some r := H
            have A15 := Aside0.mk A150
            clear A150
            replace H := Option.bind_eq_some_iff.mp H
            obtain ⟨t116, A160, H⟩ := H
            replace H : (if t115 < t116 then ((zig_Zig.f (wrap64 (-a0))).bind fun t117 => ((zig_Zig.f a0).bind fun t118 => (some (decide (t117 < t118))))) else (some false)) = some r := H
            have A16 := Aside0.mk A160
            clear A160
            by_cases c17 : t115 < t116
            · rw [if_pos c17] at H
              have c17b0 : decide (t115 < t116) = true := decide_eq_true c17
              clear c17
              replace H := Option.bind_eq_some_iff.mp H
              obtain ⟨t117, A180, H⟩ := H
              replace H : ((zig_Zig.f a0).bind fun t118 => (some (decide (t117 < t118)))) = some r := H
              have A18 := Aside0.mk A180
              clear A180
              replace H := Option.bind_eq_some_iff.mp H
              obtain ⟨t118, A190, H⟩ := H
              replace H : (some (decide (t117 < t118))) = some r := H
              have A19 := Aside0.mk A190
              clear A190
              obtain rfl := Option.some.inj H
              go_wp2_with (first | (go_at_call 16; (with_reducible refine (zig_Zig.calls (wrap64 (a0 - 1)) t115 _ A15.out).mono ?_); rintro e w' ⟨rfl, ⟨nd, rfl⟩⟩) | (go_at_call 16; (with_reducible refine (zig_Zig.calls a0 t116 _ A16.out).mono ?_); rintro e w' ⟨rfl, ⟨nd, rfl⟩⟩) | (go_at_call 16; (with_reducible refine (zig_Zig.calls (wrap64 (-a0)) t117 _ A18.out).mono ?_); rintro e w' ⟨rfl, ⟨nd, rfl⟩⟩) | (go_at_call 16; (with_reducible refine (zig_Zig.calls a0 t118 _ A19.out).mono ?_); rintro e w' ⟨rfl, ⟨nd, rfl⟩⟩))
              (try (have hd_ : t116 = t118 := Option.some.inj (A16.out.symm.trans A19.out); subst hd_))
              go_ret
              exact ⟨by first | rfl | (simp; done) | (simp [*]; done), by repeat (first | exact Drawn0.refl _ | apply Drawn0.step)⟩
            · rw [if_neg c17] at H
              have c17b0 : decide (t115 < t116) = false := decide_eq_false c17
              clear c17
              obtain rfl := Option.some.inj H
              go_wp2_with (first | (go_at_call 16; (with_reducible refine (zig_Zig.calls (wrap64 (a0 - 1)) t115 _ A15.out).mono ?_); rintro e w' ⟨rfl, ⟨nd, rfl⟩⟩) | (go_at_call 16; (with_reducible refine (zig_Zig.calls a0 t116 _ A16.out).mono ?_); rintro e w' ⟨rfl, ⟨nd, rfl⟩⟩))
              go_ret
              exact ⟨by first | rfl | (simp; done) | (simp [*]; done), by repeat (first | exact Drawn0.refl _ | apply Drawn0.step)⟩
        · replace c13 := Bool.eq_false_iff.mpr c13
          subst c13
          have H1 : (some false) = some r := by rw [if_neg (show ¬ (false = true) by decide)] at H; exact H
          clear H
          have H := H1
          clear H1
          obtain rfl := Option.some.inj H
          go_wp2
          go_ret
          exact ⟨by first | rfl | (simp; done) | (simp [*]; done), by repeat (first | exact Drawn0.refl _ | apply Drawn0.step)⟩

/-- THE ONE PURE STATEMENT of gaiterlaw04_ZigBack: yours. -/
def gaiterlaw04_ZigBack.Pure : Prop := ∀ (a0 : Int) (a1 : Int), (Lit.int .i64 a0).wf = true → (Lit.int .u64 a1).wf = true → ∃ k, gaiterlaw04_ZigBack.f k a0 a1 = some true
theorem gaiterlaw04_ZigBack.walk (P : gaiterlaw04_ZigBack.Pure) (a0 : Int) (a1 : Int) (w : World) (w0 : (Lit.int .i64 a0).wf = true) (w1 : (Lit.int .u64 a1).wf = true) :
    Calls Try.prog 4 #[.int .i64 a0, .int .u64 a1] w fun e w' => e = .returned (.bool true) ∧ Below w.heap.size w w' := by
  obtain ⟨k, h⟩ := P a0 a1 w0 w1
  refine (gaiterlaw04_ZigBack.calls k a0 a1 true w h).mono ?_
  rintro e w' ⟨rfl, hd⟩
  exact ⟨rfl, hd.below⟩

end Go.Proofs.Ythlieaggokdppaa.All
