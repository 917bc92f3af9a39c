-- written by a program of the session out of the translation; Lean checks it
import Derived.Test.YtfpcbnkipdjlhaaAllx0
import Derived.Test.YtfpcbnkipdjlhaaAllx22
namespace Go.Proofs.Ytfpcbnkipdjlhaa.All
open Go.RowKit Go.Proofs.YtfpcbnkipdjlhaaW.PrintWords Go.Proofs.YtfpcbnkipdjlhaaW.PrintLast Go.Proofs.YtfpcbnkipdjlhaaW.PrintMore
attribute [local go_sem] max2_int min2_int max_two min_two max_three min_three max_four min_four   -- for this text's walks alone
set_option linter.unusedVariables false
set_option linter.unusedSimpArgs false

/-! ### gaiterlaw00_Pick: function 29 -/
def gaiterlaw00_Pick.f (a0 : Int) (a1 : Int) : Option (Int) := if a1 = 0 then (none) else (if (Int.tmod a0 a1) < 0 then (some (wrap64 ((Int.tmod a0 a1) + a1))) else (some (Int.tmod a0 a1)))
set_option maxHeartbeats 8000000 in
set_option maxRecDepth 100000 in
theorem gaiterlaw00_Pick.calls (a0 : Int) (a1 : Int) (r : Int) (w : World) (h : gaiterlaw00_Pick.f a0 a1 = some r) :
    Calls Try.prog 29 #[.int .i64 a0, .int .i64 a1] w fun e w' => e = .returned (.int .i64 r) ∧ Drawn0 w w' := by
  have H : (if a1 = 0 then (none) else (if (Int.tmod a0 a1) < 0 then (some (wrap64 ((Int.tmod a0 a1) + a1))) else (some (Int.tmod a0 a1)))) = some r := h
  clear h
  by_cases c3 : a1 = 0
  · rw [if_pos c3] at H
    exact absurd H (by simp)
  · rw [if_neg c3] at H
    have c3b0 : (a1 == 0) = false := beq_eq_false_iff_ne.mpr c3
    have c3b1 : (a1 != 0) = true := bne_iff_ne.mpr c3
    by_cases c4 : (Int.tmod a0 a1) < 0
    · rw [if_pos c4] at H
      have c4b0 : decide ((Int.tmod a0 a1) < 0) = true := decide_eq_true c4
      clear c4
      obtain rfl := Option.some.inj H
      go_enter Try.func29, Try.ntmps29
      go_wp2
      go_ret
      exact ⟨by first | rfl | (simp; done) | (simp [*]; done), by repeat (first | exact Drawn0.refl _ | apply Drawn0.step)⟩
    · rw [if_neg c4] at H
      have c4b0 : decide ((Int.tmod a0 a1) < 0) = false := decide_eq_false c4
      clear c4
      obtain rfl := Option.some.inj H
      go_enter Try.func29, Try.ntmps29
      go_wp2
      go_ret
      exact ⟨by first | rfl | (simp; done) | (simp [*]; done), by repeat (first | exact Drawn0.refl _ | apply Drawn0.step)⟩

/-! ### gaiterlaw00_Rising: function 31 -/
def gaiterlaw00_Rising.l0 : Nat → List (S68) → List (S68) → Int → Option ((List (S68)))
  | 0, _, _, _ => none
  | k + 1, x0, x3, x4 => if x4 < (x0.length : Int) then (if (x3.length : Int) = 0 then (if 0 ≤ x4 then (if x3.length < 8796093022208 then (gaiterlaw00_Rising.l0 k x0 (x3 ++ [(⟨(rd_T68 x0 x4).f0, (rd_T68 x0 x4).f1⟩ : S68)]) (wrap64 (x4 + 1))) else (none)) else (none)) else (if 0 ≤ x4 then (if 0 ≤ (wrap64 ((x3.length : Int) - 1)) then (if (wrap64 ((x3.length : Int) - 1)) < (x3.length : Int) then (if ((rd_T68 x0 x4).f0) > ((rd_T68 x3 (wrap64 ((x3.length : Int) - 1))).f0) then (if x3.length < 8796093022208 then (gaiterlaw00_Rising.l0 k x0 (x3 ++ [(⟨(rd_T68 x0 x4).f0, (rd_T68 x0 x4).f1⟩ : S68)]) (wrap64 (x4 + 1))) else (none)) else (gaiterlaw00_Rising.l0 k x0 x3 (wrap64 (x4 + 1)))) else (none)) else (none)) else (none))) else (some x3)
def gaiterlaw00_Rising.f (k : Nat) (l0 : List (S68)) : Option ((List (S68))) := gaiterlaw00_Rising.l0 k l0 ([] : List (S68)) 0
theorem gaiterlaw00_Rising.mono_l : ∀ k, (∀ y0 y1 y2, LeO (gaiterlaw00_Rising.l0 k y0 y1 y2) (gaiterlaw00_Rising.l0 (k + 1) y0 y1 y2))
  | 0 => fun _ _ _ r h => by simp [gaiterlaw00_Rising.l0] at h
  | k + 1 => by
    have ih0 := gaiterlaw00_Rising.mono_l k
    · intro y0 y1 y2
      unfold gaiterlaw00_Rising.l0
      repeat' first
      | (with_reducible exact ih0 _ _ _)
      | (with_reducible exact LeO.refl _)
      | (with_reducible exact LeO.none _)
      | (with_reducible refine LeO.ite ?_ ?_)
      | (with_reducible refine LeO.bind ?_ (fun _ => ?_))
      | exact ih0 _ _ _
      | exact LeO.none _
      | refine LeO.ite ?_ ?_
      | refine LeO.bind ?_ (fun _ => ?_)
theorem gaiterlaw00_Rising.mono : ∀ a0 k, LeO (gaiterlaw00_Rising.f k a0) (gaiterlaw00_Rising.f (k + 1) a0) := by
  intro a0 k
  have ih0 := gaiterlaw00_Rising.mono_l k
  unfold gaiterlaw00_Rising.f
  repeat' first
      | (with_reducible exact ih0 _ _ _)
      | (with_reducible exact LeO.refl _)
      | (with_reducible exact LeO.none _)
      | (with_reducible refine LeO.ite ?_ ?_)
      | (with_reducible refine LeO.bind ?_ (fun _ => ?_))
      | exact ih0 _ _ _
      | exact LeO.none _
      | refine LeO.ite ?_ ?_
      | refine LeO.bind ?_ (fun _ => ?_)
set_option maxHeartbeats 8000000 in
set_option maxRecDepth 100000 in
theorem gaiterlaw00_Rising.calls (k : Nat) (A0 : Option Addr) (c0 : Nat) (l0 : List (S68)) (r : List (S68)) (w : World) (hr0 : Kd.C k68 w A0 l0.length l0) (hc0 : l0.length ≤ c0) (h : gaiterlaw00_Rising.f k l0 = some r) :
    Calls Try.prog 31 #[.slice A0 l0.length c0] w fun e w' => ∃ v0_ : Value, e = .returned (v0_) ∧ Kd.R k68 68 w' w.heap.size (fun _ => True) v0_ r ∧ Below w.heap.size w w' := by
  have hu68 := Try.underlying68
  have HR0 := Aside0.mk hr0
  have HC0 := Aside0.mk hc0
  clear hr0 hc0
  have HB := Aside0.mk (Below.refl w.heap.size w)
  have H : (gaiterlaw00_Rising.l0 k l0 ([] : List (S68)) 0) = some r := h
  clear h
  have H' := Aside0.mk H
  clear H
  go_enter Try.func31, Try.ntmps31
  go_wp2
  repeat ((first | go_quiet (fail) | go_region); try go_wp2)
  go_loopg [3, 4] k (fun kq v3 v4 w' => ∃ (x3_1 : List (S68)) (x4_1 : Int), v4 = .int .i64 x4_1 ∧ Aside0 (gaiterlaw00_Rising.l0 kq l0 x3_1 x4_1 = some r) ∧ Aside0 (kq ≤ k) ∧ Aside0 (Kd.R k68 68 w' w.heap.size (fun _ => True) v3 x3_1) ∧ Aside0 (Below w.heap.size w w'))
  case atStart => exact ⟨(([] : List (S68))), (0), (by first | rfl | (simp; done) | (simp [*]; done)), H', ⟨Nat.le_refl _⟩, ⟨by first | exact Kd.R_nil _ _ _ _ _ | exact Kd.N_nil _ _ _ _ _ | exact Kd.V_nil _ _ _ _ _ | exact Kd.Q_nil _ _ _ _ _ | exact Kd.S_nil _ _ _ _ _⟩, ⟨by repeat (first | (with_reducible first | exact HB.out | apply below_alloc | apply pw_below_drewN | apply below_drew1) | exact HB.out)⟩⟩
  case round =>
    clear H'
    obtain ⟨x3_1, x4_1, rfl, HA, HK1, HO_3, HB⟩ := hrel
    cases gk with
    | zero => exact absurd HA.out (by simp [gaiterlaw00_Rising.l0])
    | succ k1 =>
      have H := HA.out
      clear HA
      simp only [gaiterlaw00_Rising.l0] at H
      by_cases c2 : x4_1 < (l0.length : Int)
      · rw [if_pos c2] at H
        have c2b0 : decide (x4_1 < (l0.length : Int)) = true := decide_eq_true c2
        clear c2
        by_cases c3 : (x3_1.length : Int) = 0
        · rw [if_pos c3] at H
          have c3b0 : ((x3_1.length : Int) == 0) = true := beq_iff_eq.mpr c3
          have c3b1 : ((x3_1.length : Int) != 0) = false := bne_eq_false_iff_eq.mpr c3
          clear c3
          by_cases c4 : 0 ≤ x4_1
          · rw [if_pos c4] at H
            have c4b0 : decide (0 ≤ x4_1) = true := decide_eq_true c4
            clear c4
            by_cases c5 : x3_1.length < 8796093022208
            · rw [if_pos c5] at H
              have LMc5 := Aside0.mk c5
              clear c5
              obtain ⟨y292, hy292⟩ : ∃ y_ : List (S68), y_ = (x3_1 ++ [(⟨(rd_T68 l0 x4_1).f0, (rd_T68 l0 x4_1).f1⟩ : S68)]) := ⟨_, rfl⟩
              replace H : (gaiterlaw00_Rising.l0 k1 l0 y292 (wrap64 (x4_1 + 1))) = some r := by first | (rw [hy292]; with_reducible exact H) | (have H2_ := (Option.bind_some _ _).symm.trans H; rw [hy292]; with_reducible exact H2_) | (have H2_ := (Option.bind_some _ _).symm.trans H; with_reducible exact H2_) | with_reducible exact H | (rw [hy292]; exact H) | exact H
              have Ny292 := Aside0.mk hy292
              clear hy292
              have H' := Aside0.mk H
              clear H
              obtain ⟨Ao6, co6, eo6⟩ := Kd.R_slice HO_3.out
              subst eo6
              have p291 : 0 ≤ (x4_1 : Int) := of_decide_eq_true (by first | (with_reducible assumption) | assumption)
              have q291 : x4_1 < (l0.length : Int) := of_decide_eq_true (by first | (with_reducible assumption) | assumption)
              obtain ⟨ad291, e291, hx291_0, hx291_1⟩ := at_T68 HR0.out x4_1 p291 q291
              cases e291
              replace hx291_0 := (HB.out.cell (World.block_lt_of_cell? w _ hx291_0)).trans hx291_0
              replace hx291_1 := (HB.out.cell (World.block_lt_of_cell? w _ hx291_1)).trans hx291_1
              replace p291 := eq_true p291
              (try (have q291s := q291; simp only [List.length_drop, List.length_take] at q291s; replace q291s := eq_true q291s)); replace q291 := eq_true q291
              go_wp2_with (first | ((with_reducible refine gate_builtin (b := .append) (xs := #[.tmp 16, .tmp 21]) rfl ?_); at_builtin; refine Kd.R_append k68 (w0 := w) w.heap.size rfl (.tmp 16) (.tmp 21) 44 68 (.agg #[(.int .i64 0), (.int .u64 0)]) 16 rfl Try.underlying44 info68 rfl (by decide) (by omega) (.slice Ao6 x3_1.length co6) x3_1 (⟨(rd_T68 l0 x4_1).f0, (rd_T68 l0 x4_1).f1⟩ : S68) [.int .i64 ((rd_T68 l0 x4_1).f0), .int .u64 ((rd_T68 l0 x4_1).f1)] (fun _ => True) (fun _ => False) rfl rfl ?aP (fun _ hk => hk.elim) ?aF ?aO ?aB ?aS ?aL ?_; (case aP => exact k68_mkM _ _ _ (⟨(rd_T68 l0 x4_1).f0, (rd_T68 l0 x4_1).f1⟩ : S68)); (case aB => exact (by repeat (first | (with_reducible first | exact HB.out | apply below_alloc | apply pw_below_drewN | apply below_drew1) | exact HB.out))); (case aF => exact (fun _ _ => trivial)); (case aO => exact (by (with_reducible repeat (first | apply Kd.R_alloc | apply Kd.R_drewN | apply Kd.R_drew)); exact HO_3.out)); (case aS => exact (below_size (by repeat (first | (with_reducible first | exact HB.out | apply below_alloc | apply pw_below_drewN | apply below_drew1) | exact HB.out)))); (case aL => have := LMc5.out; omega); intro v293 w7 ho hb hg hat; rw [← Ny292.out] at ho; have n0_ := Aside0.mk (hb); have n1_ := Aside0.mk (ho); clear HB; clear HO_3; have HB := n0_; have HO294 := n1_; clear n0_ n1_; clear ho hb hg hat))
              repeat (go_quiet (first | ((with_reducible refine gate_builtin (b := .append) (xs := #[.tmp 16, .tmp 21]) rfl ?_); at_builtin; refine Kd.R_append k68 (w0 := w) w.heap.size rfl (.tmp 16) (.tmp 21) 44 68 (.agg #[(.int .i64 0), (.int .u64 0)]) 16 rfl Try.underlying44 info68 rfl (by decide) (by omega) (.slice Ao6 x3_1.length co6) x3_1 (⟨(rd_T68 l0 x4_1).f0, (rd_T68 l0 x4_1).f1⟩ : S68) [.int .i64 ((rd_T68 l0 x4_1).f0), .int .u64 ((rd_T68 l0 x4_1).f1)] (fun _ => True) (fun _ => False) rfl rfl ?aP (fun _ hk => hk.elim) ?aF ?aO ?aB ?aS ?aL ?_; (case aP => exact k68_mkM _ _ _ (⟨(rd_T68 l0 x4_1).f0, (rd_T68 l0 x4_1).f1⟩ : S68)); (case aB => exact (by repeat (first | (with_reducible first | exact HB.out | apply below_alloc | apply pw_below_drewN | apply below_drew1) | exact HB.out))); (case aF => exact (fun _ _ => trivial)); (case aO => exact (by (with_reducible repeat (first | apply Kd.R_alloc | apply Kd.R_drewN | apply Kd.R_drew)); exact HO_3.out)); (case aS => exact (below_size (by repeat (first | (with_reducible first | exact HB.out | apply below_alloc | apply pw_below_drewN | apply below_drew1) | exact HB.out)))); (case aL => have := LMc5.out; omega); intro v293 w7 ho hb hg hat; rw [← Ny292.out] at ho; have n0_ := Aside0.mk (hb); have n1_ := Aside0.mk (ho); clear HB; clear HO_3; have HB := n0_; have HO294 := n1_; clear n0_ n1_; clear ho hb hg hat)); try go_wp2_with (first | ((with_reducible refine gate_builtin (b := .append) (xs := #[.tmp 16, .tmp 21]) rfl ?_); at_builtin; refine Kd.R_append k68 (w0 := w) w.heap.size rfl (.tmp 16) (.tmp 21) 44 68 (.agg #[(.int .i64 0), (.int .u64 0)]) 16 rfl Try.underlying44 info68 rfl (by decide) (by omega) (.slice Ao6 x3_1.length co6) x3_1 (⟨(rd_T68 l0 x4_1).f0, (rd_T68 l0 x4_1).f1⟩ : S68) [.int .i64 ((rd_T68 l0 x4_1).f0), .int .u64 ((rd_T68 l0 x4_1).f1)] (fun _ => True) (fun _ => False) rfl rfl ?aP (fun _ hk => hk.elim) ?aF ?aO ?aB ?aS ?aL ?_; (case aP => exact k68_mkM _ _ _ (⟨(rd_T68 l0 x4_1).f0, (rd_T68 l0 x4_1).f1⟩ : S68)); (case aB => exact (by repeat (first | (with_reducible first | exact HB.out | apply below_alloc | apply pw_below_drewN | apply below_drew1) | exact HB.out))); (case aF => exact (fun _ _ => trivial)); (case aO => exact (by (with_reducible repeat (first | apply Kd.R_alloc | apply Kd.R_drewN | apply Kd.R_drew)); exact HO_3.out)); (case aS => exact (below_size (by repeat (first | (with_reducible first | exact HB.out | apply below_alloc | apply pw_below_drewN | apply below_drew1) | exact HB.out)))); (case aL => have := LMc5.out; omega); intro v293 w7 ho hb hg hat; rw [← Ny292.out] at ho; have n0_ := Aside0.mk (hb); have n1_ := Aside0.mk (ho); clear HB; clear HO_3; have HB := n0_; have HO294 := n1_; clear n0_ n1_; clear ho hb hg hat)))
              go_roundg k1
              case measure => have := HK1.out; omega
              case rel => exact ⟨(y292), (wrap64 (x4_1 + 1)), (by first | rfl | (simp; done) | (simp [*]; done)), H', ⟨by have := HK1.out; omega⟩, ⟨by (with_reducible repeat (first | apply Kd.R_alloc | apply Kd.R_drewN | apply Kd.R_drew)); exact HO294.out⟩, ⟨by repeat (first | (with_reducible first | exact HB.out | apply below_alloc | apply pw_below_drewN | apply below_drew1) | exact HB.out)⟩⟩
            · rw [if_neg c5] at H
              exact absurd H (by simp)
          · rw [if_neg c4] at H
            exact absurd H (by simp)
        · rw [if_neg c3] at H
          have c3b0 : ((x3_1.length : Int) == 0) = false := beq_eq_false_iff_ne.mpr c3
          have c3b1 : ((x3_1.length : Int) != 0) = true := bne_iff_ne.mpr c3
          have c3b2 : ¬ (x3_1 = []) := fun h_ => c3 (by rw [h_]; rfl)
          by_cases c8 : 0 ≤ x4_1
          · rw [if_pos c8] at H
            have c8b0 : decide (0 ≤ x4_1) = true := decide_eq_true c8
            clear c8
            obtain ⟨ji9, hji9⟩ : ∃ j_ : Int, (wrap64 ((x3_1.length : Int) - 1)) = j_ := ⟨_, rfl⟩
            replace H : (if 0 ≤ (ji9) then (if (ji9) < (x3_1.length : Int) then (if ((rd_T68 l0 x4_1).f0) > ((rd_T68 x3_1 (ji9)).f0) then (if x3_1.length < 8796093022208 then (gaiterlaw00_Rising.l0 k1 l0 (x3_1 ++ [(⟨(rd_T68 l0 x4_1).f0, (rd_T68 l0 x4_1).f1⟩ : S68)]) (wrap64 (x4_1 + 1))) else (none)) else (gaiterlaw00_Rising.l0 k1 l0 x3_1 (wrap64 (x4_1 + 1)))) else (none)) else (none)) = some r := by first | (rw [hji9] at H; exact H) | (simp only [hji9] at H ⊢; exact H)
            have hji9w : (IntKind.i64.wrap ((x3_1.length : Int) - 1)) = ji9 := (i64_w _).trans hji9
            by_cases c10 : 0 ≤ (ji9)
            · rw [if_pos c10] at H
              have c10b0 : decide (0 ≤ (ji9)) = true := decide_eq_true c10
              clear c10
              by_cases c11 : (ji9) < (x3_1.length : Int)
              · rw [if_pos c11] at H
                have c11b0 : decide ((ji9) < (x3_1.length : Int)) = true := decide_eq_true c11
                clear c11
                by_cases c12 : ((rd_T68 l0 x4_1).f0) > ((rd_T68 x3_1 (ji9)).f0)
                · rw [if_pos c12] at H
                  have c12b0 : decide (((rd_T68 x3_1 (ji9)).f0) < ((rd_T68 l0 x4_1).f0)) = true := decide_eq_true c12
                  clear c12
                  by_cases c13 : x3_1.length < 8796093022208
                  · rw [if_pos c13] at H
                    have LMc13 := Aside0.mk c13
                    clear c13
                    obtain ⟨y298, hy298⟩ : ∃ y_ : List (S68), y_ = (x3_1 ++ [(⟨(rd_T68 l0 x4_1).f0, (rd_T68 l0 x4_1).f1⟩ : S68)]) := ⟨_, rfl⟩
                    replace H : (gaiterlaw00_Rising.l0 k1 l0 y298 (wrap64 (x4_1 + 1))) = some r := by first | (rw [hy298]; with_reducible exact H) | (have H2_ := (Option.bind_some _ _).symm.trans H; rw [hy298]; with_reducible exact H2_) | (have H2_ := (Option.bind_some _ _).symm.trans H; with_reducible exact H2_) | with_reducible exact H | (rw [hy298]; exact H) | exact H
                    have Ny298 := Aside0.mk hy298
                    clear hy298
                    have H' := Aside0.mk H
                    clear H
                    obtain ⟨Ao14, co14, eo14⟩ := Kd.R_slice HO_3.out
                    subst eo14
                    have p295 : 0 ≤ (x4_1 : Int) := of_decide_eq_true (by first | (with_reducible assumption) | assumption)
                    have q295 : x4_1 < (l0.length : Int) := of_decide_eq_true (by first | (with_reducible assumption) | assumption)
                    obtain ⟨ad295, e295, hx295_0, hx295_1⟩ := at_T68 HR0.out x4_1 p295 q295
                    cases e295
                    replace hx295_0 := (HB.out.cell (World.block_lt_of_cell? w _ hx295_0)).trans hx295_0
                    replace hx295_1 := (HB.out.cell (World.block_lt_of_cell? w _ hx295_1)).trans hx295_1
                    replace p295 := eq_true p295
                    (try (have q295s := q295; simp only [List.length_drop, List.length_take] at q295s; replace q295s := eq_true q295s)); replace q295 := eq_true q295
                    have p296 : 0 ≤ ((ji9) : Int) := of_decide_eq_true (by first | (with_reducible assumption) | assumption)
                    have q296 : (ji9) < (x3_1.length : Int) := of_decide_eq_true (by first | (with_reducible assumption) | assumption)
                    obtain ⟨ad296, e296, hx296_0, hx296_1⟩ := at_T68 (Kd.R_reads' HO_3.out).2.2 (ji9) p296 q296
                    cases e296
                    replace p296 := eq_true p296
                    (try (have q296s := q296; simp only [List.length_drop, List.length_take] at q296s; replace q296s := eq_true q296s)); replace q296 := eq_true q296
                    have p297 : 0 ≤ (x4_1 : Int) := of_decide_eq_true (by first | (with_reducible assumption) | assumption)
                    have q297 : x4_1 < (l0.length : Int) := of_decide_eq_true (by first | (with_reducible assumption) | assumption)
                    obtain ⟨ad297, e297, hx297_0, hx297_1⟩ := at_T68 HR0.out x4_1 p297 q297
                    obtain rfl : ad295 = ad297 := (by injection e297)
                    replace hx297_0 := (HB.out.cell (World.block_lt_of_cell? w _ hx297_0)).trans hx297_0
                    replace hx297_1 := (HB.out.cell (World.block_lt_of_cell? w _ hx297_1)).trans hx297_1
                    replace p297 := eq_true p297
                    (try (have q297s := q297; simp only [List.length_drop, List.length_take] at q297s; replace q297s := eq_true q297s)); replace q297 := eq_true q297
                    go_wp2_with (first | ((with_reducible refine gate_builtin (b := .append) (xs := #[.tmp 35, .tmp 40]) rfl ?_); at_builtin; refine Kd.R_append k68 (w0 := w) w.heap.size rfl (.tmp 35) (.tmp 40) 44 68 (.agg #[(.int .i64 0), (.int .u64 0)]) 16 rfl Try.underlying44 info68 rfl (by decide) (by omega) (.slice (some ad296) x3_1.length co14) x3_1 (⟨(rd_T68 l0 x4_1).f0, (rd_T68 l0 x4_1).f1⟩ : S68) [.int .i64 ((rd_T68 l0 x4_1).f0), .int .u64 ((rd_T68 l0 x4_1).f1)] (fun _ => True) (fun _ => False) rfl rfl ?aP (fun _ hk => hk.elim) ?aF ?aO ?aB ?aS ?aL ?_; (case aP => exact k68_mkM _ _ _ (⟨(rd_T68 l0 x4_1).f0, (rd_T68 l0 x4_1).f1⟩ : S68)); (case aB => exact (by repeat (first | (with_reducible first | exact HB.out | apply below_alloc | apply pw_below_drewN | apply below_drew1) | exact HB.out))); (case aF => exact (fun _ _ => trivial)); (case aO => exact (by (with_reducible repeat (first | apply Kd.R_alloc | apply Kd.R_drewN | apply Kd.R_drew)); exact HO_3.out)); (case aS => exact (below_size (by repeat (first | (with_reducible first | exact HB.out | apply below_alloc | apply pw_below_drewN | apply below_drew1) | exact HB.out)))); (case aL => have := LMc13.out; omega); intro v299 w15 ho hb hg hat; rw [← Ny298.out] at ho; have n0_ := Aside0.mk (hb); have n1_ := Aside0.mk (ho); clear HB; clear HO_3; have HB := n0_; have HO300 := n1_; clear n0_ n1_; clear ho hb hg hat))
                    repeat (go_quiet (first | ((with_reducible refine gate_builtin (b := .append) (xs := #[.tmp 35, .tmp 40]) rfl ?_); at_builtin; refine Kd.R_append k68 (w0 := w) w.heap.size rfl (.tmp 35) (.tmp 40) 44 68 (.agg #[(.int .i64 0), (.int .u64 0)]) 16 rfl Try.underlying44 info68 rfl (by decide) (by omega) (.slice (some ad296) x3_1.length co14) x3_1 (⟨(rd_T68 l0 x4_1).f0, (rd_T68 l0 x4_1).f1⟩ : S68) [.int .i64 ((rd_T68 l0 x4_1).f0), .int .u64 ((rd_T68 l0 x4_1).f1)] (fun _ => True) (fun _ => False) rfl rfl ?aP (fun _ hk => hk.elim) ?aF ?aO ?aB ?aS ?aL ?_; (case aP => exact k68_mkM _ _ _ (⟨(rd_T68 l0 x4_1).f0, (rd_T68 l0 x4_1).f1⟩ : S68)); (case aB => exact (by repeat (first | (with_reducible first | exact HB.out | apply below_alloc | apply pw_below_drewN | apply below_drew1) | exact HB.out))); (case aF => exact (fun _ _ => trivial)); (case aO => exact (by (with_reducible repeat (first | apply Kd.R_alloc | apply Kd.R_drewN | apply Kd.R_drew)); exact HO_3.out)); (case aS => exact (below_size (by repeat (first | (with_reducible first | exact HB.out | apply below_alloc | apply pw_below_drewN | apply below_drew1) | exact HB.out)))); (case aL => have := LMc13.out; omega); intro v299 w15 ho hb hg hat; rw [← Ny298.out] at ho; have n0_ := Aside0.mk (hb); have n1_ := Aside0.mk (ho); clear HB; clear HO_3; have HB := n0_; have HO300 := n1_; clear n0_ n1_; clear ho hb hg hat)); try go_wp2_with (first | ((with_reducible refine gate_builtin (b := .append) (xs := #[.tmp 35, .tmp 40]) rfl ?_); at_builtin; refine Kd.R_append k68 (w0 := w) w.heap.size rfl (.tmp 35) (.tmp 40) 44 68 (.agg #[(.int .i64 0), (.int .u64 0)]) 16 rfl Try.underlying44 info68 rfl (by decide) (by omega) (.slice (some ad296) x3_1.length co14) x3_1 (⟨(rd_T68 l0 x4_1).f0, (rd_T68 l0 x4_1).f1⟩ : S68) [.int .i64 ((rd_T68 l0 x4_1).f0), .int .u64 ((rd_T68 l0 x4_1).f1)] (fun _ => True) (fun _ => False) rfl rfl ?aP (fun _ hk => hk.elim) ?aF ?aO ?aB ?aS ?aL ?_; (case aP => exact k68_mkM _ _ _ (⟨(rd_T68 l0 x4_1).f0, (rd_T68 l0 x4_1).f1⟩ : S68)); (case aB => exact (by repeat (first | (with_reducible first | exact HB.out | apply below_alloc | apply pw_below_drewN | apply below_drew1) | exact HB.out))); (case aF => exact (fun _ _ => trivial)); (case aO => exact (by (with_reducible repeat (first | apply Kd.R_alloc | apply Kd.R_drewN | apply Kd.R_drew)); exact HO_3.out)); (case aS => exact (below_size (by repeat (first | (with_reducible first | exact HB.out | apply below_alloc | apply pw_below_drewN | apply below_drew1) | exact HB.out)))); (case aL => have := LMc13.out; omega); intro v299 w15 ho hb hg hat; rw [← Ny298.out] at ho; have n0_ := Aside0.mk (hb); have n1_ := Aside0.mk (ho); clear HB; clear HO_3; have HB := n0_; have HO300 := n1_; clear n0_ n1_; clear ho hb hg hat)))
                    go_roundg k1
                    case measure => have := HK1.out; omega
                    case rel => exact ⟨(y298), (wrap64 (x4_1 + 1)), (by first | rfl | (simp; done) | (simp [*]; done)), H', ⟨by have := HK1.out; omega⟩, ⟨by (with_reducible repeat (first | apply Kd.R_alloc | apply Kd.R_drewN | apply Kd.R_drew)); exact HO300.out⟩, ⟨by repeat (first | (with_reducible first | exact HB.out | apply below_alloc | apply pw_below_drewN | apply below_drew1) | exact HB.out)⟩⟩
                  · rw [if_neg c13] at H
                    exact absurd H (by simp)
                · rw [if_neg c12] at H
                  have c12b0 : decide (((rd_T68 x3_1 (ji9)).f0) < ((rd_T68 l0 x4_1).f0)) = false := decide_eq_false c12
                  clear c12
                  have H' := Aside0.mk H
                  clear H
                  obtain ⟨Ao16, co16, eo16⟩ := Kd.R_slice HO_3.out
                  subst eo16
                  have p295 : 0 ≤ (x4_1 : Int) := of_decide_eq_true (by first | (with_reducible assumption) | assumption)
                  have q295 : x4_1 < (l0.length : Int) := of_decide_eq_true (by first | (with_reducible assumption) | assumption)
                  obtain ⟨ad295, e295, hx295_0, hx295_1⟩ := at_T68 HR0.out x4_1 p295 q295
                  cases e295
                  replace hx295_0 := (HB.out.cell (World.block_lt_of_cell? w _ hx295_0)).trans hx295_0
                  replace hx295_1 := (HB.out.cell (World.block_lt_of_cell? w _ hx295_1)).trans hx295_1
                  replace p295 := eq_true p295
                  (try (have q295s := q295; simp only [List.length_drop, List.length_take] at q295s; replace q295s := eq_true q295s)); replace q295 := eq_true q295
                  have p296 : 0 ≤ ((ji9) : Int) := of_decide_eq_true (by first | (with_reducible assumption) | assumption)
                  have q296 : (ji9) < (x3_1.length : Int) := of_decide_eq_true (by first | (with_reducible assumption) | assumption)
                  obtain ⟨ad296, e296, hx296_0, hx296_1⟩ := at_T68 (Kd.R_reads' HO_3.out).2.2 (ji9) p296 q296
                  cases e296
                  replace p296 := eq_true p296
                  (try (have q296s := q296; simp only [List.length_drop, List.length_take] at q296s; replace q296s := eq_true q296s)); replace q296 := eq_true q296
                  go_wp2
                  repeat ((first | go_quiet (fail) | go_region); try go_wp2)
                  go_roundg k1
                  case measure => have := HK1.out; omega
                  case rel => exact ⟨(x3_1), (wrap64 (x4_1 + 1)), (by first | rfl | (simp; done) | (simp [*]; done)), H', ⟨by have := HK1.out; omega⟩, ⟨by (with_reducible repeat (first | apply Kd.R_alloc | apply Kd.R_drewN | apply Kd.R_drew)); exact HO_3.out⟩, ⟨by repeat (first | (with_reducible first | exact HB.out | apply below_alloc | apply pw_below_drewN | apply below_drew1) | exact HB.out)⟩⟩
              · rw [if_neg c11] at H
                exact absurd H (by simp)
            · rw [if_neg c10] at H
              exact absurd H (by simp)
          · rw [if_neg c8] at H
            exact absurd H (by simp)
      · rw [if_neg c2] at H
        have c2b0 : decide (x4_1 < (l0.length : Int)) = false := decide_eq_false c2
        clear c2
        obtain rfl := Option.some.inj H
        go_wp2
        repeat ((first | go_quiet (fail) | go_region); try go_wp2)
        go_ret
        exact ⟨_, by first | rfl | (simp [errW_none, errW_some] <;> rfl) | (simp [*, errW_none, errW_some] <;> rfl), by (with_reducible repeat (first | apply Kd.R_alloc | apply Kd.R_drewN | apply Kd.R_drew)); exact HO_3.out, by repeat (first | (with_reducible first | exact HB.out | apply below_alloc | apply pw_below_drewN | apply below_drew1) | exact HB.out)⟩

/-! ### gaiterlaw00_Bits: function 52 -/
def gaiterlaw00_Bits.l0 : Nat → List Int → List Int → Int → Option (List Int × Int)
  | 0, _, _, _ => none
  | k + 1, x0, x3, x4 => if x4 < (x0.length : Int) then (if 0 ≤ x4 then (if x3.length < 140737488355328 then (gaiterlaw00_Bits.l0 k x0 (x3 ++ [Int.tmod (rd x0 x4) 2]) (wrap64 (x4 + 1))) else (none)) else (none)) else ((gaiterref01_Bytes.f k x3).bind fun t607 => (some (t607, (x0.length : Int))))
def gaiterlaw00_Bits.f (k : Nat) (l0 : List Int) : Option (List Int × Int) := gaiterlaw00_Bits.l0 k l0 ([] : List Int) 0
theorem gaiterlaw00_Bits.mono_l : ∀ k, (∀ y0 y1 y2, LeO (gaiterlaw00_Bits.l0 k y0 y1 y2) (gaiterlaw00_Bits.l0 (k + 1) y0 y1 y2))
  | 0 => fun _ _ _ r h => by simp [gaiterlaw00_Bits.l0] at h
  | k + 1 => by
    have ih0 := gaiterlaw00_Bits.mono_l k
    · intro y0 y1 y2
      unfold gaiterlaw00_Bits.l0
      repeat' first
      | (with_reducible exact ih0 _ _ _)
      | (with_reducible exact gaiterref01_Bytes.mono _ _)
      | (with_reducible exact LeO.refl _)
      | (with_reducible exact LeO.none _)
      | (with_reducible refine LeO.ite ?_ ?_)
      | (with_reducible refine LeO.bind ?_ (fun _ => ?_))
      | exact ih0 _ _ _
      | exact gaiterref01_Bytes.mono _ _
      | exact LeO.none _
      | refine LeO.ite ?_ ?_
      | refine LeO.bind ?_ (fun _ => ?_)
theorem gaiterlaw00_Bits.mono : ∀ a0 k, LeO (gaiterlaw00_Bits.f k a0) (gaiterlaw00_Bits.f (k + 1) a0) := by
  intro a0 k
  have ih0 := gaiterlaw00_Bits.mono_l k
  unfold gaiterlaw00_Bits.f
  repeat' first
      | (with_reducible exact ih0 _ _ _)
      | (with_reducible exact gaiterref01_Bytes.mono _ _)
      | (with_reducible exact LeO.refl _)
      | (with_reducible exact LeO.none _)
      | (with_reducible refine LeO.ite ?_ ?_)
      | (with_reducible refine LeO.bind ?_ (fun _ => ?_))
      | exact ih0 _ _ _
      | exact gaiterref01_Bytes.mono _ _
      | exact LeO.none _
      | refine LeO.ite ?_ ?_
      | refine LeO.bind ?_ (fun _ => ?_)
set_option maxHeartbeats 8000000 in
set_option maxRecDepth 100000 in
theorem gaiterlaw00_Bits.calls (k : Nat) (A0 : Option Addr) (c0 : Nat) (l0 : List Int) (r1 : List Int) (r2 : Int) (w : World) (hr0 : Kd.C (Kd.int .u8) w A0 l0.length l0) (hc0 : l0.length ≤ c0) (h : gaiterlaw00_Bits.f k l0 = some (r1, r2)) :
    Calls Try.prog 52 #[.slice A0 l0.length c0] w fun e w' => ∃ v0_ : Value, e = .returned (.agg #[v0_, .int .i64 r2]) ∧ Kd.R (Kd.int .u8) 5 w' w.heap.size (fun _ => True) v0_ r1 ∧ Below w.heap.size w w' := by
  have hu86 := Try.underlying86
  have HR0 := Aside0.mk hr0
  have HC0 := Aside0.mk hc0
  clear hr0 hc0
  have HB := Aside0.mk (Below.refl w.heap.size w)
  have H : (gaiterlaw00_Bits.l0 k l0 ([] : List Int) 0) = some (r1, r2) := h
  clear h
  have H' := Aside0.mk H
  clear H
  go_enter Try.func52, Try.ntmps52
  go_wp2_with (first | ((with_reducible refine gate_dst (N := 2) rfl ?_); refine box_event ?hg (N := 2) ?hd (cs := #[.slice none 0 0, .int .i64 0]) (t := 86) ?hr ?_; (case hd => rfl); (case hg => rfl); (case hr => first | (go_simp; done) | (go_simp; rfl)); intro gb602 hg w2 hbox hb; have n0_ := Aside0.mk (below_step (by repeat (first | (with_reducible first | exact HB.out | apply below_alloc | apply pw_below_drewN | apply below_drew1) | exact HB.out)) hb); have n1_ := Aside0.mk (hbox); have n2_ := Aside0.mk ((by rw [hg]; exact (below_size (by repeat (first | (with_reducible first | exact HB.out | apply below_alloc | apply pw_below_drewN | apply below_drew1) | exact HB.out))) : w.heap.size ≤ gb602)); have n3_ := Aside0.mk ((by rw [hg]; exact (below_size (by repeat (first | (with_reducible first | exact HB.out | apply below_alloc | apply pw_below_drewN | apply below_drew1) | exact HB.out))) : w.heap.size ≤ gb602)); clear HB; have HB := n0_; have BK602 := n1_; have GW602 := n2_; have GE602 := n3_; clear n0_ n1_ n2_ n3_; clear hb hbox hg))
  go_loopg [3, 4] k (fun kq v3 v4 w' => ∃ (x3_1 : List Int) (x4_1 : Int), v4 = .int .i64 x4_1 ∧ Aside0 (gaiterlaw00_Bits.l0 kq l0 x3_1 x4_1 = some (r1, r2)) ∧ Aside0 (kq ≤ k) ∧ Aside0 (Kd.R (Kd.int .u8) 5 w' w.heap.size (fun _ => True) v3 x3_1) ∧ Aside0 (w'.heap[gb602]? = some (.cells #[(.slice none 0 0), .int .i64 0] 86 (0, 0))) ∧ Aside0 (Below w.heap.size w w'))
  case atStart => exact ⟨(([] : List Int)), (0), (by first | rfl | (simp; done) | (simp [*]; done)), H', ⟨Nat.le_refl _⟩, ⟨by first | exact Kd.R_nil _ _ _ _ _ | exact Kd.N_nil _ _ _ _ _ | exact Kd.V_nil _ _ _ _ _ | exact Kd.Q_nil _ _ _ _ _ | exact Kd.S_nil _ _ _ _ _⟩, ⟨by (with_reducible repeat (first | refine blk_drewN ?_ _ | refine blk_drew ?_ | refine blk_alloc ?_ _)); exact BK602.out⟩, ⟨by repeat (first | (with_reducible first | exact HB.out | apply below_alloc | apply pw_below_drewN | apply below_drew1 | refine below_set ?_ GE602.out) | exact HB.out)⟩⟩
  case round =>
    clear H'
    try clear p2
    obtain ⟨x3_1, x4_1, rfl, HA, HK1, HO_3, BK602, HB⟩ := hrel
    cases gk with
    | zero => exact absurd HA.out (by simp [gaiterlaw00_Bits.l0])
    | succ k1 =>
      have H := HA.out
      clear HA
      simp only [gaiterlaw00_Bits.l0] at H
      by_cases c3 : x4_1 < (l0.length : Int)
      · rw [if_pos c3] at H
        have c3b0 : decide (x4_1 < (l0.length : Int)) = true := decide_eq_true c3
        clear c3
        by_cases c4 : 0 ≤ x4_1
        · rw [if_pos c4] at H
          have c4b0 : decide (0 ≤ x4_1) = true := decide_eq_true c4
          clear c4
          by_cases c5 : x3_1.length < 140737488355328
          · rw [if_pos c5] at H
            have LMc5 := Aside0.mk c5
            clear c5
            obtain ⟨y604, hy604⟩ : ∃ y_ : List Int, y_ = (x3_1 ++ [Int.tmod (rd l0 x4_1) 2]) := ⟨_, rfl⟩
            replace H : (gaiterlaw00_Bits.l0 k1 l0 y604 (wrap64 (x4_1 + 1))) = some (r1, r2) := by first | (rw [hy604]; with_reducible exact H) | (have H2_ := (Option.bind_some _ _).symm.trans H; rw [hy604]; with_reducible exact H2_) | (have H2_ := (Option.bind_some _ _).symm.trans H; with_reducible exact H2_) | with_reducible exact H | (rw [hy604]; exact H) | exact H
            have Ny604 := Aside0.mk hy604
            clear hy604
            have H' := Aside0.mk H
            clear H
            have p603 : 0 ≤ (x4_1 : Int) := of_decide_eq_true (by first | (with_reducible assumption) | assumption)
            have q603 : x4_1 < (l0.length : Int) := of_decide_eq_true (by first | (with_reducible assumption) | assumption)
            obtain ⟨ad603, e603, hx603_0⟩ := Kd.at_int HR0.out x4_1 p603 q603
            cases e603
            replace hx603_0 := (HB.out.cell (World.block_lt_of_cell? w _ hx603_0)).trans hx603_0
            replace p603 := eq_true p603
            (try (have q603s := q603; simp only [List.length_drop, List.length_take] at q603s; replace q603s := eq_true q603s)); replace q603 := eq_true q603
            go_wp2_with (first | ((with_reducible refine gate_builtin (b := .append) (xs := #[.tmp 11, .tmp 17]) rfl ?_); at_builtin; refine Kd.R_append (Kd.int .u8) (w0 := w) w.heap.size rfl (.tmp 11) (.tmp 17) 27 5 (.int .u8 0) 1 rfl Try.underlying27 info5 rfl (by decide) (by omega) u3 x3_1 (Int.tmod (rd l0 x4_1) 2) [.int .u8 (Int.tmod (rd l0 x4_1) 2)] (fun _ => True) (fun _ => False) rfl rfl ?aP (fun _ hk => hk.elim) ?aF ?aO ?aB ?aS ?aL ?_; (case aP => exact rfl); (case aB => exact (by repeat (first | (with_reducible first | exact HB.out | apply below_alloc | apply pw_below_drewN | apply below_drew1 | refine below_set ?_ GE602.out) | exact HB.out))); (case aF => exact (fun _ _ => trivial)); (case aO => exact (by (with_reducible repeat (first | apply Kd.R_alloc | apply Kd.R_drewN | apply Kd.R_drew)); exact HO_3.out)); (case aS => exact (below_size (by repeat (first | (with_reducible first | exact HB.out | apply below_alloc | apply pw_below_drewN | apply below_drew1 | refine below_set ?_ GE602.out) | exact HB.out)))); (case aL => have := LMc5.out; omega); intro v605 w6 ho hb hg hat; rw [← Ny604.out] at ho; have n0_ := Aside0.mk (blk_grown (g := gb602) (o := .cells #[.slice none 0 0, .int .i64 0] 86 (0, 0)) (by (with_reducible repeat (first | refine blk_drewN ?_ _ | refine blk_drew ?_ | refine blk_alloc ?_ _)); exact BK602.out) hg (Kd.R_ne HO_3.out BK602.out (by decide))); have n1_ := Aside0.mk (hb); have n2_ := Aside0.mk (ho); clear BK602; clear HB; clear HO_3; have BK602 := n0_; have HB := n1_; have HO606 := n2_; clear n0_ n1_ n2_; clear ho hb hg hat))
            go_roundg k1
            case measure => have := HK1.out; omega
            case rel => exact ⟨(y604), (wrap64 (x4_1 + 1)), (by first | rfl | (simp; done) | (simp [*]; done)), H', ⟨by have := HK1.out; omega⟩, ⟨by (with_reducible repeat (first | apply Kd.R_alloc | apply Kd.R_drewN | apply Kd.R_drew)); exact HO606.out⟩, ⟨by (with_reducible repeat (first | refine blk_drewN ?_ _ | refine blk_drew ?_ | refine blk_alloc ?_ _)); exact BK602.out⟩, ⟨by repeat (first | (with_reducible first | exact HB.out | apply below_alloc | apply pw_below_drewN | apply below_drew1 | refine below_set ?_ GE602.out) | exact HB.out)⟩⟩
          · rw [if_neg c5] at H
            exact absurd H (by simp)
        · rw [if_neg c4] at H
          exact absurd H (by simp)
      · rw [if_neg c3] at H
        have c3b0 : decide (x4_1 < (l0.length : Int)) = false := decide_eq_false c3
        clear c3
        replace H := Option.bind_eq_some_iff.mp H
        obtain ⟨t607, A70, H⟩ := H
        replace H : (some (t607, (l0.length : Int))) = some (r1, r2) := H
        have A7 := Aside0.mk A70
        clear A70
        simp only [Option.some.injEq, Prod.mk.injEq] at H
        obtain ⟨rfl, rfl⟩ := H
        obtain ⟨Ao8, co8, eo8⟩ := Kd.R_slice HO_3.out
        subst eo8
        go_wp2_with (first | ((with_reducible refine gate_callee (f := 60) rfl ?_); refine goesL_ (some 20) rfl rfl Try.func60 (by kernel_rfl) rfl #[.slice Ao8 x3_1.length co8] rfl (by (try simp only [List.map_toArray, List.map_cons, List.map_nil]); first | done | rfl | (simp only [List.length_drop, List.length_take]; rfl)) ?_; (with_reducible refine (gaiterref01_Bytes.calls k1 _ _ x3_1 t607 _ ?side1 ?side2 A7.out).mono ?_); (case side1 => repeat (first | exact (Kd.R_reads' HO_3.out).2.2 | (with_reducible refine Kd.C_alloc ?_ _) | (with_reducible refine Kd.C_drewN ?_ _) | (with_reducible refine Kd.C_drew ?_))); (case side2 => exact (Kd.R_reads' HO_3.out).2.1); rintro e w9 ⟨v608, rfl, ho0, hb⟩; refine ⟨_, rfl, ?_⟩; have n0_ := Aside0.mk (Kd.R_elder' (by (with_reducible repeat (first | apply Kd.R_alloc | apply Kd.R_drewN | apply Kd.R_drew)); exact HO_3.out) (Kd.R_base ho0) hb); have n1_ := Aside0.mk (Kd.R_lower (Kd.R_new' ho0 (Kd.R_lt (by (with_reducible repeat (first | apply Kd.R_alloc | apply Kd.R_drewN | apply Kd.R_drew)); exact HO_3.out))) (below_size (by repeat (first | (with_reducible first | exact HB.out | apply below_alloc | apply pw_below_drewN | apply below_drew1 | refine below_set ?_ GE602.out) | exact HB.out)))); have n2_ := Aside0.mk (blk_below (g := gb602) (o := .cells #[.slice none 0 0, .int .i64 0] 86 (0, 0)) (by (with_reducible repeat (first | refine blk_drewN ?_ _ | refine blk_drew ?_ | refine blk_alloc ?_ _)); exact BK602.out) hb); have n3_ := Aside0.mk (below_step (by repeat (first | (with_reducible first | exact HB.out | apply below_alloc | apply pw_below_drewN | apply below_drew1 | refine below_set ?_ GE602.out) | exact HB.out)) hb); clear HO_3; clear BK602; clear HB; have HO_3 := n0_; have HO609 := n1_; have BK602 := n2_; have HB := n3_; clear n0_ n1_ n2_ n3_; (try clear hb); (try clear hb2); (try clear hk); (try clear hi); (try clear ho0); obtain ⟨Ao10, co10, eo10⟩ := Kd.R_slice HO609.out; subst eo10; have hcz11_0 : w9.cell? ⟨gb602, 0, none⟩ = some (.slice none 0 0) := (blk_cell BK602.out 0).trans rfl; have hcz11_1 : w9.cell? ⟨gb602, 1, none⟩ = some (.int .i64 0) := (blk_cell BK602.out 1).trans rfl; have hfz11_0 := blk_frozen BK602.out 0; have hfz11_1 := blk_frozen BK602.out 1))
        refine bodyPost_ret (results_cell_row rfl _ _ gb602 86 #[.slice Ao10 t607.length co10, .int .i64 (l0.length : Int)] (0, 0) _ rfl (by (with_reducible repeat (first | refine blk_drewN ?_ _ | refine blk_drew ?_ | refine blk_alloc ?_ _)); refine blk_put (cs := #[.slice Ao10 t607.length co10, .int .i64 0]) ?_ 1 _ rfl; (with_reducible repeat (first | refine blk_drewN ?_ _ | refine blk_drew ?_ | refine blk_alloc ?_ _)); refine blk_put (cs := #[.slice none 0 0, .int .i64 0]) ?_ 0 _ rfl; (with_reducible repeat (first | refine blk_drewN ?_ _ | refine blk_drew ?_ | refine blk_alloc ?_ _)); exact BK602.out) Try.underlying86 rfl (by kernel_rfl)) rfl ?_
        exact ⟨_, by first | rfl | (simp [errW_none, errW_some] <;> rfl) | (simp [*, errW_none, errW_some] <;> rfl), by (with_reducible repeat (first | apply Kd.R_alloc | apply Kd.R_drewN | apply Kd.R_drew)); exact Kd.R_mono (Kd.R_far (p := ⟨gb602, 1, none⟩) (Kd.R_far (p := ⟨gb602, 0, none⟩) (Kd.R_types HO609.out BK602.out (by decide)) (fun _ hk => hk.2) (.slice Ao10 t607.length co10)) (fun _ hk => hk.2) (.int .i64 (l0.length : Int))) (fun _ hk => trivial), by repeat (first | (with_reducible first | exact HB.out | apply below_alloc | apply pw_below_drewN | apply below_drew1 | refine below_set ?_ GE602.out) | exact HB.out)⟩

end Go.Proofs.Ytfpcbnkipdjlhaa.All
