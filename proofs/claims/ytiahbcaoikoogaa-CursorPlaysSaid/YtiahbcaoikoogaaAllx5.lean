-- written by a program of the session out of the translation; Lean checks it
import Derived.Test.YtiahbcaoikoogaaAllx0
namespace Go.Proofs.Ytiahbcaoikoogaa.All
open Go.RowKit Go.Proofs.YtiahbcaoikoogaaW.PrintWords Go.Proofs.YtiahbcaoikoogaaW.PrintLast Go.Proofs.YtiahbcaoikoogaaW.PrintMore
attribute [local go_sem] max2_int min2_int max_two min_two max_three min_three max_four min_four   -- for this text's walks alone
set_option linter.unusedVariables false
set_option linter.unusedSimpArgs false

/-! ### gaiterlaw00_Rising: function 8 -/
def gaiterlaw00_Rising.l0 : Nat → List (S75) → List (S75) → Int → Option ((List (S75)))
 | 0, _, _, _ => none
 | k + 1, x0, x3, x4 => if x4 < (x0.length : Int) then (if (x3.length : Int) = 0 then (if 0 ≤ x4 then (if x3.length < 8796093022208 then (gaiterlaw00_Rising.l0 k x0 (x3 ++ [(⟨(rd_T75 x0 x4).f0, (rd_T75 x0 x4).f1⟩ : S75)]) (wrap64 (x4 + 1))) else (none)) else (none)) else (if 0 ≤ x4 then (if 0 ≤ (wrap64 ((x3.length : Int) - 1)) then (if (wrap64 ((x3.length : Int) - 1)) < (x3.length : Int) then (if ((rd_T75 x0 x4).f0) > ((rd_T75 x3 (wrap64 ((x3.length : Int) - 1))).f0) then (if x3.length < 8796093022208 then (gaiterlaw00_Rising.l0 k x0 (x3 ++ [(⟨(rd_T75 x0 x4).f0, (rd_T75 x0 x4).f1⟩ : S75)]) (wrap64 (x4 + 1))) else (none)) else (gaiterlaw00_Rising.l0 k x0 x3 (wrap64 (x4 + 1)))) else (none)) else (none)) else (none))) else (some x3)
def gaiterlaw00_Rising.f (k : Nat) (l0 : List (S75)) : Option ((List (S75))) := gaiterlaw00_Rising.l0 k l0 ([] : List (S75)) 0
theorem gaiterlaw00_Rising.mono_l : ∀ k, (∀ y0 y1 y2, LeO (gaiterlaw00_Rising.l0 k y0 y1 y2) (gaiterlaw00_Rising.l0 (k + 1) y0 y1 y2))
 | 0 => fun _ _ _ r h => by simp [gaiterlaw00_Rising.l0] at h
 | k + 1 => by
  have ih0 := gaiterlaw00_Rising.mono_l k
  ·intro y0 y1 y2
   unfold gaiterlaw00_Rising.l0
   repeat' first
   | (with_reducible exact ih0 _ _ _)
   | (with_reducible exact LeO.refl _)
   | (with_reducible exact LeO.none _)
   | (with_reducible refine LeO.ite ?_ ?_)
   | (with_reducible refine LeO.bind ?_ (fun _ => ?_))
   | exact ih0 _ _ _
   | exact LeO.none _
   | refine LeO.ite ?_ ?_
   | refine LeO.bind ?_ (fun _ => ?_)
theorem gaiterlaw00_Rising.mono : ∀ a0 k, LeO (gaiterlaw00_Rising.f k a0) (gaiterlaw00_Rising.f (k + 1) a0) := by
 intro a0 k
 have ih0 := gaiterlaw00_Rising.mono_l k
 unfold gaiterlaw00_Rising.f
 repeat' first
   | (with_reducible exact ih0 _ _ _)
   | (with_reducible exact LeO.refl _)
   | (with_reducible exact LeO.none _)
   | (with_reducible refine LeO.ite ?_ ?_)
   | (with_reducible refine LeO.bind ?_ (fun _ => ?_))
   | exact ih0 _ _ _
   | exact LeO.none _
   | refine LeO.ite ?_ ?_
   | refine LeO.bind ?_ (fun _ => ?_)
set_option maxHeartbeats 8000000 in
set_option maxRecDepth 100000 in
theorem gaiterlaw00_Rising.calls (k : Nat) (A0 : Option Addr) (c0 : Nat) (l0 : List (S75)) (r : List (S75)) (w : World) (hr0 : Kd.C k75 w A0 l0.length l0) (hc0 : l0.length ≤ c0) (h : gaiterlaw00_Rising.f k l0 = some r) :
  Calls Try.prog 8 #[.slice A0 l0.length c0] w fun e w' => ∃ v0_ : Value, e = .returned (v0_) ∧ Kd.R k75 75 w' w.heap.size (fun _ => True) v0_ r ∧ Below w.heap.size w w' := by
 have hu75 := Try.underlying75
 have HR0 := Aside0.mk hr0
 have HC0 := Aside0.mk hc0
 clear hr0 hc0
 have HB := Aside0.mk (Below.refl w.heap.size w)
 have H : (gaiterlaw00_Rising.l0 k l0 ([] : List (S75)) 0) = some r := h
 clear h
 have H' := Aside0.mk H
 clear H
 go_enter Try.func8, Try.ntmps8
 go_wp2
 repeat ((first | go_quiet (fail) | go_region); try go_wp2)
 go_loopg [3, 4] k (fun kq v3 v4 w' => ∃ (x3_1 : List (S75)) (x4_1 : Int), v4 = .int .i64 x4_1 ∧ Aside0 (gaiterlaw00_Rising.l0 kq l0 x3_1 x4_1 = some r) ∧ Aside0 (kq ≤ k) ∧ Aside0 (Kd.R k75 75 w' w.heap.size (fun _ => True) v3 x3_1) ∧ Aside0 (Below w.heap.size w w'))
 case atStart => exact ⟨(([] : List (S75))), (0), (by first | rfl | (simp; done) | (simp [*]; done)), H', ⟨Nat.le_refl _⟩, ⟨by first | exact Kd.R_nil _ _ _ _ _ | exact Kd.N_nil _ _ _ _ _ | exact Kd.V_nil _ _ _ _ _ | exact Kd.Q_nil _ _ _ _ _ | exact Kd.S_nil _ _ _ _ _⟩, ⟨(kl HB)⟩⟩
 case round =>
  clear H'
  obtain ⟨x3_1, x4_1, rfl, HA, HK1, HO_3, HB⟩ := hrel
  cases gk with
  | zero => exact absurd HA.out (by simp [gaiterlaw00_Rising.l0])
  | succ k1 =>
   have H := HA.out
   clear HA
   simp only [gaiterlaw00_Rising.l0] at H
   by_cases c2 : x4_1 < (l0.length : Int)
   ·rw [if_pos c2] at H
    have c2b0 : decide (x4_1 < (l0.length : Int)) = true := decide_eq_true c2
    clear c2
    by_cases c3 : (x3_1.length : Int) = 0
    ·rw [if_pos c3] at H
     have c3b0 : ((x3_1.length : Int) == 0) = true := beq_iff_eq.mpr c3
     have c3b1 : ((x3_1.length : Int) != 0) = false := bne_eq_false_iff_eq.mpr c3
     clear c3
     by_cases c4 : 0 ≤ x4_1
     ·rw [if_pos c4] at H
      have c4b0 : decide (0 ≤ x4_1) = true := decide_eq_true c4
      clear c4
      by_cases c5 : x3_1.length < 8796093022208
      ·rw [if_pos c5] at H
       have LMc5 := Aside0.mk c5
       clear c5
       obtain ⟨y149, hy149⟩ : ∃ y_ : List (S75), y_ = (x3_1 ++ [(⟨(rd_T75 l0 x4_1).f0, (rd_T75 l0 x4_1).f1⟩ : S75)]) := ⟨_, rfl⟩
       replace H : (gaiterlaw00_Rising.l0 k1 l0 y149 (wrap64 (x4_1 + 1))) = some r := by first | (rw [hy149]; with_reducible exact H) | (have H2_ := (Option.bind_some _ _).symm.trans H; rw [hy149]; with_reducible exact H2_) | (have H2_ := (Option.bind_some _ _).symm.trans H; with_reducible exact H2_) | with_reducible exact H | (rw [hy149]; exact H) | exact H
       have Ny149 := Aside0.mk hy149
       clear hy149
       have H' := Aside0.mk H
       clear H
       obtain ⟨Ao6, co6, eo6⟩ := Kd.R_slice HO_3.out
       subst eo6
       have p148 : 0 ≤ (x4_1 : Int) := of_decide_eq_true (by first | (with_reducible assumption) | assumption)
       have q148 : x4_1 < (l0.length : Int) := of_decide_eq_true (by first | (with_reducible assumption) | assumption)
       obtain ⟨ad148, e148, hx148_0, hx148_1⟩ := at_T75 HR0.out x4_1 p148 q148
       cases e148
       replace hx148_0 := (HB.out.cell (World.block_lt_of_cell? w _ hx148_0)).trans hx148_0
       replace hx148_1 := (HB.out.cell (World.block_lt_of_cell? w _ hx148_1)).trans hx148_1
       replace p148 := eq_true p148
       (try (have q148s := q148; simp only [List.length_drop, List.length_take] at q148s; replace q148s := eq_true q148s)); replace q148 := eq_true q148
       go_wp2_with (first | ((with_reducible refine gate_builtin (b := .append) (xs := #[.tmp 16, .tmp 21]) rfl ?_); at_builtin; refine Kd.R_append k75 (w0 := w) w.heap.size rfl (.tmp 16) (.tmp 21) 22 75 (.agg #[(.int .i64 0), (.int .u64 0)]) 16 rfl Try.underlying22 info75 rfl (by decide) (by omega) (.slice Ao6 x3_1.length co6) x3_1 (⟨(rd_T75 l0 x4_1).f0, (rd_T75 l0 x4_1).f1⟩ : S75) [.int .i64 ((rd_T75 l0 x4_1).f0), .int .u64 ((rd_T75 l0 x4_1).f1)] (fun _ => True) (fun _ => False) rfl rfl ?aP (fun _ hk => hk.elim) ?aF ?aO ?aB ?aS ?aL ?_; (case aP => exact k75_mkM _ _ _ (⟨(rd_T75 l0 x4_1).f0, (rd_T75 l0 x4_1).f1⟩ : S75)); (case aB => exact (kl HB)); (case aF => exact (fun _ _ => trivial)); (case aO => exact (kr HO_3)); (case aS => exact (below_size (kl HB))); (case aL => have := LMc5.out; omega); intro v150 w7 ho hb hg hat; rw [← Ny149.out] at ho; have n0_ := Aside0.mk (hb); have n1_ := Aside0.mk (ho); clear HB; clear HO_3; have HB := n0_; have HO151 := n1_; clear n0_ n1_; clear ho hb hg hat))
       repeat (go_quiet (first | ((with_reducible refine gate_builtin (b := .append) (xs := #[.tmp 16, .tmp 21]) rfl ?_); at_builtin; refine Kd.R_append k75 (w0 := w) w.heap.size rfl (.tmp 16) (.tmp 21) 22 75 (.agg #[(.int .i64 0), (.int .u64 0)]) 16 rfl Try.underlying22 info75 rfl (by decide) (by omega) (.slice Ao6 x3_1.length co6) x3_1 (⟨(rd_T75 l0 x4_1).f0, (rd_T75 l0 x4_1).f1⟩ : S75) [.int .i64 ((rd_T75 l0 x4_1).f0), .int .u64 ((rd_T75 l0 x4_1).f1)] (fun _ => True) (fun _ => False) rfl rfl ?aP (fun _ hk => hk.elim) ?aF ?aO ?aB ?aS ?aL ?_; (case aP => exact k75_mkM _ _ _ (⟨(rd_T75 l0 x4_1).f0, (rd_T75 l0 x4_1).f1⟩ : S75)); (case aB => exact (kl HB)); (case aF => exact (fun _ _ => trivial)); (case aO => exact (kr HO_3)); (case aS => exact (below_size (kl HB))); (case aL => have := LMc5.out; omega); intro v150 w7 ho hb hg hat; rw [← Ny149.out] at ho; have n0_ := Aside0.mk (hb); have n1_ := Aside0.mk (ho); clear HB; clear HO_3; have HB := n0_; have HO151 := n1_; clear n0_ n1_; clear ho hb hg hat)); try go_wp2_with (first | ((with_reducible refine gate_builtin (b := .append) (xs := #[.tmp 16, .tmp 21]) rfl ?_); at_builtin; refine Kd.R_append k75 (w0 := w) w.heap.size rfl (.tmp 16) (.tmp 21) 22 75 (.agg #[(.int .i64 0), (.int .u64 0)]) 16 rfl Try.underlying22 info75 rfl (by decide) (by omega) (.slice Ao6 x3_1.length co6) x3_1 (⟨(rd_T75 l0 x4_1).f0, (rd_T75 l0 x4_1).f1⟩ : S75) [.int .i64 ((rd_T75 l0 x4_1).f0), .int .u64 ((rd_T75 l0 x4_1).f1)] (fun _ => True) (fun _ => False) rfl rfl ?aP (fun _ hk => hk.elim) ?aF ?aO ?aB ?aS ?aL ?_; (case aP => exact k75_mkM _ _ _ (⟨(rd_T75 l0 x4_1).f0, (rd_T75 l0 x4_1).f1⟩ : S75)); (case aB => exact (kl HB)); (case aF => exact (fun _ _ => trivial)); (case aO => exact (kr HO_3)); (case aS => exact (below_size (kl HB))); (case aL => have := LMc5.out; omega); intro v150 w7 ho hb hg hat; rw [← Ny149.out] at ho; have n0_ := Aside0.mk (hb); have n1_ := Aside0.mk (ho); clear HB; clear HO_3; have HB := n0_; have HO151 := n1_; clear n0_ n1_; clear ho hb hg hat)))
       go_roundg k1
       case measure => have := HK1.out; omega
       case rel => exact ⟨(y149), (wrap64 (x4_1 + 1)), (by first | rfl | (simp; done) | (simp [*]; done)), H', ⟨by have := HK1.out; omega⟩, ⟨kr HO151⟩, ⟨(kl HB)⟩⟩
      ·rw [if_neg c5] at H
       exact absurd H (by simp)
     ·rw [if_neg c4] at H
      exact absurd H (by simp)
    ·rw [if_neg c3] at H
     have c3b0 : ((x3_1.length : Int) == 0) = false := beq_eq_false_iff_ne.mpr c3
     have c3b1 : ((x3_1.length : Int) != 0) = true := bne_iff_ne.mpr c3
     have c3b2 : ¬ (x3_1 = []) := fun h_ => c3 (by rw [h_]; rfl)
     by_cases c8 : 0 ≤ x4_1
     ·rw [if_pos c8] at H
      have c8b0 : decide (0 ≤ x4_1) = true := decide_eq_true c8
      clear c8
      obtain ⟨ji9, hji9⟩ : ∃ j_ : Int, (wrap64 ((x3_1.length : Int) - 1)) = j_ := ⟨_, rfl⟩
      replace H : (if 0 ≤ (ji9) then (if (ji9) < (x3_1.length : Int) then (if ((rd_T75 l0 x4_1).f0) > ((rd_T75 x3_1 (ji9)).f0) then (if x3_1.length < 8796093022208 then (gaiterlaw00_Rising.l0 k1 l0 (x3_1 ++ [(⟨(rd_T75 l0 x4_1).f0, (rd_T75 l0 x4_1).f1⟩ : S75)]) (wrap64 (x4_1 + 1))) else (none)) else (gaiterlaw00_Rising.l0 k1 l0 x3_1 (wrap64 (x4_1 + 1)))) else (none)) else (none)) = some r := by first | (rw [hji9] at H; exact H) | (simp only [hji9] at H ⊢; exact H)
      have hji9w : (IntKind.i64.wrap ((x3_1.length : Int) - 1)) = ji9 := (i64_w _).trans hji9
      by_cases c10 : 0 ≤ (ji9)
      ·rw [if_pos c10] at H
       have c10b0 : decide (0 ≤ (ji9)) = true := decide_eq_true c10
       clear c10
       by_cases c11 : (ji9) < (x3_1.length : Int)
       ·rw [if_pos c11] at H
        have c11b0 : decide ((ji9) < (x3_1.length : Int)) = true := decide_eq_true c11
        clear c11
        by_cases c12 : ((rd_T75 l0 x4_1).f0) > ((rd_T75 x3_1 (ji9)).f0)
        ·rw [if_pos c12] at H
         have c12b0 : decide (((rd_T75 x3_1 (ji9)).f0) < ((rd_T75 l0 x4_1).f0)) = true := decide_eq_true c12
         clear c12
         by_cases c13 : x3_1.length < 8796093022208
         ·rw [if_pos c13] at H
          have LMc13 := Aside0.mk c13
          clear c13
          obtain ⟨y155, hy155⟩ : ∃ y_ : List (S75), y_ = (x3_1 ++ [(⟨(rd_T75 l0 x4_1).f0, (rd_T75 l0 x4_1).f1⟩ : S75)]) := ⟨_, rfl⟩
          replace H : (gaiterlaw00_Rising.l0 k1 l0 y155 (wrap64 (x4_1 + 1))) = some r := by first | (rw [hy155]; with_reducible exact H) | (have H2_ := (Option.bind_some _ _).symm.trans H; rw [hy155]; with_reducible exact H2_) | (have H2_ := (Option.bind_some _ _).symm.trans H; with_reducible exact H2_) | with_reducible exact H | (rw [hy155]; exact H) | exact H
          have Ny155 := Aside0.mk hy155
          clear hy155
          have H' := Aside0.mk H
          clear H
          obtain ⟨Ao14, co14, eo14⟩ := Kd.R_slice HO_3.out
          subst eo14
          have p152 : 0 ≤ (x4_1 : Int) := of_decide_eq_true (by first | (with_reducible assumption) | assumption)
          have q152 : x4_1 < (l0.length : Int) := of_decide_eq_true (by first | (with_reducible assumption) | assumption)
          obtain ⟨ad152, e152, hx152_0, hx152_1⟩ := at_T75 HR0.out x4_1 p152 q152
          cases e152
          replace hx152_0 := (HB.out.cell (World.block_lt_of_cell? w _ hx152_0)).trans hx152_0
          replace hx152_1 := (HB.out.cell (World.block_lt_of_cell? w _ hx152_1)).trans hx152_1
          replace p152 := eq_true p152
          (try (have q152s := q152; simp only [List.length_drop, List.length_take] at q152s; replace q152s := eq_true q152s)); replace q152 := eq_true q152
          have p153 : 0 ≤ ((ji9) : Int) := of_decide_eq_true (by first | (with_reducible assumption) | assumption)
          have q153 : (ji9) < (x3_1.length : Int) := of_decide_eq_true (by first | (with_reducible assumption) | assumption)
          obtain ⟨ad153, e153, hx153_0, hx153_1⟩ := at_T75 (Kd.R_reads' HO_3.out).2.2 (ji9) p153 q153
          cases e153
          replace p153 := eq_true p153
          (try (have q153s := q153; simp only [List.length_drop, List.length_take] at q153s; replace q153s := eq_true q153s)); replace q153 := eq_true q153
          have p154 : 0 ≤ (x4_1 : Int) := of_decide_eq_true (by first | (with_reducible assumption) | assumption)
          have q154 : x4_1 < (l0.length : Int) := of_decide_eq_true (by first | (with_reducible assumption) | assumption)
          obtain ⟨ad154, e154, hx154_0, hx154_1⟩ := at_T75 HR0.out x4_1 p154 q154
          obtain rfl : ad152 = ad154 := (by injection e154)
          replace hx154_0 := (HB.out.cell (World.block_lt_of_cell? w _ hx154_0)).trans hx154_0
          replace hx154_1 := (HB.out.cell (World.block_lt_of_cell? w _ hx154_1)).trans hx154_1
          replace p154 := eq_true p154
          (try (have q154s := q154; simp only [List.length_drop, List.length_take] at q154s; replace q154s := eq_true q154s)); replace q154 := eq_true q154
          go_wp2_with (first | ((with_reducible refine gate_builtin (b := .append) (xs := #[.tmp 35, .tmp 40]) rfl ?_); at_builtin; refine Kd.R_append k75 (w0 := w) w.heap.size rfl (.tmp 35) (.tmp 40) 22 75 (.agg #[(.int .i64 0), (.int .u64 0)]) 16 rfl Try.underlying22 info75 rfl (by decide) (by omega) (.slice (some ad153) x3_1.length co14) x3_1 (⟨(rd_T75 l0 x4_1).f0, (rd_T75 l0 x4_1).f1⟩ : S75) [.int .i64 ((rd_T75 l0 x4_1).f0), .int .u64 ((rd_T75 l0 x4_1).f1)] (fun _ => True) (fun _ => False) rfl rfl ?aP (fun _ hk => hk.elim) ?aF ?aO ?aB ?aS ?aL ?_; (case aP => exact k75_mkM _ _ _ (⟨(rd_T75 l0 x4_1).f0, (rd_T75 l0 x4_1).f1⟩ : S75)); (case aB => exact (kl HB)); (case aF => exact (fun _ _ => trivial)); (case aO => exact (kr HO_3)); (case aS => exact (below_size (kl HB))); (case aL => have := LMc13.out; omega); intro v156 w15 ho hb hg hat; rw [← Ny155.out] at ho; have n0_ := Aside0.mk (hb); have n1_ := Aside0.mk (ho); clear HB; clear HO_3; have HB := n0_; have HO157 := n1_; clear n0_ n1_; clear ho hb hg hat))
          repeat (go_quiet (first | ((with_reducible refine gate_builtin (b := .append) (xs := #[.tmp 35, .tmp 40]) rfl ?_); at_builtin; refine Kd.R_append k75 (w0 := w) w.heap.size rfl (.tmp 35) (.tmp 40) 22 75 (.agg #[(.int .i64 0), (.int .u64 0)]) 16 rfl Try.underlying22 info75 rfl (by decide) (by omega) (.slice (some ad153) x3_1.length co14) x3_1 (⟨(rd_T75 l0 x4_1).f0, (rd_T75 l0 x4_1).f1⟩ : S75) [.int .i64 ((rd_T75 l0 x4_1).f0), .int .u64 ((rd_T75 l0 x4_1).f1)] (fun _ => True) (fun _ => False) rfl rfl ?aP (fun _ hk => hk.elim) ?aF ?aO ?aB ?aS ?aL ?_; (case aP => exact k75_mkM _ _ _ (⟨(rd_T75 l0 x4_1).f0, (rd_T75 l0 x4_1).f1⟩ : S75)); (case aB => exact (kl HB)); (case aF => exact (fun _ _ => trivial)); (case aO => exact (kr HO_3)); (case aS => exact (below_size (kl HB))); (case aL => have := LMc13.out; omega); intro v156 w15 ho hb hg hat; rw [← Ny155.out] at ho; have n0_ := Aside0.mk (hb); have n1_ := Aside0.mk (ho); clear HB; clear HO_3; have HB := n0_; have HO157 := n1_; clear n0_ n1_; clear ho hb hg hat)); try go_wp2_with (first | ((with_reducible refine gate_builtin (b := .append) (xs := #[.tmp 35, .tmp 40]) rfl ?_); at_builtin; refine Kd.R_append k75 (w0 := w) w.heap.size rfl (.tmp 35) (.tmp 40) 22 75 (.agg #[(.int .i64 0), (.int .u64 0)]) 16 rfl Try.underlying22 info75 rfl (by decide) (by omega) (.slice (some ad153) x3_1.length co14) x3_1 (⟨(rd_T75 l0 x4_1).f0, (rd_T75 l0 x4_1).f1⟩ : S75) [.int .i64 ((rd_T75 l0 x4_1).f0), .int .u64 ((rd_T75 l0 x4_1).f1)] (fun _ => True) (fun _ => False) rfl rfl ?aP (fun _ hk => hk.elim) ?aF ?aO ?aB ?aS ?aL ?_; (case aP => exact k75_mkM _ _ _ (⟨(rd_T75 l0 x4_1).f0, (rd_T75 l0 x4_1).f1⟩ : S75)); (case aB => exact (kl HB)); (case aF => exact (fun _ _ => trivial)); (case aO => exact (kr HO_3)); (case aS => exact (below_size (kl HB))); (case aL => have := LMc13.out; omega); intro v156 w15 ho hb hg hat; rw [← Ny155.out] at ho; have n0_ := Aside0.mk (hb); have n1_ := Aside0.mk (ho); clear HB; clear HO_3; have HB := n0_; have HO157 := n1_; clear n0_ n1_; clear ho hb hg hat)))
          go_roundg k1
          case measure => have := HK1.out; omega
          case rel => exact ⟨(y155), (wrap64 (x4_1 + 1)), (by first | rfl | (simp; done) | (simp [*]; done)), H', ⟨by have := HK1.out; omega⟩, ⟨kr HO157⟩, ⟨(kl HB)⟩⟩
         ·rw [if_neg c13] at H
          exact absurd H (by simp)
        ·rw [if_neg c12] at H
         have c12b0 : decide (((rd_T75 x3_1 (ji9)).f0) < ((rd_T75 l0 x4_1).f0)) = false := decide_eq_false c12
         clear c12
         have H' := Aside0.mk H
         clear H
         obtain ⟨Ao16, co16, eo16⟩ := Kd.R_slice HO_3.out
         subst eo16
         have p152 : 0 ≤ (x4_1 : Int) := of_decide_eq_true (by first | (with_reducible assumption) | assumption)
         have q152 : x4_1 < (l0.length : Int) := of_decide_eq_true (by first | (with_reducible assumption) | assumption)
         obtain ⟨ad152, e152, hx152_0, hx152_1⟩ := at_T75 HR0.out x4_1 p152 q152
         cases e152
         replace hx152_0 := (HB.out.cell (World.block_lt_of_cell? w _ hx152_0)).trans hx152_0
         replace hx152_1 := (HB.out.cell (World.block_lt_of_cell? w _ hx152_1)).trans hx152_1
         replace p152 := eq_true p152
         (try (have q152s := q152; simp only [List.length_drop, List.length_take] at q152s; replace q152s := eq_true q152s)); replace q152 := eq_true q152
         have p153 : 0 ≤ ((ji9) : Int) := of_decide_eq_true (by first | (with_reducible assumption) | assumption)
         have q153 : (ji9) < (x3_1.length : Int) := of_decide_eq_true (by first | (with_reducible assumption) | assumption)
         obtain ⟨ad153, e153, hx153_0, hx153_1⟩ := at_T75 (Kd.R_reads' HO_3.out).2.2 (ji9) p153 q153
         cases e153
         replace p153 := eq_true p153
         (try (have q153s := q153; simp only [List.length_drop, List.length_take] at q153s; replace q153s := eq_true q153s)); replace q153 := eq_true q153
         go_wp2
         repeat ((first | go_quiet (fail) | go_region); try go_wp2)
         go_roundg k1
         case measure => have := HK1.out; omega
         case rel => exact ⟨(x3_1), (wrap64 (x4_1 + 1)), (by first | rfl | (simp; done) | (simp [*]; done)), H', ⟨by have := HK1.out; omega⟩, ⟨kr HO_3⟩, ⟨(kl HB)⟩⟩
       ·rw [if_neg c11] at H
        exact absurd H (by simp)
      ·rw [if_neg c10] at H
       exact absurd H (by simp)
     ·rw [if_neg c8] at H
      exact absurd H (by simp)
   ·rw [if_neg c2] at H
    have c2b0 : decide (x4_1 < (l0.length : Int)) = false := decide_eq_false c2
    clear c2
    obtain rfl := Option.some.inj H
    go_wp2
    repeat ((first | go_quiet (fail) | go_region); try go_wp2)
    go_ret
    exact ⟨_, by first | rfl | (simp [errW_none, errW_some] <;> rfl) | (simp [*, errW_none, errW_some] <;> rfl), by (with_reducible repeat (first | apply Kd.R_alloc | apply Kd.R_drewN | apply Kd.R_drew)); exact HO_3.out, (kl HB)⟩

end Go.Proofs.Ytiahbcaoikoogaa.All
