-- copied by a program of the session
import Derived.Test.YtiahbcaoikoogabDoorKnAllx0
namespace Go.Proofs.YtiahbcaoikoogabDoor.All
open Go.RowKit Go.Proofs.YtiahbcaoikoogabDoorW.PrintWords Go.Proofs.YtiahbcaoikoogabDoorW.PrintLast Go.Proofs.YtiahbcaoikoogabDoorW.PrintMore
attribute [local go_sem] A2m A2n A25 A26 A2b A2c A2o A2p
set_option linter.unusedVariables false
set_option linter.unusedSimpArgs false
def A1g.l0 : Nat → List (S48) → List (S48) → Int → Option ((List (S48)))
 | 0, _, _, _ => none
 | k + 1, x0, x3, x4 => if x4 < (x0.length : Int) then (if (x3.length : Int) = 0 then (if 0 ≤ x4 then (if x3.length < 8796093022208 then (A1g.l0 k x0 (x3 ++ [(⟨(A1f x0 x4).f0, (A1f x0 x4).f1⟩ : S48)]) (wrap64 (x4 + 1))) else (none)) else (none)) else (if 0 ≤ x4 then (if 0 ≤ (wrap64 ((x3.length : Int) - 1)) then (if (wrap64 ((x3.length : Int) - 1)) < (x3.length : Int) then (if ((A1f x0 x4).f0) > ((A1f x3 (wrap64 ((x3.length : Int) - 1))).f0) then (if x3.length < 8796093022208 then (A1g.l0 k x0 (x3 ++ [(⟨(A1f x0 x4).f0, (A1f x0 x4).f1⟩ : S48)]) (wrap64 (x4 + 1))) else (none)) else (A1g.l0 k x0 x3 (wrap64 (x4 + 1)))) else (none)) else (none)) else (none))) else (some x3)
def A1g.f (k : Nat) (l0 : List (S48)) : Option ((List (S48))) := A1g.l0 k l0 ([] : List (S48)) 0
set_option maxHeartbeats 8000000 in
set_option maxRecDepth 100000 in
theorem A1g.calls (k : Nat) (A0 : Option Addr) (c0 : Nat) (l0 : List (S48)) (r : List (S48)) (w : World) (hr0 : Kd.C k48 w A0 l0.length l0) (hc0 : l0.length ≤ c0) (h : A1g.f k l0 = some r) :
  Calls Tryd.prog 8 #[.slice A0 l0.length c0] w fun e w' => ∃ bg : Value, e = .returned (bg) ∧ Kd.R k48 48 w' w.heap.size (fun _ => True) bg r ∧ Below w.heap.size w w' := by
 have hu48 := Tryd.underlying48; have aT := ak hr0; have bu := ak hc0; clear hr0 hc0; have HB := ak (Below.refl w.heap.size w); have H : (A1g.l0 k l0 ([] : List (S48)) 0) = some r := h; clear h; have H' := ak H; clear H
 go_enter Tryd.func8, Tryd.ntmps8
 go_wp2
 repeat ((first | go_quiet (fail) | go_region); try go_wp2)
 go_loopg [3, 4] k (fun kq v3 v4 w' => ∃ (aa : List (S48)) (x4_1 : Int), v4 = .int .i64 x4_1 ∧ A0e (A1g.l0 kq l0 aa x4_1 = some r) ∧ A0e (kq ≤ k) ∧ A0e (Kd.R k48 48 w' w.heap.size (fun _ => True) v3 aa) ∧ A0e (Below w.heap.size w w'))
 case atStart => exact ⟨(([] : List (S48))), (0), kE, H', ⟨Nat.le_refl _⟩, ⟨by first | exact Kd.R_nil _ _ _ _ _ | exact Kd.N_nil _ _ _ _ _ | exact Kd.V_nil _ _ _ _ _ | exact Kd.Q_nil _ _ _ _ _ | exact Kd.S_nil _ _ _ _ _⟩, ⟨(kl HB)⟩⟩
 case round =>
  clear H'; obtain ⟨aa, x4_1, rfl, HA, aH, HO_3, HB⟩ := hrel
  cases gk with
  | zero => exact absurd HA.out (by simp [A1g.l0])
  | succ k1 =>
   have H := HA.out; clear HA; simp only [A1g.l0] at H
   by_cases c2 : x4_1 < (l0.length : Int)
   ·rw [if_pos c2] at H; have aW := decide_eq_true c2; clear c2
    by_cases c3 : (aa.length : Int) = 0
    ·rw [if_pos c3] at H; obtain ⟨aX, aY⟩ := kqT c3; clear c3
     by_cases c4 : 0 ≤ x4_1
     ·rw [if_pos c4] at H; have bn := decide_eq_true c4; clear c4
      by_cases c5 : aa.length < 8796093022208
      ·rw [if_pos c5] at H; have LMc5 := ak c5; clear c5; obtain ⟨aJ, an⟩ : ∃ y_ : List (S48), y_ = (aa ++ [(⟨(A1f l0 x4_1).f0, (A1f l0 x4_1).f1⟩ : S48)]) := ⟨_, rfl⟩
       replace H : (A1g.l0 k1 l0 aJ (wrap64 (x4_1 + 1))) = some r := by first | (rw [an]; with_reducible exact H) | (have H2_ := (Option.bind_some _ _).symm.trans H; rw [an]; with_reducible exact H2_) | (have H2_ := (Option.bind_some _ _).symm.trans H; with_reducible exact H2_) | with_reducible exact H | (rw [an]; exact H) | exact H
       have ax := ak an; clear an; have H' := ak H; clear H; obtain ⟨aZ, ba, bo⟩ := Kd.A1t HO_3.out; subst bo; have a9 : 0 ≤ (x4_1 : Int) := kD; have a4 : x4_1 < (l0.length : Int) := kD; obtain ⟨bh, bb, ag, ah⟩ := at_T48 aT.out x4_1 a9 a4
       cases bb
       replace ag := (HB.out.cell (World.block_lt_of_cell? w _ ag)).trans ag; replace ah := (HB.out.cell (World.block_lt_of_cell? w _ ah)).trans ah; replace a9 := eq_true a9
       (try (have ay := a4; simp only [List.length_drop, List.length_take] at ay; replace ay := eq_true ay)); replace a4 := eq_true a4
       go_wp2_with (first | ((with_reducible refine A22 (b := .append) (xs := #[.tmp 16, .tmp 21]) rfl ?_); at_builtin; refine Kd.R_append k48 (w0 := w) w.heap.size rfl (.tmp 16) (.tmp 21) 22 48 (.agg #[(.int .i64 0), (.int .u64 0)]) 16 rfl Tryd.underlying22 info48 rfl (by decide) (by omega) (.slice aZ aa.length ba) aa (⟨(A1f l0 x4_1).f0, (A1f l0 x4_1).f1⟩ : S48) [.int .i64 ((A1f l0 x4_1).f0), .int .u64 ((A1f l0 x4_1).f1)] (fun _ => True) (fun _ => False) rfl rfl ?aP (fun _ hk => hk.elim) ?aF ?aO ?aB ?aS ?aL ?_; (case aP => exact k48_mkM _ _ _ (⟨(A1f l0 x4_1).f0, (A1f l0 x4_1).f1⟩ : S48)); (case aB => exact (kl HB)); (case aF => exact (fun _ _ => trivial)); (case aO => exact (kr HO_3)); (case aS => exact (A0y (kl HB))); (case aL => have := LMc5.out; omega); intro aK w7 ho hb hg hat; rw [← ax.out] at ho; have ao := ak (hb); have ap := ak (ho); clear HB; clear HO_3; have HB := ao; have az := ap; clear ao ap; clear ho hb hg hat))
       repeat (go_quiet (first | ((with_reducible refine A22 (b := .append) (xs := #[.tmp 16, .tmp 21]) rfl ?_); at_builtin; refine Kd.R_append k48 (w0 := w) w.heap.size rfl (.tmp 16) (.tmp 21) 22 48 (.agg #[(.int .i64 0), (.int .u64 0)]) 16 rfl Tryd.underlying22 info48 rfl (by decide) (by omega) (.slice aZ aa.length ba) aa (⟨(A1f l0 x4_1).f0, (A1f l0 x4_1).f1⟩ : S48) [.int .i64 ((A1f l0 x4_1).f0), .int .u64 ((A1f l0 x4_1).f1)] (fun _ => True) (fun _ => False) rfl rfl ?aP (fun _ hk => hk.elim) ?aF ?aO ?aB ?aS ?aL ?_; (case aP => exact k48_mkM _ _ _ (⟨(A1f l0 x4_1).f0, (A1f l0 x4_1).f1⟩ : S48)); (case aB => exact (kl HB)); (case aF => exact (fun _ _ => trivial)); (case aO => exact (kr HO_3)); (case aS => exact (A0y (kl HB))); (case aL => have := LMc5.out; omega); intro aK w7 ho hb hg hat; rw [← ax.out] at ho; have ao := ak (hb); have ap := ak (ho); clear HB; clear HO_3; have HB := ao; have az := ap; clear ao ap; clear ho hb hg hat)); try go_wp2_with (first | ((with_reducible refine A22 (b := .append) (xs := #[.tmp 16, .tmp 21]) rfl ?_); at_builtin; refine Kd.R_append k48 (w0 := w) w.heap.size rfl (.tmp 16) (.tmp 21) 22 48 (.agg #[(.int .i64 0), (.int .u64 0)]) 16 rfl Tryd.underlying22 info48 rfl (by decide) (by omega) (.slice aZ aa.length ba) aa (⟨(A1f l0 x4_1).f0, (A1f l0 x4_1).f1⟩ : S48) [.int .i64 ((A1f l0 x4_1).f0), .int .u64 ((A1f l0 x4_1).f1)] (fun _ => True) (fun _ => False) rfl rfl ?aP (fun _ hk => hk.elim) ?aF ?aO ?aB ?aS ?aL ?_; (case aP => exact k48_mkM _ _ _ (⟨(A1f l0 x4_1).f0, (A1f l0 x4_1).f1⟩ : S48)); (case aB => exact (kl HB)); (case aF => exact (fun _ _ => trivial)); (case aO => exact (kr HO_3)); (case aS => exact (A0y (kl HB))); (case aL => have := LMc5.out; omega); intro aK w7 ho hb hg hat; rw [← ax.out] at ho; have ao := ak (hb); have ap := ak (ho); clear HB; clear HO_3; have HB := ao; have az := ap; clear ao ap; clear ho hb hg hat)))
       go_roundg k1
       case measure => have := aH.out; omega
       case rel => exact ⟨(aJ), (wrap64 (x4_1 + 1)), kE, H', ⟨by have := aH.out; omega⟩, ⟨kr az⟩, ⟨(kl HB)⟩⟩
      ·rw [if_neg c5] at H
       exact absurd H (by simp)
     ·rw [if_neg c4] at H
      exact absurd H (by simp)
    ·rw [if_neg c3] at H; obtain ⟨aX, aY⟩ := kqF c3
     have bp : ¬ (aa = []) := fun h_ => c3 (by rw [h_]; rfl)
     by_cases c8 : 0 ≤ x4_1
     ·rw [if_pos c8] at H; have bq := decide_eq_true c8; clear c8; obtain ⟨ar, aA⟩ : ∃ j_ : Int, (wrap64 ((aa.length : Int) - 1)) = j_ := ⟨_, rfl⟩
      replace H : (if 0 ≤ (ar) then (if (ar) < (aa.length : Int) then (if ((A1f l0 x4_1).f0) > ((A1f aa (ar)).f0) then (if aa.length < 8796093022208 then (A1g.l0 k1 l0 (aa ++ [(⟨(A1f l0 x4_1).f0, (A1f l0 x4_1).f1⟩ : S48)]) (wrap64 (x4_1 + 1))) else (none)) else (A1g.l0 k1 l0 aa (wrap64 (x4_1 + 1)))) else (none)) else (none)) = some r := by first | (rw [aA] at H; exact H) | (simp only [aA] at H ⊢; exact H)
      have bi : (IntKind.i64.wrap ((aa.length : Int) - 1)) = ar := (A2w _).trans aA
      by_cases c10 : 0 ≤ (ar)
      ·rw [if_pos c10] at H; have bj := decide_eq_true c10; clear c10
       by_cases aU : (ar) < (aa.length : Int)
       ·rw [if_pos aU] at H; have bk := decide_eq_true aU; clear aU
        by_cases aI : ((A1f l0 x4_1).f0) > ((A1f aa (ar)).f0)
        ·rw [if_pos aI] at H; have aM : decide (((A1f aa (ar)).f0) < ((A1f l0 x4_1).f0)) = true := decide_eq_true aI; clear aI
         by_cases aV : aa.length < 8796093022208
         ·rw [if_pos aV] at H; have LMc13 := ak aV; clear aV; obtain ⟨aN, aq⟩ : ∃ y_ : List (S48), y_ = (aa ++ [(⟨(A1f l0 x4_1).f0, (A1f l0 x4_1).f1⟩ : S48)]) := ⟨_, rfl⟩
          replace H : (A1g.l0 k1 l0 aN (wrap64 (x4_1 + 1))) = some r := by first | (rw [aq]; with_reducible exact H) | (have H2_ := (Option.bind_some _ _).symm.trans H; rw [aq]; with_reducible exact H2_) | (have H2_ := (Option.bind_some _ _).symm.trans H; with_reducible exact H2_) | with_reducible exact H | (rw [aq]; exact H) | exact H
          have a1 := ak aq; clear aq; have H' := ak H; clear H; obtain ⟨br, aC, bc⟩ := Kd.A1t HO_3.out; subst bc; have au : 0 ≤ (x4_1 : Int) := kD; have ai : x4_1 < (l0.length : Int) := kD; obtain ⟨a8, aD, ac, ad⟩ := at_T48 aT.out x4_1 au ai
          cases aD
          replace ac := (HB.out.cell (World.block_lt_of_cell? w _ ac)).trans ac; replace ad := (HB.out.cell (World.block_lt_of_cell? w _ ad)).trans ad; replace au := eq_true au
          (try (have ae := ai; simp only [List.length_drop, List.length_take] at ae; replace ae := eq_true ae)); replace ai := eq_true ai
          have av : 0 ≤ ((ar) : Int) := kD; have aj : (ar) < (aa.length : Int) := kD; obtain ⟨aw, aE, a5, a6⟩ := at_T48 (Kd.A07 HO_3.out).2.2 (ar) av aj
          cases aE
          replace av := eq_true av
          (try (have af := aj; simp only [List.length_drop, List.length_take] at af; replace af := eq_true af)); replace aj := eq_true aj
          have aG : 0 ≤ (x4_1 : Int) := kD; have a7 : x4_1 < (l0.length : Int) := kD; obtain ⟨aQ, be, al, am⟩ := at_T48 aT.out x4_1 aG a7; obtain rfl : a8 = aQ := (by injection be); replace al := (HB.out.cell (World.block_lt_of_cell? w _ al)).trans al; replace am := (HB.out.cell (World.block_lt_of_cell? w _ am)).trans am; replace aG := eq_true aG
          (try (have a2 := a7; simp only [List.length_drop, List.length_take] at a2; replace a2 := eq_true a2)); replace a7 := eq_true a7
          go_wp2_with (first | ((with_reducible refine A22 (b := .append) (xs := #[.tmp 35, .tmp 40]) rfl ?_); at_builtin; refine Kd.R_append k48 (w0 := w) w.heap.size rfl (.tmp 35) (.tmp 40) 22 48 (.agg #[(.int .i64 0), (.int .u64 0)]) 16 rfl Tryd.underlying22 info48 rfl (by decide) (by omega) (.slice (some aw) aa.length aC) aa (⟨(A1f l0 x4_1).f0, (A1f l0 x4_1).f1⟩ : S48) [.int .i64 ((A1f l0 x4_1).f0), .int .u64 ((A1f l0 x4_1).f1)] (fun _ => True) (fun _ => False) rfl rfl ?aP (fun _ hk => hk.elim) ?aF ?aO ?aB ?aS ?aL ?_; (case aP => exact k48_mkM _ _ _ (⟨(A1f l0 x4_1).f0, (A1f l0 x4_1).f1⟩ : S48)); (case aB => exact (kl HB)); (case aF => exact (fun _ _ => trivial)); (case aO => exact (kr HO_3)); (case aS => exact (A0y (kl HB))); (case aL => have := LMc13.out; omega); intro aR bm ho hb hg hat; rw [← a1.out] at ho; have ao := ak (hb); have ap := ak (ho); clear HB; clear HO_3; have HB := ao; have a3 := ap; clear ao ap; clear ho hb hg hat))
          repeat (go_quiet (first | ((with_reducible refine A22 (b := .append) (xs := #[.tmp 35, .tmp 40]) rfl ?_); at_builtin; refine Kd.R_append k48 (w0 := w) w.heap.size rfl (.tmp 35) (.tmp 40) 22 48 (.agg #[(.int .i64 0), (.int .u64 0)]) 16 rfl Tryd.underlying22 info48 rfl (by decide) (by omega) (.slice (some aw) aa.length aC) aa (⟨(A1f l0 x4_1).f0, (A1f l0 x4_1).f1⟩ : S48) [.int .i64 ((A1f l0 x4_1).f0), .int .u64 ((A1f l0 x4_1).f1)] (fun _ => True) (fun _ => False) rfl rfl ?aP (fun _ hk => hk.elim) ?aF ?aO ?aB ?aS ?aL ?_; (case aP => exact k48_mkM _ _ _ (⟨(A1f l0 x4_1).f0, (A1f l0 x4_1).f1⟩ : S48)); (case aB => exact (kl HB)); (case aF => exact (fun _ _ => trivial)); (case aO => exact (kr HO_3)); (case aS => exact (A0y (kl HB))); (case aL => have := LMc13.out; omega); intro aR bm ho hb hg hat; rw [← a1.out] at ho; have ao := ak (hb); have ap := ak (ho); clear HB; clear HO_3; have HB := ao; have a3 := ap; clear ao ap; clear ho hb hg hat)); try go_wp2_with (first | ((with_reducible refine A22 (b := .append) (xs := #[.tmp 35, .tmp 40]) rfl ?_); at_builtin; refine Kd.R_append k48 (w0 := w) w.heap.size rfl (.tmp 35) (.tmp 40) 22 48 (.agg #[(.int .i64 0), (.int .u64 0)]) 16 rfl Tryd.underlying22 info48 rfl (by decide) (by omega) (.slice (some aw) aa.length aC) aa (⟨(A1f l0 x4_1).f0, (A1f l0 x4_1).f1⟩ : S48) [.int .i64 ((A1f l0 x4_1).f0), .int .u64 ((A1f l0 x4_1).f1)] (fun _ => True) (fun _ => False) rfl rfl ?aP (fun _ hk => hk.elim) ?aF ?aO ?aB ?aS ?aL ?_; (case aP => exact k48_mkM _ _ _ (⟨(A1f l0 x4_1).f0, (A1f l0 x4_1).f1⟩ : S48)); (case aB => exact (kl HB)); (case aF => exact (fun _ _ => trivial)); (case aO => exact (kr HO_3)); (case aS => exact (A0y (kl HB))); (case aL => have := LMc13.out; omega); intro aR bm ho hb hg hat; rw [← a1.out] at ho; have ao := ak (hb); have ap := ak (ho); clear HB; clear HO_3; have HB := ao; have a3 := ap; clear ao ap; clear ho hb hg hat)))
          go_roundg k1
          case measure => have := aH.out; omega
          case rel => exact ⟨(aN), (wrap64 (x4_1 + 1)), kE, H', ⟨by have := aH.out; omega⟩, ⟨kr a3⟩, ⟨(kl HB)⟩⟩
         ·rw [if_neg aV] at H
          exact absurd H (by simp)
        ·rw [if_neg aI] at H; have aM : decide (((A1f aa (ar)).f0) < ((A1f l0 x4_1).f0)) = false := decide_eq_false aI; clear aI; have H' := ak H; clear H; obtain ⟨bs, bt, bf⟩ := Kd.A1t HO_3.out; subst bf; have au : 0 ≤ (x4_1 : Int) := kD; have ai : x4_1 < (l0.length : Int) := kD; obtain ⟨a8, aD, ac, ad⟩ := at_T48 aT.out x4_1 au ai
         cases aD
         replace ac := (HB.out.cell (World.block_lt_of_cell? w _ ac)).trans ac; replace ad := (HB.out.cell (World.block_lt_of_cell? w _ ad)).trans ad; replace au := eq_true au
         (try (have ae := ai; simp only [List.length_drop, List.length_take] at ae; replace ae := eq_true ae)); replace ai := eq_true ai
         have av : 0 ≤ ((ar) : Int) := kD; have aj : (ar) < (aa.length : Int) := kD; obtain ⟨aw, aE, a5, a6⟩ := at_T48 (Kd.A07 HO_3.out).2.2 (ar) av aj
         cases aE
         replace av := eq_true av
         (try (have af := aj; simp only [List.length_drop, List.length_take] at af; replace af := eq_true af)); replace aj := eq_true aj
         go_wp2
         repeat ((first | go_quiet (fail) | go_region); try go_wp2)
         go_roundg k1
         case measure => have := aH.out; omega
         case rel => exact ⟨(aa), (wrap64 (x4_1 + 1)), kE, H', ⟨by have := aH.out; omega⟩, ⟨kr HO_3⟩, ⟨(kl HB)⟩⟩
       ·rw [if_neg aU] at H
        exact absurd H (by simp)
      ·rw [if_neg c10] at H
       exact absurd H (by simp)
     ·rw [if_neg c8] at H
      exact absurd H (by simp)
   ·rw [if_neg c2] at H; have aW := decide_eq_false c2; clear c2; obtain rfl := Option.some.inj H
    go_wp2
    repeat ((first | go_quiet (fail) | go_region); try go_wp2)
    go_ret
    exact ⟨_, kF, by (with_reducible repeat (first | apply Kd.A08 | apply Kd.A09 | apply Kd.A1b)); exact HO_3.out, (kl HB)⟩
end Go.Proofs.YtiahbcaoikoogabDoor.All
