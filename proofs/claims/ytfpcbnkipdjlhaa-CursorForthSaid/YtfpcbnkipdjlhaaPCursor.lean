/- What layer 17's cursor comes to over samples whose times rise, in plain words. -/
import Derived.Test.YtfpcbnkipdjlhaaAllx15
import Derived.Test.YtfpcbnkipdjlhaaAllx13
import Derived.Test.YtfpcbnkipdjlhaaPBits
namespace Go.Proofs.Ytfpcbnkipdjlhaa.PCursor
open Go Go.RowKit Go.Proofs.Ytfpcbnkipdjlhaa Go.Proofs.Ytfpcbnkipdjlhaa.All Go.Proofs.YtfpcbnkipdjlhaaW.PrintWords Go.Proofs.YtfpcbnkipdjlhaaW.PrintLast Go.Proofs.YtfpcbnkipdjlhaaW.PrintMore
set_option linter.unusedVariables false
set_option linter.unusedSimpArgs false

/-- A sample's time. -/
def tm (T : List S68) (i : Nat) : Int := (rd_T68 T (i : Int)).f0
def Rise (T : List S68) : Prop := ∀ i j : Nat, i < j → j < T.length → tm T i < tm T j
theorem tm_left (T : List S68) (x : S68) (i : Nat) (h : i < T.length) : tm (T ++ [x]) i = tm T i := by
  unfold tm rd_T68
  rw [Int.toNat_natCast, List.getD_eq_getElem?_getD, List.getElem?_append_left h, ← List.getD_eq_getElem?_getD]
theorem tm_last (T : List S68) (x : S68) : tm (T ++ [x]) T.length = x.f0 := by
  unfold tm rd_T68
  rw [Int.toNat_natCast, List.getD_eq_getElem?_getD, List.getElem?_append_right (Nat.le_refl _), Nat.sub_self]
  rfl
theorem Rise.snoc {T : List S68} (hT : Rise T) (x : S68) (h : T.length = 0 ∨ tm T (T.length - 1) < x.f0) : Rise (T ++ [x]) := by
  intro i j hij hj
  rw [List.length_append, List.length_singleton] at hj
  by_cases c : j < T.length
  · rw [tm_left T x i (by omega), tm_left T x j c]
    exact hT i j hij c
  · obtain rfl : j = T.length := by omega
    rw [tm_left T x i hij, tm_last]
    have h := h.resolve_left (by omega)
    by_cases c2 : i = T.length - 1
    · rw [c2]; exact h
    · exact Int.lt_trans (hT i (T.length - 1) (by omega) (by omega)) h
theorem Rising_l0 (l : List S68) (hl : l.length ≤ 100) : ∀ (d i : Nat) (T : List S68), i + d = l.length → T.length ≤ i → Rise T →
    ∃ T', Ev (fun k => gaiterlaw00_Rising.l0 k l T (i : Int)) T' ∧ Rise T' ∧ T'.length ≤ 100 := by
  intro d
  induction d with
  | zero =>
    intro i T hi hT hR
    have hno : ¬ ((i : Int) < (l.length : Int)) := by omega
    refine ⟨T, ?_, hR, by omega⟩
    refine Ev.step (fun k => by rw [gaiterlaw00_Rising.l0, if_neg hno]) ?_
    exact Ev.now _
  | succ d ih =>
    intro i T hi hT hR
    have hin : (i : Int) < (l.length : Int) := by omega
    have h0 : (0 : Int) ≤ (i : Int) := Int.natCast_nonneg _
    have hlim : T.length < 8796093022208 := by omega
    have hw : wrap64 ((i : Int) + 1) = ((i + 1 : Nat) : Int) := by rw [PBits.w64 _ (by omega)]; omega
    have hadd : (T.length = 0 ∨ tm T (T.length - 1) < (rd_T68 l (i : Int)).f0) → ∃ T', Ev (fun k => gaiterlaw00_Rising.l0 k l (T ++ [(⟨(rd_T68 l (i : Int)).f0, (rd_T68 l (i : Int)).f1⟩ : S68)]) ((i + 1 : Nat) : Int)) T' ∧ Rise T' ∧ T'.length ≤ 100 := fun h =>
      ih (i + 1) _ (by omega) (by rw [List.length_append, List.length_singleton]; omega) (hR.snoc _ h)
    by_cases c0 : (T.length : Int) = 0
    · obtain ⟨T', hE, h2⟩ := hadd (.inl (by omega))
      refine ⟨T', ?_, h2⟩
      refine Ev.step (fun k => by rw [gaiterlaw00_Rising.l0, if_pos hin, if_pos c0, if_pos h0, if_pos hlim, hw]) ?_
      exact hE
    · have hpos : 0 < T.length := by omega
      have e1 : wrap64 ((T.length : Int) - 1) = ((T.length - 1 : Nat) : Int) := by rw [PBits.w64 _ (by omega)]; omega
      have g0 : (0 : Int) ≤ ((T.length - 1 : Nat) : Int) := Int.natCast_nonneg _
      have g1 : ((T.length - 1 : Nat) : Int) < (T.length : Int) := by omega
      by_cases c1 : (rd_T68 l (i : Int)).f0 > (rd_T68 T ((T.length - 1 : Nat) : Int)).f0
      · obtain ⟨T', hE, h2⟩ := hadd (.inr c1)
        refine ⟨T', ?_, h2⟩
        refine Ev.step (fun k => by rw [gaiterlaw00_Rising.l0, if_pos hin, if_neg c0, if_pos h0, e1, if_pos g0, if_pos g1, if_pos c1, if_pos hlim, hw]) ?_
        exact hE
      · obtain ⟨T', hE, h2⟩ := ih (i + 1) T (by omega) (by omega) hR
        refine ⟨T', ?_, h2⟩
        refine Ev.step (fun k => by rw [gaiterlaw00_Rising.l0, if_pos hin, if_neg c0, if_pos h0, e1, if_pos g0, if_pos g1, if_neg c1, hw]) ?_
        exact hE
theorem Rising_is (l : List S68) (hl : l.length ≤ 100) : ∃ T, Ev (fun k => gaiterlaw00_Rising.f k l) T ∧ Rise T ∧ T.length ≤ 100 :=
  Rising_l0 l hl l.length 0 [] (by omega) (Nat.le_refl _) (fun i j _ hj => absurd hj (Nat.not_lt_zero j))

/-- Where a seeking goes: from place i on, to the first sample whose time is t at least. -/
theorem Seek_l0 (T : List S68) (hT : T.length ≤ 100) (t : Int) (e : Option Int) (a : Int) : ∀ (d i : Nat), i + d = T.length →
    (∃ j : Nat, i ≤ j ∧ j < T.length ∧ tm T j ≥ t ∧ (∀ k, i ≤ k → k < j → tm T k < t) ∧ Ev (fun k => cursor_Seek.l0 k t (i : Int) T e a false) (T, e, (j : Int), false, true)) ∨
    ((∀ k, i ≤ k → k < T.length → tm T k < t) ∧ Ev (fun k => cursor_Seek.l0 k t (i : Int) T e a false) (T, e, a, true, false)) := by
  intro d
  induction d with
  | zero =>
    intro i hi
    have hno : ¬ ((i : Int) < (T.length : Int)) := by omega
    refine .inr ⟨fun k h1 h2 => by omega, ?_⟩
    refine Ev.step (fun k => by rw [cursor_Seek.l0, if_neg hno]) ?_
    exact Ev.now _
  | succ d ih =>
    intro i hi
    have hin : (i : Int) < (T.length : Int) := by omega
    have h0 : (0 : Int) ≤ (i : Int) := Int.natCast_nonneg _
    have hw : wrap64 ((i : Int) + 1) = ((i + 1 : Nat) : Int) := by rw [PBits.w64 _ (by omega)]; omega
    by_cases c : (rd_T68 T (i : Int)).f0 ≥ t
    · refine .inl ⟨i, Nat.le_refl _, by omega, c, fun k h1 h2 => by omega, ?_⟩
      refine Ev.step (fun k => by rw [cursor_Seek.l0, if_pos hin, if_pos h0, if_pos c]) ?_
      exact Ev.now _
    · have hlt : tm T i < t := Int.not_le.1 c
      rcases ih (i + 1) (by omega) with ⟨j, h1, h2, h3, h4, hE⟩ | ⟨h4, hE⟩
      · refine .inl ⟨j, by omega, h2, h3, fun k k1 k2 => ?_, ?_⟩
        · by_cases ck : k = i
          · rw [ck]; exact hlt
          · exact h4 k (by omega) k2
        · refine Ev.step (fun k => by rw [cursor_Seek.l0, if_pos hin, if_pos h0, if_neg c, hw]) ?_
          exact hE
      · refine .inr ⟨fun k k1 k2 => ?_, ?_⟩
        · by_cases ck : k = i
          · rw [ck]; exact hlt
          · exact h4 k (by omega) k2
        · refine Ev.step (fun k => by rw [cursor_Seek.l0, if_pos hin, if_pos h0, if_neg c, hw]) ?_
          exact hE

end Go.Proofs.Ytfpcbnkipdjlhaa.PCursor
