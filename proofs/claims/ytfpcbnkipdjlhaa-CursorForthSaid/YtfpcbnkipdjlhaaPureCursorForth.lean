/- Layer 17's cursor never goes back; where Seek is true it stands at the first sample from there on whose time is late enough; where it is false none is, and it is at its end for good; no condition beside the statement's own bounds of 100 samples and 100 deeds. -/
import Derived.Test.YtfpcbnkipdjlhaaAllx19
import Derived.Test.YtfpcbnkipdjlhaaPCursor
namespace Go.Proofs.Ytfpcbnkipdjlhaa.Pure
open Go Go.RowKit Go.Proofs.Ytfpcbnkipdjlhaa Go.Proofs.Ytfpcbnkipdjlhaa.All Go.Proofs.YtfpcbnkipdjlhaaW.PrintWords Go.Proofs.YtfpcbnkipdjlhaaW.PrintLast Go.Proofs.YtfpcbnkipdjlhaaW.PrintMore
open Go.Proofs.Ytfpcbnkipdjlhaa.PCursor (tm Rise)
set_option linter.unusedVariables false
set_option linter.unusedSimpArgs false

theorem CursorForth_up : Ev (fun k => gaiterlaw17_up.f k) true :=
  Ev.of gaiterlaw17_up.mono (k := 40) (by decide +kernel)
theorem forth_pick (a : Int) : ∃ t, gaiterlaw00_Pick.f a 3 = some t := by
  unfold gaiterlaw00_Pick.f
  rw [if_neg (by decide)]
  split <;> exact ⟨_, rfl⟩

/-- What holds of a cursor between two deeds. -/
def At (T : List S68) (a : Int) : Prop := -1 ≤ a ∧ (a < (T.length : Int) ∨ a = -1)

theorem Forth_l1 (T : List S68) (hT : T.length ≤ 100) (l : List S54) (i : Nat) (hi : i < l.length) (e : Option Int) (a : Int) (dn sk ok : Bool) (a2 : Int) (d2 : Bool)
    (hk : sk = true → dn = false → ∀ k : Nat, mx a 0 ≤ (k : Int) → k < T.length → (decide (tm T k ≥ (rd_T54 l (i : Int)).f1) = (ok && decide ((k : Int) ≥ a2))))
    (hlast : ok = true → sk = false → a2 = wrap64 (a + 1))
    (hn : Ev (fun k => gaiterlaw17_CursorForth.l0 k l true T (wrap64 ((i : Int) + 1)) T e a2 d2) true) :
    ∀ (f k : Nat), mx a 0 ≤ (k : Int) → k ≤ T.length → k + f = T.length → Ev (fun q => gaiterlaw17_CursorForth.l1 q l true T (i : Int) a dn sk ok (k : Int) T e a2 d2) true := by
  have hend : ∀ k : Nat, Ev (fun q => gaiterlaw17_CursorForth.j5 q l true T (i : Int) a dn sk ok (k : Int) false T e a2 d2) true := by
    intro k
    cases ok with
    | false =>
      refine Ev.step (fun q => by rw [gaiterlaw17_CursorForth.j5, if_neg (by decide), if_neg (by decide)]) ?_
      exact hn
    | true =>
      cases sk with
      | true =>
        refine Ev.step (fun q => by rw [gaiterlaw17_CursorForth.j5, if_neg (by decide), if_pos rfl, if_pos rfl]) ?_
        exact hn
      | false =>
        have h := hlast rfl rfl
        refine Ev.step (fun q => by rw [gaiterlaw17_CursorForth.j5, if_neg (by decide), if_pos rfl, if_neg (by decide), if_pos h]) ?_
        exact hn
  have i0 : (0 : Int) ≤ (i : Int) := Int.natCast_nonneg _
  have i1 : (i : Int) < (l.length : Int) := Int.ofNat_lt.2 hi
  intro f
  induction f with
  | zero =>
    intro k h0 h1 hf
    have hno : ¬ ((k : Int) < (T.length : Int)) := by omega
    refine Ev.step (fun q => by rw [gaiterlaw17_CursorForth.l1, if_neg hno]) ?_
    exact hend k
  | succ f ih =>
    intro k h0 h1 hf
    have hin : (k : Int) < (T.length : Int) := by omega
    have k0 : (0 : Int) ≤ (k : Int) := Int.natCast_nonneg _
    have hk1 : k < T.length := by omega
    cases sk with
    | false =>
      refine Ev.step (fun q => by rw [gaiterlaw17_CursorForth.l1, if_pos hin, if_neg (by decide)]) ?_
      exact hend k
    | true =>
      refine Ev.step (fun q => by rw [gaiterlaw17_CursorForth.l1, if_pos hin, if_pos rfl]) ?_
      cases dn with
      | true => exact hend k
      | false =>
        have hb := hk rfl rfl k h0 hk1
        have hih := ih (k + 1) (by omega) (by omega) (by omega)
        have hw : wrap64 ((k : Int) + 1) = ((k + 1 : Nat) : Int) := by rw [PBits.w64 _ (by omega)]; omega
        unfold tm at hb
        rw [Bool.not_false]
        cases ok with
        | true =>
          rw [Bool.true_and] at hb
          refine Ev.step (fun q => by rw [gaiterlaw17_CursorForth.j5, if_pos rfl, if_pos rfl, if_pos k0, if_pos hin, if_pos i0, if_pos i1, hb, bne_self_eq_false, if_neg (by decide), hw]) ?_
          exact hih
        | false =>
          rw [Bool.false_and] at hb
          refine Ev.step (fun q => by rw [gaiterlaw17_CursorForth.j5, if_pos rfl, if_neg (by decide), if_pos k0, if_pos hin, if_pos i0, if_pos i1, hb, bne_self_eq_false, if_neg (by decide), hw]) ?_
          exact hih

theorem Forth_j2 (T : List S68) (hT : T.length ≤ 100) (l : List S54) (i : Nat) (hi : i < l.length) (e : Option Int) (a : Int) (ha : At T a) (dn sk ok : Bool) (a2 : Int) (ha2 : At T a2) (d2 : Bool) (hle : a ≤ a2) (hdo : dn = true → ok = false) (hod : ok = !d2)
    (hk : sk = true → dn = false → ∀ k : Nat, mx a 0 ≤ (k : Int) → k < T.length → (decide (tm T k ≥ (rd_T54 l (i : Int)).f1) = (ok && decide ((k : Int) ≥ a2))))
    (hlast : ok = true → sk = false → a2 = wrap64 (a + 1))
    (hn : Ev (fun k => gaiterlaw17_CursorForth.l0 k l true T (wrap64 ((i : Int) + 1)) T e a2 d2) true) :
    Ev (fun q => gaiterlaw17_CursorForth.j2 q l true T (i : Int) a dn sk ok T e a2 d2) true := by
  obtain ⟨ha0, ha1⟩ := ha
  obtain ⟨hb0, hb1⟩ := ha2
  have hno : ¬ (a2 < a) := by omega
  have hge : decide (a2 ≥ (T.length : Int)) = false := decide_eq_false (by omega)
  obtain ⟨m, hm⟩ : ∃ m : Nat, mx a 0 = (m : Int) := ⟨(mx a 0).toNat, by unfold mx; split <;> omega⟩
  have hmle : m ≤ T.length := by
    have : (m : Int) ≤ (T.length : Int) := by
      rw [← hm]
      unfold mx
      split <;> omega
    omega
  have hl1 := Forth_l1 T hT l i hi e a dn sk ok a2 d2 hk hlast hn (T.length - m) m (by omega) hmle (by omega)
  have hj3 : Ev (fun q => gaiterlaw17_CursorForth.j3 q l true T (i : Int) a dn sk ok false T e a2 d2) true := by
    refine Ev.step (fun q => by rw [gaiterlaw17_CursorForth.j3, if_neg (by decide), hm]) ?_
    exact hl1
  have hne : ¬ ((ok == d2) = true) := by
    rw [hod]
    cases d2 <;> decide
  cases dn with
  | true =>
    have hok := hdo rfl
    have hokn : ¬ (ok = true) := by rw [hok]; decide
    refine Ev.step (fun q => by rw [gaiterlaw17_CursorForth.j2, if_neg hno, if_pos rfl, if_neg hokn, if_neg hne, hge]) ?_
    exact hj3
  | false =>
    refine Ev.step (fun q => by rw [gaiterlaw17_CursorForth.j2, if_neg hno, if_neg (by decide), if_neg hne, hge]) ?_
    exact hj3

theorem Forth_l0 (T : List S68) (hT : T.length ≤ 100) (hR : Rise T) (l : List S54) (hl : l.length ≤ 100) (e : Option Int) : ∀ (d i : Nat) (a : Int) (dn : Bool), i + d = l.length → At T a →
    Ev (fun k => gaiterlaw17_CursorForth.l0 k l true T (i : Int) T e a dn) true := by
  intro d
  induction d with
  | zero =>
    intro i a dn hi ha
    have hno : ¬ ((i : Int) < (l.length : Int)) := by omega
    refine Ev.step (fun k => by rw [gaiterlaw17_CursorForth.l0, if_neg hno]) ?_
    exact Ev.now _
  | succ d ih =>
    intro i a dn hi ha
    have hin : (i : Int) < (l.length : Int) := by omega
    have h0 : (0 : Int) ≤ (i : Int) := Int.natCast_nonneg _
    have hil : i < l.length := by omega
    have ha' := ha
    obtain ⟨ha0, ha1⟩ := ha'
    have hw : wrap64 ((i : Int) + 1) = ((i + 1 : Nat) : Int) := by rw [PBits.w64 _ (by omega)]; omega
    have hnext : ∀ a2 d2, At T a2 → Ev (fun k => gaiterlaw17_CursorForth.l0 k l true T (wrap64 ((i : Int) + 1)) T e a2 d2) true := by
      intro a2 d2 h
      rw [hw]
      exact ih (i + 1) a2 d2 (by omega) h
    clear hw
    obtain ⟨t, ht⟩ := forth_pick (rd_T54 l (i : Int)).f0
    by_cases c2 : t = 2
    · have e2 : (t == 2) = true := by rw [c2]; rfl
      refine Ev.step (fun k => by rw [gaiterlaw17_CursorForth.l0, if_pos hin, if_pos h0, ht, Option.bind_some, if_pos c2, e2]) ?_
      cases dn with
      | true =>
        have hs : Ev (fun k => cursor_Seek.f k T e a true (rd_T54 l (i : Int)).f1) (T, e, a, true, false) := by
          unfold cursor_Seek.f
          simp only [if_true]
          exact Ev.now _
        refine Ev.bind hs ?_
        exact Forth_j2 T hT l i hil e a ha true true false a ha true (Int.le_refl _) (fun _ => rfl) rfl (fun _ h => absurd h (by decide)) (fun h => absurd h (by decide)) (hnext a true ha)
      | false =>
        obtain ⟨m, hm⟩ : ∃ m : Nat, mx a 0 = (m : Int) := ⟨(mx a 0).toNat, by unfold mx; split <;> omega⟩
        have hma : a ≤ (m : Int) := by
          rw [← hm]
          unfold mx
          split <;> omega
        have hmle : m ≤ T.length := by
          have : (m : Int) ≤ (T.length : Int) := by
            rw [← hm]
            unfold mx
            split <;> omega
          omega
        rcases PCursor.Seek_l0 T hT (rd_T54 l (i : Int)).f1 e a (T.length - m) m (by omega) with ⟨j, j1, j2, j3, j4, hE⟩ | ⟨j4, hE⟩
        · have hs : Ev (fun k => cursor_Seek.f k T e a false (rd_T54 l (i : Int)).f1) (T, e, (j : Int), false, true) := by
            unfold cursor_Seek.f
            simp only [Bool.false_eq_true, if_false, hm]
            exact hE
          refine Ev.bind hs ?_
          have haj : At T (j : Int) := ⟨by omega, .inl (by omega)⟩
          refine Forth_j2 T hT l i hil e a ha false true true (j : Int) haj false (by omega) (fun h => absurd h (by decide)) rfl (fun _ _ k k1 k2 => ?_) (fun _ h => absurd h (by decide)) (hnext _ false haj)
          rw [Bool.true_and]
          rw [hm] at k1
          by_cases ck : (j : Int) ≤ (k : Int)
          · have hge : tm T k ≥ (rd_T54 l (i : Int)).f1 := by
              by_cases cj : j = k
              · rw [← cj]; exact j3
              · have := hR j k (by omega) k2
                omega
            rw [decide_eq_true hge, decide_eq_true (show (k : Int) ≥ (j : Int) from ck)]
          · have hlt := j4 k (by omega) (by omega)
            rw [decide_eq_false (show ¬ (tm T k ≥ (rd_T54 l (i : Int)).f1) by omega), decide_eq_false (show ¬ ((k : Int) ≥ (j : Int)) by omega)]
        · have hs : Ev (fun k => cursor_Seek.f k T e a false (rd_T54 l (i : Int)).f1) (T, e, a, true, false) := by
            unfold cursor_Seek.f
            simp only [Bool.false_eq_true, if_false, hm]
            exact hE
          refine Ev.bind hs ?_
          refine Forth_j2 T hT l i hil e a ha false true false a ha true (Int.le_refl _) (fun h => absurd h (by decide)) rfl (fun _ _ k k1 k2 => ?_) (fun h => absurd h (by decide)) (hnext _ true ha)
          rw [Bool.false_and]
          rw [hm] at k1
          have hlt := j4 k (by omega) k2
          exact decide_eq_false (show ¬ (tm T k ≥ (rd_T54 l (i : Int)).f1) by omega)
    · have e2 : (t == 2) = false := beq_eq_false_iff_ne.2 c2
      have e1 : wrap64 (a + 1) = a + 1 := PBits.w64 _ (by omega)
      refine Ev.step (fun k => by rw [gaiterlaw17_CursorForth.l0, if_pos hin, if_pos h0, ht, Option.bind_some, if_neg c2, e2]) ?_
      cases dn with
      | true =>
        have hs : cursor_Next.f T e a true = some (T, e, a, true, false) := by
          unfold cursor_Next.f
          rw [if_pos rfl]
        rw [hs]
        exact Forth_j2 T hT l i hil e a ha true false false a ha true (Int.le_refl _) (fun _ => rfl) rfl (fun h => absurd h (by decide)) (fun h => absurd h (by decide)) (hnext a true ha)
      | false =>
        by_cases c : wrap64 (a + 1) ≥ (T.length : Int)
        · have hs : cursor_Next.f T e a false = some (T, e, a, true, false) := by
            unfold cursor_Next.f
            rw [if_neg (by decide), if_pos c]
          rw [hs]
          exact Forth_j2 T hT l i hil e a ha false false false a ha true (Int.le_refl _) (fun h => absurd h (by decide)) rfl (fun h => absurd h (by decide)) (fun h => absurd h (by decide)) (hnext a true ha)
        · have hs : cursor_Next.f T e a false = some (T, e, wrap64 (a + 1), false, true) := by
            unfold cursor_Next.f
            rw [if_neg (by decide), if_neg c]
          rw [hs]
          rw [e1] at c
          have ha2 : At T (wrap64 (a + 1)) := by
            rw [e1]
            exact ⟨by omega, .inl (by omega)⟩
          exact Forth_j2 T hT l i hil e a ha false false true (wrap64 (a + 1)) ha2 false (by rw [e1]; omega) (fun h => absurd h (by decide)) rfl (fun h => absurd h (by decide)) (fun _ _ => rfl) (hnext _ false ha2)
theorem CursorForth : gaiterlaw17_CursorForth.Pure := by
  intro x l _ _ _ _ _ _
  refine Ev.rounds (g := fun k => gaiterlaw17_CursorForth.f k x l) ?_
  unfold gaiterlaw17_CursorForth.f
  refine Ev.bind CursorForth_up ?_
  have hout : ∀ y, y = true → Ev (fun k => gaiterlaw17_CursorForth.j0 k x l true y) true := by
    intro y hy
    subst hy
    refine Ev.step (fun k => by rw [gaiterlaw17_CursorForth.j0, if_pos rfl]) ?_
    exact Ev.now _
  by_cases c1 : (x.length : Int) > 100
  · simp only [if_pos c1]
    exact hout _ rfl
  simp only [if_neg c1]
  by_cases c2 : (l.length : Int) > 100
  · exact hout _ (decide_eq_true c2)
  rw [decide_eq_false c2]
  obtain ⟨T, hE, hR, hT⟩ := PCursor.Rising_is x (by omega)
  refine Ev.step (fun k => by rw [gaiterlaw17_CursorForth.j0, if_neg (by decide)]) ?_
  refine Ev.bind hE ?_
  simp only [cursor_New.f, Option.bind_some]
  exact Forth_l0 T hT hR l (by omega) none l.length 0 (-1) false (by omega) ⟨by omega, .inr rfl⟩

end Go.Proofs.Ytfpcbnkipdjlhaa.Pure
