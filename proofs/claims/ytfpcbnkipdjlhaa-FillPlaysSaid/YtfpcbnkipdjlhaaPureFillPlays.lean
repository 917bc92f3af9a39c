/- Whatever is done with layer 2's reader of any bytes, it tells what the document says, and has as many bits ahead; no condition beside the statement's own bounds of 500 bytes and 100 deeds. -/
import Derived.Test.YtfpcbnkipdjlhaaAllx27
import Derived.Test.YtfpcbnkipdjlhaaPFill
namespace Go.Proofs.Ytfpcbnkipdjlhaa.Pure
open Go Go.RowKit Go.Proofs.Ytfpcbnkipdjlhaa Go.Proofs.Ytfpcbnkipdjlhaa.All Go.Proofs.YtfpcbnkipdjlhaaW.PrintWords Go.Proofs.YtfpcbnkipdjlhaaW.PrintLast
set_option linter.unusedVariables false
set_option linter.unusedSimpArgs false

theorem FillPlays_up : Ev (fun k => gaiterlaw02_up.f k) true :=
  Ev.of gaiterlaw02_up.mono (k := 40) (by decide +kernel)
theorem plays_pick (a : Int) (b : Int) (hb : 0 < b ∧ b < 10000) : ∃ t, gaiterlaw00_Pick.f a b = some t ∧ 0 ≤ t ∧ t < b := by
  have hr : -b < Int.tmod a b ∧ Int.tmod a b < b := by
    by_cases h : 0 ≤ a
    · rw [Int.tmod_eq_emod_of_nonneg h]
      have h1 := Int.emod_nonneg a (show b ≠ 0 by omega)
      have h2 := Int.emod_lt_of_pos a hb.1
      omega
    · have e : Int.tmod a b = -(Int.tmod (-a) b) := by rw [Int.neg_tmod, Int.neg_neg]
      rw [e, Int.tmod_eq_emod_of_nonneg (show 0 ≤ -a by omega)]
      have h1 := Int.emod_nonneg (-a) (show b ≠ 0 by omega)
      have h2 := Int.emod_lt_of_pos (-a) hb.1
      omega
  unfold gaiterlaw00_Pick.f
  rw [if_neg (by omega)]
  generalize Int.tmod a b = q at hr
  by_cases h : q < 0
  · rw [if_pos h]
    exact ⟨_, rfl, by rw [PBits.w64 _ (by omega)]; omega, by rw [PBits.w64 _ (by omega)]; omega⟩
  · rw [if_neg h]
    exact ⟨_, rfl, by omega, by omega⟩
/-- What Peek tells, by the document's words. -/
theorem pk_doc (R : List Int) (n : Int) (h0 : 0 ≤ n) (h : n ≤ 56) : PFill.pk R n = Bs.number ((R ++ List.replicate 56 0).take n.toNat) := by
  obtain ⟨m, rfl⟩ : ∃ m : Nat, n = (m : Int) := ⟨n.toNat, by omega⟩
  have hm : m ≤ 56 := by omega
  unfold PFill.pk
  rw [Int.toNat_natCast]
  by_cases c : m = 0
  · subst c
    rfl
  · rw [if_neg (by omega)]
    congr 1
    rw [List.take_append, List.take_append, List.take_replicate, List.take_replicate]
    congr 2
    omega
theorem pk_out (R : List Int) (n : Int) (h : ¬ (0 ≤ n ∧ n ≤ 56)) : PFill.pk R n = 0 := if_pos (by omega)

theorem FillPlays_l0 (l : List S75) (ll : l.length ≤ 100) (hl : ∀ x ∈ l, -9223372036854775808 ≤ x.f1 ∧ x.f1 < 9223372036854775808) : ∀ (d i : Nat) (R x : List Int) (u h : Int), i + d = l.length → R.length ≤ 4000 → PFill.Inv R x u h →
    Ev (fun k => gaiterlaw02_FillPlays.l0 k l true R (i : Int) x u h) true := by
  intro d
  induction d with
  | zero =>
    intro i R x u h hi hR hI
    have hno : ¬ ((i : Int) < (l.length : Int)) := by omega
    refine Ev.step (fun k => by rw [gaiterlaw02_FillPlays.l0]) ?_
    simp only [if_neg hno]
    exact Ev.now _
  | succ d ih =>
    intro i R x u h hi hR hI
    have hin : (i : Int) < (l.length : Int) := by omega
    have h0 : (0 : Int) ≤ (i : Int) := Int.natCast_nonneg _
    have hw := PFill.wr_1 i (by omega)
    have hRb := hI.bits
    have hel : -9223372036854775808 ≤ (rd_T75 l (i : Int)).f1 ∧ (rd_T75 l (i : Int)).f1 < 9223372036854775808 := by
      unfold rd_T75
      rw [Int.toNat_natCast, List.getD_eq_getElem?_getD, List.getElem?_eq_getElem (by omega)]
      exact hl _ (List.getElem_mem _)
    have hnext : ∀ (R2 x2 : List Int) (u2 h2 : Int), R2.length ≤ 4000 → PFill.Inv R2 x2 u2 h2 → Ev (fun k => gaiterlaw02_FillPlays.l0 k l true R2 (wrap64 ((i : Int) + 1)) x2 u2 h2) true := by
      intro R2 x2 u2 h2 hR2 hI2
      rw [hw]
      exact ih (i + 1) R2 x2 u2 h2 (by omega) hR2 hI2
    clear hw
    obtain ⟨t, ht, ht0, ht1⟩ := plays_pick (rd_T75 l (i : Int)).f0 4 (by decide)
    refine Ev.step (fun k => by rw [gaiterlaw02_FillPlays.l0]) ?_
    simp only [if_pos hin, if_pos h0, ht, Option.bind_some]
    generalize (rd_T75 l (i : Int)).f1 = n at hel
    by_cases ct0 : t = 0
    · simp only [if_pos ct0]
      obtain ⟨x1, u1, h1, hE1, hI1, _⟩ := PFill.Peek_is hI n
      have hLeft := PFill.Left_is hI1
      have hj3 : Ev (fun k => gaiterlaw02_FillPlays.j3 k l true R (i : Int) n (PFill.pk R n) x u h) true := by
        refine Ev.step (fun k => by rw [gaiterlaw02_FillPlays.j3]) ?_
        refine Ev.bind hE1 ?_
        simp only [if_true, hLeft, Option.bind_some]
        exact hnext R x1 u1 h1 hR hI1
      have hj2f : ¬ (0 ≤ n ∧ n ≤ 56) → Ev (fun k => gaiterlaw02_FillPlays.j2 k l true R (i : Int) n 0 false x u h) true := by
        intro c
        rw [pk_out R n c] at hj3
        refine Ev.step (fun k => by rw [gaiterlaw02_FillPlays.j2]) ?_
        simp only [Bool.false_eq_true, if_false]
        exact hj3
      by_cases c1 : n ≥ 0
      · simp only [if_pos c1]
        by_cases c2 : n ≤ 56
        · rw [decide_eq_true c2]
          have hnum := PBits.Number_is ((R ++ List.replicate 56 0).take n.toNat) ((hRb.append (Bs.Bits.zeros 56)).take _) (by rw [List.length_take]; omega)
          rw [← pk_doc R n c1 c2] at hnum
          have q1 : ([] : List Int).length + R.length < 140737488355328 := by rw [List.length_nil]; omega
          have q2 : R.length + 56 < 140737488355328 := by omega
          have q3 : n ≤ ((R ++ List.replicate 56 0).length : Int) := by rw [List.length_append, List.length_replicate]; omega
          refine Ev.step (fun k => by rw [gaiterlaw02_FillPlays.j2]) ?_
          simp only [if_true, Option.bind_some, if_pos q1, List.nil_append, if_pos q2, if_pos c1, if_pos q3]
          refine Ev.bind hnum ?_
          exact hj3
        · rw [decide_eq_false c2]
          exact hj2f (fun h => c2 h.2)
      · simp only [if_neg c1]
        exact hj2f (fun h => c1 h.1)
    simp only [if_neg ct0]
    by_cases ct1 : t = 1
    · simp only [if_pos ct1]
      obtain ⟨x1, u1, h1, hE1, hI1⟩ := PFill.Skip_is hI n hel.2
      have hLeft := PFill.Left_is hI1
      have hj4 : ∀ y, y = decide (0 ≤ n ∧ n ≤ (R.length : Int)) → Ev (fun k => gaiterlaw02_FillPlays.j4 k l true R (i : Int) n y x u h) true := by
        intro y hy
        refine Ev.step (fun k => by rw [gaiterlaw02_FillPlays.j4]) ?_
        refine Ev.bind hE1 ?_
        rw [hy]
        simp only [bne_self_eq_false, Bool.false_eq_true, if_false]
        by_cases c : 0 ≤ n ∧ n ≤ (R.length : Int)
        · rw [if_pos c] at hI1 hLeft
          simp only [decide_eq_true c, if_true, if_pos c.1, if_pos c.2, Option.bind_some, hLeft]
          exact hnext _ x1 u1 h1 (by rw [List.length_drop]; omega) hI1
        · rw [if_neg c] at hI1 hLeft
          simp only [decide_eq_false c, Bool.false_eq_true, if_false, Option.bind_some, hLeft, if_true]
          exact hnext _ x1 u1 h1 hR hI1
      by_cases c1 : n ≥ 0
      · simp only [if_pos c1]
        exact hj4 _ (decide_eq_decide.2 ⟨fun h => ⟨c1, h⟩, fun h => h.2⟩)
      · simp only [if_neg c1]
        exact hj4 _ (decide_eq_false (fun h => c1 h.1)).symm
    · simp only [if_neg ct1]
      obtain ⟨x1, u1, h1, hE1, hI1⟩ := PFill.Read_is hI n
      have hLeft := PFill.Left_is hI1
      refine Ev.bind hE1 ?_
      have hj5t : (n < 0 ∨ n > 64 ∨ n > (R.length : Int)) → Ev (fun k => gaiterlaw02_FillPlays.j5 k l true R (i : Int) n (PFill.rdv R n).1 (PFill.rdv R n).2 true x1 u1 h1) true := by
        intro c
        rw [show PFill.rdv R n = (0, false) from if_pos c]
        rw [show PFill.rdR R n = R from if_pos c] at hI1 hLeft
        refine Ev.step (fun k => by rw [gaiterlaw02_FillPlays.j5]) ?_
        simp only [if_true]
        refine Ev.step (fun k => by rw [gaiterlaw02_FillPlays.j6]) ?_
        simp only [Bool.false_eq_true, if_false, hLeft, Option.bind_some, if_true]
        exact hnext _ x1 u1 h1 hR hI1
      by_cases c1 : n < 0
      · simp only [if_pos c1]
        exact hj5t (.inl c1)
      simp only [if_neg c1]
      by_cases c2 : n > 64
      · simp only [if_pos c2]
        exact hj5t (.inr (.inl c2))
      simp only [if_neg c2]
      by_cases c3 : n > (R.length : Int)
      · rw [decide_eq_true c3]
        exact hj5t (.inr (.inr c3))
      rw [decide_eq_false c3]
      have hno : ¬ (n < 0 ∨ n > 64 ∨ n > (R.length : Int)) := fun hc => hc.elim c1 fun hc => hc.elim c2 c3
      rw [show PFill.rdR R n = R.drop n.toNat from if_neg hno] at hI1 hLeft
      rw [show PFill.rdv R n = (Bs.number (R.take n.toNat), true) from if_neg hno]
      have q0 : 0 ≤ n := by omega
      have q1 : n ≤ (R.length : Int) := by omega
      have hnum := PBits.Number_is (R.take n.toNat) (hRb.take _) (by rw [List.length_take]; omega)
      refine Ev.step (fun k => by rw [gaiterlaw02_FillPlays.j5]) ?_
      simp only [Bool.false_eq_true, if_false, if_pos q0, if_pos q1]
      refine Ev.bind hnum ?_
      simp only [if_true, Bool.not_true]
      refine Ev.step (fun k => by rw [gaiterlaw02_FillPlays.j7]) ?_
      simp only [Bool.false_eq_true, if_false, if_pos q0, if_pos q1, Option.bind_some, hLeft, if_true]
      exact hnext _ x1 u1 h1 (by rw [List.length_drop]; omega) hI1
theorem FillPlays : gaiterlaw02_FillPlays.Pure := by
  intro b l _ _ hb _ _ hl
  have hb : Bs.Bytes b := fun y h => Ib.wf_u8 (hb y h)
  refine Ev.rounds (g := fun k => gaiterlaw02_FillPlays.f k b l) ?_
  unfold gaiterlaw02_FillPlays.f
  refine Ev.bind FillPlays_up ?_
  have hout : ∀ x, x = true → Ev (fun k => gaiterlaw02_FillPlays.j0 k b l true x) true := by
    intro x hx
    subst hx
    refine Ev.step (fun k => by rw [gaiterlaw02_FillPlays.j0]) ?_
    simp only [if_true]
    exact Ev.now _
  by_cases c1 : (b.length : Int) > 500
  · simp only [if_pos c1]
    exact hout _ rfl
  simp only [if_neg c1]
  by_cases c2 : (l.length : Int) > 100
  · exact hout _ (decide_eq_true c2)
  rw [decide_eq_false c2]
  have hfl := Bs.flat_length b
  refine Ev.step (fun k => by rw [gaiterlaw02_FillPlays.j0]) ?_
  simp only [Bool.false_eq_true, if_false, fill_New.f, Option.bind_some]
  refine Ev.bind (PBits.Flat_is b hb (by omega)) ?_
  exact FillPlays_l0 l (by omega) (fun x hx => Ib.wf_i64 (hl x hx).2) l.length 0 (Bs.flat b) b 0 0 (by omega) (by omega) (PFill.New_is b hb (by omega))

end Go.Proofs.Ytfpcbnkipdjlhaa.Pure
