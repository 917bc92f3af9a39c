/- Read in any pieces, layer 2's reader reads what layer 1's Take tells of the bytes, one piece behind the other; no condition beside the statement's own bounds of 500 bytes and 100 pieces. -/
import Derived.Test.YtfpcbnkipdjlhaaAllx29
import Derived.Test.YtfpcbnkipdjlhaaPFill
namespace Go.Proofs.Ytfpcbnkipdjlhaa.Pure
open Go Go.RowKit Go.Proofs.Ytfpcbnkipdjlhaa Go.Proofs.Ytfpcbnkipdjlhaa.All Go.Proofs.YtfpcbnkipdjlhaaW.PrintWords Go.Proofs.YtfpcbnkipdjlhaaW.PrintLast
set_option linter.unusedVariables false
set_option linter.unusedSimpArgs false

theorem FillBits_up : Ev (fun k => gaiterlaw02_up.f k) true :=
  Ev.of gaiterlaw02_up.mono (k := 40) (by decide +kernel)
theorem bits_pick (a : Int) (b : Int) (hb : 0 < b ∧ b < 10000) : ∃ t, gaiterlaw00_Pick.f a b = some t ∧ 0 ≤ t ∧ t < b := by
  have hr : -b < Int.tmod a b ∧ Int.tmod a b < b := by
    by_cases h : 0 ≤ a
    · rw [Int.tmod_eq_emod_of_nonneg h]
      have h1 := Int.emod_nonneg a (show b ≠ 0 by omega)
      have h2 := Int.emod_lt_of_pos a hb.1
      omega
    · have e : Int.tmod a b = -(Int.tmod (-a) b) := by rw [Int.neg_tmod, Int.neg_neg]
      rw [e, Int.tmod_eq_emod_of_nonneg (show 0 ≤ -a by omega)]
      have h1 := Int.emod_nonneg (-a) (show b ≠ 0 by omega)
      have h2 := Int.emod_lt_of_pos (-a) hb.1
      omega
  unfold gaiterlaw00_Pick.f
  rw [if_neg (by omega)]
  generalize Int.tmod a b = q at hr
  by_cases h : q < 0
  · rw [if_pos h]
    exact ⟨_, rfl, by rw [PBits.w64 _ (by omega)]; omega, by rw [PBits.w64 _ (by omega)]; omega⟩
  · rw [if_neg h]
    exact ⟨_, rfl, by omega, by omega⟩
/-- What Take tells from a place on is what a reader tells that has all from there ahead. -/
theorem tk_rdv (L : List Int) (a n : Nat) (ha : a ≤ L.length) : PBits.tk L (a : Int) (n : Int) = PFill.rdv (L.drop a) (n : Int) := by
  have hl : (L.drop a).length = L.length - a := List.length_drop
  by_cases c : n ≤ 64 ∧ n ≤ L.length - a
  · rw [PBits.tk_yes (by omega)]
    unfold PFill.rdv
    rw [if_neg (by omega), Int.toNat_natCast, Int.toNat_natCast]
  · rw [PBits.tk_no (by omega)]
    unfold PFill.rdv
    rw [if_pos (by omega)]
theorem FillBits_l0 (b l : List Int) (hb : Bs.Bytes b) (lb : b.length ≤ 500) (ll : l.length ≤ 100) : ∀ (d i a : Nat) (x : List Int) (u h : Int), i + d = l.length → a ≤ (Bs.flat b).length → PFill.Inv ((Bs.flat b).drop a) x u h →
    Ev (fun k => gaiterlaw02_FillBits.l0 k b l true (a : Int) (i : Int) x u h) true := by
  have hL := Bs.flat_length b
  have h8 : 8 * b.length < 140737488355328 := by omega
  intro d
  induction d with
  | zero =>
    intro i a x u h hi ha hI
    have hno : ¬ ((i : Int) < (l.length : Int)) := by omega
    have hLeft := PFill.Left_is hI
    have e : (((Bs.flat b).drop a).length : Int) = wrap64 (wrap64 (8 * (b.length : Int)) - (a : Int)) := by
      rw [PBits.w64 (8 * (b.length : Int)) (by omega), PBits.w64 _ (by omega), List.length_drop]
      omega
    refine Ev.step (fun k => by rw [gaiterlaw02_FillBits.l0]) ?_
    simp only [if_neg hno, if_true, hLeft, Option.bind_some, e, beq_self_eq_true]
    exact Ev.now _
  | succ d ih =>
    intro i a x u h hi ha hI
    have hin : (i : Int) < (l.length : Int) := by omega
    have h0 : (0 : Int) ≤ (i : Int) := Int.natCast_nonneg _
    have hi1 : i < 140737488355328 := by omega
    obtain ⟨t, ht, ht0, ht1⟩ := bits_pick (rd l (i : Int)) 65 (by decide)
    obtain ⟨n, rfl⟩ : ∃ n : Nat, t = (n : Int) := ⟨t.toNat, by omega⟩
    have hn : n ≤ 64 := by omega
    obtain ⟨x1, u1, h1, hE1, hI1⟩ := PFill.Read_is hI (n : Int)
    have hT := PBits.Take_is b hb h8 (a : Int) (n : Int)
    rw [tk_rdv _ a n ha] at hT
    have hdl : ((Bs.flat b).drop a).length = (Bs.flat b).length - a := List.length_drop
    have ha1 : a + n < 140737488355328 := by omega
    have hj3 : ∀ (a2 : Nat) (x2 : List Int) (u2 h2 : Int), a2 ≤ (Bs.flat b).length → PFill.Inv ((Bs.flat b).drop a2) x2 u2 h2 → Ev (fun k => gaiterlaw02_FillBits.j3 k b l true (a2 : Int) (i : Int) (n : Int) x2 u2 h2) true := by
      intro a2 x2 u2 h2 ha2 hI2
      have hLeft := PFill.Left_is hI2
      obtain ⟨f, hf⟩ : ∃ f : Nat, f = min (min n 56) ((Bs.flat b).drop a2).length := ⟨_, rfl⟩
      have hd2 : ((Bs.flat b).drop a2).length = (Bs.flat b).length - a2 := List.length_drop
      have hmn : mn (mn (n : Int) 56) (((Bs.flat b).drop a2).length : Int) = (f : Int) := by
        unfold mn
        split <;> split <;> omega
      obtain ⟨x3, u3, h3, hE3, hI3, _⟩ := PFill.Peek_is hI2 (f : Int)
      rw [PFill.pk_in _ f (by omega) (by omega)] at hE3
      have hT2 := PBits.Take_is b hb h8 (a2 : Int) (f : Int)
      rw [tk_rdv _ a2 f ha2, show PFill.rdv ((Bs.flat b).drop a2) (f : Int) = (Bs.number (((Bs.flat b).drop a2).take f), true) from by
        unfold PFill.rdv
        rw [if_neg (by omega), Int.toNat_natCast]] at hT2
      have hih := ih (i + 1) a2 x3 u3 h3 (by omega) ha2 hI3
      have hw := PFill.wr_1 i hi1
      refine Ev.step (fun k => by rw [gaiterlaw02_FillBits.j3]) ?_
      simp only [hLeft, Option.bind_some, hmn]
      refine Ev.bind hT2 ?_
      simp only [if_true]
      refine Ev.bind hE3 ?_
      simp only [if_true, hw]
      exact hih
    refine Ev.step (fun k => by rw [gaiterlaw02_FillBits.l0]) ?_
    simp only [if_pos hin, if_pos h0, ht, Option.bind_some]
    refine Ev.bind hT ?_
    refine Ev.bind hE1 ?_
    simp only [if_true, bne_self_eq_false]
    refine Ev.step (fun k => by rw [gaiterlaw02_FillBits.j2]) ?_
    simp only [Bool.false_eq_true, if_false]
    by_cases c : n ≤ ((Bs.flat b).drop a).length
    · have hok : (PFill.rdv ((Bs.flat b).drop a) (n : Int)).2 = true := by
        unfold PFill.rdv
        rw [if_neg (by omega)]
      have hR : PFill.rdR ((Bs.flat b).drop a) (n : Int) = (Bs.flat b).drop (a + n) := by
        unfold PFill.rdR
        rw [if_neg (by omega), Int.toNat_natCast, List.drop_drop]
      rw [hR] at hI1
      have hlast := hj3 (a + n) x1 u1 h1 (by omega) hI1
      have hw := PFill.wr_2 a n ha1
      simp only [hok, if_true, hw]
      exact hlast
    · have hok : (PFill.rdv ((Bs.flat b).drop a) (n : Int)).2 = false := by
        unfold PFill.rdv
        rw [if_pos (by omega)]
      have hR : PFill.rdR ((Bs.flat b).drop a) (n : Int) = (Bs.flat b).drop a := by
        unfold PFill.rdR
        rw [if_pos (by omega)]
      rw [hR] at hI1
      have hlast := hj3 a x1 u1 h1 ha hI1
      simp only [hok, Bool.false_eq_true, if_false]
      exact hlast
theorem FillBits : gaiterlaw02_FillBits.Pure := by
  intro b l _ _ hb _ _ _
  have hb : Bs.Bytes b := fun y h => Ib.wf_u8 (hb y h)
  refine Ev.rounds (g := fun k => gaiterlaw02_FillBits.f k b l) ?_
  unfold gaiterlaw02_FillBits.f
  refine Ev.bind FillBits_up ?_
  have hout : ∀ x, x = true → Ev (fun k => gaiterlaw02_FillBits.j0 k b l true x) true := by
    intro x hx
    subst hx
    refine Ev.step (fun k => by rw [gaiterlaw02_FillBits.j0]) ?_
    simp only [if_true]
    exact Ev.now _
  by_cases c1 : (b.length : Int) > 500
  · simp only [if_pos c1]
    exact hout _ rfl
  simp only [if_neg c1]
  by_cases c2 : (l.length : Int) > 100
  · exact hout _ (decide_eq_true c2)
  rw [decide_eq_false c2]
  refine Ev.step (fun k => by rw [gaiterlaw02_FillBits.j0]) ?_
  simp only [Bool.false_eq_true, if_false, fill_New.f, Option.bind_some]
  exact FillBits_l0 b l hb (by omega) (by omega) l.length 0 0 b 0 0 (by omega) (Nat.zero_le _) (PFill.New_is b hb (by omega))

end Go.Proofs.Ytfpcbnkipdjlhaa.Pure
