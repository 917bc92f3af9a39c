/- Any row of layer 6's table is the document's, and behind any bits that were gone over it gets the document's number or error, and what is left; no condition beside the statement's own bound of 500 bytes. -/
import Derived.Test.YtfpcbnkipdjlhabAllx19
import Derived.Test.YtfpcbnkipdjlhabPTab
import Derived.Test.YtfpcbnkipdjlhabPDodRef
namespace Go.Proofs.Ytfpcbnkipdjlhab.Pure
open Go Go.RowKit Go.Proofs.Ytfpcbnkipdjlhab Go.Proofs.Ytfpcbnkipdjlhab.All Go.Proofs.YtfpcbnkipdjlhabW.PrintWords Go.Proofs.YtfpcbnkipdjlhabW.PrintLast
open Go.Proofs.Ytfpcbnkipdjlhab.PDod (lead size)
set_option linter.unusedVariables false
set_option linter.unusedSimpArgs false

theorem TabTells_up : Ev (fun k => gaiterlaw06_up.f k) true :=
  Ev.of gaiterlaw06_up.mono (k := 300) (by decide +kernel)
theorem tab_pick (a : Int) (b : Int) (hb : 0 < b ∧ b < 10000) : ∃ t, gaiterlaw00_Pick.f a b = some t ∧ 0 ≤ t ∧ t < b := by
  have hr : -b < Int.tmod a b ∧ Int.tmod a b < b := by
    by_cases h : 0 ≤ a
    · rw [Int.tmod_eq_emod_of_nonneg h]
      have h1 := Int.emod_nonneg a (show b ≠ 0 by omega)
      have h2 := Int.emod_lt_of_pos a hb.1
      omega
    · have e : Int.tmod a b = -(Int.tmod (-a) b) := by rw [Int.neg_tmod, Int.neg_neg]
      rw [e, Int.tmod_eq_emod_of_nonneg (show 0 ≤ -a by omega)]
      have h1 := Int.emod_nonneg (-a) (show b ≠ 0 by omega)
      have h2 := Int.emod_lt_of_pos (-a) hb.1
      omega
  unfold gaiterlaw00_Pick.f
  rw [if_neg (by omega)]
  generalize Int.tmod a b = q at hr
  by_cases h : q < 0
  · rw [if_pos h]
    exact ⟨_, rfl, by rw [PBits.w64 _ (by omega)]; omega, by rw [PBits.w64 _ (by omega)]; omega⟩
  · rw [if_neg h]
    exact ⟨_, rfl, by omega, by omega⟩
/-- A table whose every row is told by the 1s that lead. -/
def Rows (T : List S49) : Prop := T.length = 256 ∧ ∀ i : Nat, i < 256 → (rd_T49 T (i : Int)).f0 = ((min (lead 4 (Bs.low (i : Int) 8) + 1) 4 : Nat) : Int) ∧ (rd_T49 T (i : Int)).f1 = ((size (lead 4 (Bs.low (i : Int) 8)) : Nat) : Int)
theorem row_at (i : Nat) (h : i < 256) : tab_row.f (i : Int) = some (((min (lead 4 (Bs.low (i : Int) 8) + 1) 4 : Nat) : Int), ((size (lead 4 (Bs.low (i : Int) 8)) : Nat) : Int)) := by
  have hr := PTab.row_is (Bs.low (i : Int) 8) (Bs.low_bits _ _) (Bs.low_length _ _)
  rw [Bs.number_low, show ((i : Int) % 2 ^ 8) = (i : Int) from Int.emod_eq_of_lt (by omega) (by rw [show (2 : Int) ^ 8 = 256 from by decide]; omega)] at hr
  exact hr
theorem Table_l0 : ∀ (d i : Nat) (T : List S49), d + i = 256 → T.length = i → (∀ j : Nat, j < i → (rd_T49 T (j : Int)).f0 = ((min (lead 4 (Bs.low (j : Int) 8) + 1) 4 : Nat) : Int) ∧ (rd_T49 T (j : Int)).f1 = ((size (lead 4 (Bs.low (j : Int) 8)) : Nat) : Int)) →
    ∃ T', Ev (fun k => tab_Table.l0 k T (i : Int)) T' ∧ Rows T' := by
  intro d
  induction d with
  | zero =>
    intro i T hd hl hT
    have hno : ¬ ((i : Int) < 256) := by omega
    refine ⟨T, ?_, by omega, fun j hj => hT j (by omega)⟩
    refine Ev.step (fun k => by rw [tab_Table.l0]) ?_
    simp only [if_neg hno]
    exact Ev.now _
  | succ d ih =>
    intro i T hd hl hT
    have hin : (i : Int) < 256 := by omega
    have hlim : T.length < 8796093022208 := by omega
    have hw : IntKind.u64.wrap ((i : Int) + 1) = ((i + 1 : Nat) : Int) := by rw [Ib.wrap_u64]; omega
    have hrow := row_at i (by omega)
    obtain ⟨T', hE, hR⟩ := ih (i + 1) (T ++ [⟨((min (lead 4 (Bs.low (i : Int) 8) + 1) 4 : Nat) : Int), ((size (lead 4 (Bs.low (i : Int) 8)) : Nat) : Int)⟩]) (by omega) (by rw [List.length_append, hl]; rfl) (by
      intro j hj
      unfold rd_T49
      rw [Int.toNat_natCast]
      by_cases c : j < i
      · have h := hT j c
        unfold rd_T49 at h
        rw [Int.toNat_natCast] at h
        rw [List.getD_eq_getElem?_getD, List.getElem?_append_left (by omega), ← List.getD_eq_getElem?_getD]
        exact h
      · obtain rfl : j = i := by omega
        rw [List.getD_eq_getElem?_getD, List.getElem?_append_right (by omega), hl, Nat.sub_self]
        exact ⟨rfl, rfl⟩)
    refine ⟨T', ?_, hR⟩
    refine Ev.step (fun k => by rw [tab_Table.l0]) ?_
    simp only [if_pos hin, hrow, Option.bind_some, if_pos hlim, hw]
    exact hE
theorem Table_is : ∃ T, Ev (fun k => tab_Table.f k) T ∧ Rows T := Table_l0 256 0 [] (by decide) rfl (fun j hj => absurd hj (Nat.not_lt_zero j))

theorem TabTells_j2 (b : List Int) (hb : Bs.Bytes b) (lb : b.length ≤ 500) (skip : Int) : Ev (fun k => gaiterlaw06_TabTells.j2 k b skip true false) true := by
  have hL := Bs.flat_length b
  have h8 : 8 * b.length < 140737488355328 := by omega
  obtain ⟨t, ht, ht0, ht1⟩ := tab_pick skip ((8 * b.length + 1 : Nat) : Int) (by omega)
  obtain ⟨n, rfl⟩ : ∃ n : Nat, t = (n : Int) := ⟨t.toNat, by omega⟩
  have hn : n ≤ (Bs.flat b).length := by omega
  obtain ⟨b1, u1, h1, hE1, hI1⟩ := PFill.Skip_is (PFill.New_is b hb (by omega)) (n : Int) (by omega)
  have c1 : 0 ≤ (n : Int) ∧ (n : Int) ≤ ((Bs.flat b).length : Int) := by omega
  rw [decide_eq_true c1] at hE1
  rw [if_pos c1, Int.toNat_natCast] at hI1
  obtain ⟨b2, u2, h2, hE2, hI2⟩ := PTab.Get_is hI1
  have hdl : ((Bs.flat b).drop n).length = (Bs.flat b).length - n := List.length_drop
  have hG := PDod.RGet_is ((Bs.flat b).drop n) ((Bs.flat_bits b).drop n) (by omega)
  have hcode := PDod.gspec_code ((Bs.flat b).drop n)
  have hz := PTab.gspec_zero ((Bs.flat b).drop n)
  have hleft : ∀ m : Nat, m ≤ ((Bs.flat b).drop n).length → (((((Bs.flat b).drop n).drop m).length : Nat) : Int) = wrap64 (((8 * b.length - n : Nat) : Int) - (m : Int)) := by
    intro m hm
    rw [PBits.w64 _ (by omega), List.length_drop, hdl]
    omega
  have h0 : (0 : Int) ≤ (n : Int) := Int.natCast_nonneg _
  have hle : (n : Int) ≤ ((Bs.flat b).length : Int) := c1.2
  have e8 : wrap64 (8 * (b.length : Int)) = ((8 * b.length : Nat) : Int) := by rw [PBits.w64 _ (by omega)]; omega
  have e9 : wrap64 (((8 * b.length : Nat) : Int) - (n : Int)) = ((8 * b.length - n : Nat) : Int) := by rw [PBits.w64 _ (by omega)]; omega
  have e81 : wrap64 (((8 * b.length : Nat) : Int) + 1) = ((8 * b.length + 1 : Nat) : Int) := by rw [PBits.w64 _ (by omega)]; omega
  generalize PDod.gspec ((Bs.flat b).drop n) = G at hE2 hI2 hG hcode hz
  obtain ⟨d, m', c⟩ := G
  refine Ev.step (fun k => by rw [gaiterlaw06_TabTells.j2]) ?_
  simp only [Bool.false_eq_true, if_false, e8, e81, ht, Option.bind_some, fill_New.f]
  refine Ev.bind hE1 ?_
  simp only [if_true]
  refine Ev.bind hE2 ?_
  refine Ev.bind (PBits.Flat_is b hb h8) ?_
  simp only [if_pos h0, if_pos hle, Int.toNat_natCast]
  refine Ev.bind hG ?_
  have hcc : codeNo (if c = 0 then none else some c) = c := by
    rcases hcode with h | h | h <;> simp only at h <;> subst h <;> decide
  simp only [if_true, gaiterlaw00_Code.f, Option.bind_some, PDod.gimp, hcc]
  by_cases c0 : c = 0
  · obtain ⟨m, hm, _, hm2⟩ := hz c0
    simp only at hm
    subst hm
    have hI3 := hI2 c0
    simp only [Int.toNat_natCast] at hI3
    have hLeft := PFill.Left_is hI3
    have hl := hleft m hm2
    simp only [if_pos c0, hLeft, Option.bind_some, e9, hl, beq_self_eq_true]
    exact Ev.now _
  · simp only [if_neg c0]
    exact Ev.now _

theorem mn_row (o : Nat) (ho : o ≤ 4) : mn (wrap64 ((o : Int) + 1)) 4 = ((min (o + 1) 4 : Nat) : Int) := PDod.mn_head o ho
theorem TabTells_j1 (b : List Int) (hb : Bs.Bytes b) (lb : b.length ≤ 500) (skip : Int) (T : List S49) (hT : Rows T) (i : Nat) (hi : i < 256) :
    Ev (fun k => gaiterlaw06_TabTells.j1 k b skip true T (i : Int) ((lead 4 (Bs.low (i : Int) 8) : Nat) : Int)) true := by
  have ho := PDod.lead_le 4 (Bs.low (i : Int) 8)
  have hrow := hT.2 i hi
  have h0 : (0 : Int) ≤ (i : Int) := Int.natCast_nonneg _
  have h1 : (i : Int) < (T.length : Int) := by rw [hT.1]; omega
  have hj2 := TabTells_j2 b hb lb skip
  generalize lead 4 (Bs.low (i : Int) 8) = o at ho hrow
  have hmn := mn_row o ho
  have hsz : ∀ p : Fin 5, rd ([0, 7, 9, 12, 64] : List Int) ((p.val : Nat) : Int) = ((size p.val : Nat) : Int) := by decide +kernel
  have hs := hsz ⟨o, by omega⟩
  simp only at hs
  have g0 : (0 : Int) ≤ (o : Int) := Int.natCast_nonneg _
  have g1 : (o : Int) < (([0, 7, 9, 12, 64] : List Int).length : Int) := by
    rw [show (([0, 7, 9, 12, 64] : List Int).length : Int) = 5 from rfl]
    omega
  refine Ev.step (fun k => by rw [gaiterlaw06_TabTells.j1, if_pos h0, if_pos h1, hrow.1, hrow.2, hmn, if_pos rfl, Option.bind_some, if_pos g0, if_pos g1, hs, bne_self_eq_false]) ?_
  exact hj2
theorem TabTells_l0 (b : List Int) (hb : Bs.Bytes b) (lb : b.length ≤ 500) (skip : Int) (T : List S49) (hT : Rows T) (i : Nat) (hi : i < 256) : ∀ (e j : Nat), j + e = lead 4 (Bs.low (i : Int) 8) →
    Ev (fun k => gaiterlaw06_TabTells.l0 k b skip true T (i : Int) (Bs.low (i : Int) 8) (j : Int)) true := by
  have ho := PDod.lead_le 4 (Bs.low (i : Int) 8)
  have hlen : (Bs.low (i : Int) 8).length = 8 := Bs.low_length _ _
  have hj1 := TabTells_j1 b hb lb skip T hT i hi
  have hone := PDod.lead_one 4 (Bs.low (i : Int) 8)
  have hstop := PDod.lead_stop 4 (Bs.low (i : Int) 8)
  generalize Bs.low (i : Int) 8 = B at *
  intro e
  induction e with
  | zero =>
    intro j hj
    obtain rfl : j = lead 4 B := by omega
    generalize lead 4 B = o at *
    by_cases c : (o : Int) < 4
    · have h0 : (0 : Int) ≤ (o : Int) := Int.natCast_nonneg _
      have h1' : o < B.length := by omega
      have h1 : (o : Int) < (B.length : Int) := by omega
      have hne : ¬ rd B (o : Int) = 1 := by
        rw [PBits.rd_at B o h1']
        exact hstop h1' (by omega)
      refine Ev.step (fun k => by rw [gaiterlaw06_TabTells.l0, if_pos c, if_pos h0, if_pos h1, if_neg hne]) ?_
      exact hj1
    · refine Ev.step (fun k => by rw [gaiterlaw06_TabTells.l0, if_neg c]) ?_
      exact hj1
  | succ e ih =>
    intro j hj
    have c : (j : Int) < 4 := by omega
    have h0 : (0 : Int) ≤ (j : Int) := Int.natCast_nonneg _
    have h1' : j < B.length := by omega
    have h1 : (j : Int) < (B.length : Int) := by omega
    have hb1 : rd B (j : Int) = 1 := by
      rw [PBits.rd_at B j h1']
      exact hone j h1' (by omega)
    have hih := ih (j + 1) (by omega)
    have hw := PBits.wr_succ j (by omega)
    refine Ev.step (fun k => by rw [gaiterlaw06_TabTells.l0, if_pos c, if_pos h0, if_pos h1, if_pos hb1, hw]) ?_
    exact hih
theorem TabTells : gaiterlaw06_TabTells.Pure := by
  intro i b skip _ _ _ hb _
  have hb : Bs.Bytes b := fun y h => Ib.wf_u8 (hb y h)
  refine Ev.rounds (g := fun k => gaiterlaw06_TabTells.f k i b skip) ?_
  unfold gaiterlaw06_TabTells.f
  refine Ev.bind TabTells_up ?_
  by_cases c1 : (b.length : Int) > 500
  · simp only [if_pos c1]
    exact Ev.now _
  simp only [if_neg c1]
  obtain ⟨T, hE, hT⟩ := Table_is
  have hl : (T.length : Int) = 256 := by rw [hT.1]; rfl
  obtain ⟨t, ht, ht0, ht1⟩ := tab_pick i 256 (by decide)
  obtain ⟨n, rfl⟩ : ∃ n : Nat, t = (n : Int) := ⟨t.toNat, by omega⟩
  have hn : n < 256 := by omega
  have hw : IntKind.u64.wrap (n : Int) = (n : Int) := by rw [Ib.wrap_u64]; omega
  have hlow := PBits.Low_is (n : Int) 8 (by omega) (by decide)
  rw [show (8 : Int).toNat = 8 from rfl] at hlow
  refine Ev.bind hE ?_
  simp only [if_pos hl, ht, Option.bind_some, hw]
  refine Ev.bind hlow ?_
  exact TabTells_l0 b hb (by omega) skip T hT n hn _ 0 (Nat.zero_add _)

end Go.Proofs.Ytfpcbnkipdjlhab.Pure
