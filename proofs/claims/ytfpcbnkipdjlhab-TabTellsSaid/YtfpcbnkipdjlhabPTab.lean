/- What layer 6's Get comes to, in plain words on bits: layer 5's answer on the bits that are ahead. -/
import Derived.Test.YtfpcbnkipdjlhabAllx17
import Derived.Test.YtfpcbnkipdjlhabPFill
import Derived.Test.YtfpcbnkipdjlhabPDod
namespace Go.Proofs.Ytfpcbnkipdjlhab.PTab
open Go Go.RowKit Go.Proofs.Ytfpcbnkipdjlhab Go.Proofs.Ytfpcbnkipdjlhab.All Go.Proofs.YtfpcbnkipdjlhabW.PrintWords Go.Proofs.YtfpcbnkipdjlhabW.PrintLast
open Go.Proofs.Ytfpcbnkipdjlhab.PDod (lead size gspec gimp sgn ones)
set_option linter.unusedVariables false
set_option linter.unusedSimpArgs false

theorem lead_cut : ∀ (f m : Nat) (L : List Int), f ≤ m → lead f (L.take m) = lead f L := by
  intro f
  induction f with
  | zero => intro m L h; rfl
  | succ f ih =>
    intro m L h
    obtain ⟨m, rfl⟩ : ∃ n, m = n + 1 := ⟨m - 1, by omega⟩
    cases L with
    | nil => rfl
    | cons x t =>
      rw [List.take_succ_cons]
      simp only [lead]
      rw [ih m t (by omega)]
theorem lead_zeros : ∀ (f : Nat) (L : List Int) (n : Nat), lead f (L ++ List.replicate n 0) = lead f L := by
  intro f
  induction f with
  | zero => intro L n; rfl
  | succ f ih =>
    intro L n
    cases L with
    | nil =>
      cases n with
      | zero => rfl
      | succ n =>
        rw [List.replicate_succ, List.nil_append]
        simp only [lead, show ¬ ((0 : Int) = 1) from by decide, if_false]
    | cons x t =>
      rw [List.cons_append]
      simp only [lead, ih t n]
theorem row_is (B : List Int) (hB : Bs.Bits B) (h8 : B.length = 8) : tab_row.f (Bs.number B) = some (((min (lead 4 B + 1) 4 : Nat) : Int), ((size (lead 4 B) : Nat) : Int)) := by
  have hr := Bs.number_range hB
  have hl := Bs.low_number hB
  rw [h8] at hr hl
  have hr2 : Bs.number B < 256 := hr.2
  have all : ∀ i : Fin 256, tab_row.f ((i.val : Nat) : Int) = some (((min (lead 4 (Bs.low ((i.val : Nat) : Int) 8) + 1) 4 : Nat) : Int), ((size (lead 4 (Bs.low ((i.val : Nat) : Int) 8)) : Nat) : Int)) := by decide +kernel
  have h := all ⟨(Bs.number B).toNat, by omega⟩
  simp only [Int.toNat_of_nonneg hr.1] at h
  rw [hl] at h
  exact h
theorem pk8_is (R : List Int) (hR : Bs.Bits R) : tab_row.f (PFill.pk R 8) = some (((min (lead 4 R + 1) 4 : Nat) : Int), ((size (lead 4 R) : Nat) : Int)) := by
  have e : PFill.pk R 8 = Bs.number ((R ++ List.replicate 8 0).take 8) := rfl
  rw [e, row_is _ ((hR.append (Bs.Bits.zeros 8)).take 8) (by rw [List.length_take, List.length_append, List.length_replicate]; omega), lead_cut 4 8 _ (by decide), lead_zeros]

theorem Get_is {R b : List Int} {u h : Int} (hI : PFill.Inv R b u h) :
    ∃ b' u' h', Ev (fun k => tab_Get.f k b u h) ((gimp (gspec R)).1, (gimp (gspec R)).2.2, b', u', h') ∧ ((gspec R).2.2 = 0 → PFill.Inv (R.drop (gspec R).2.1.toNat) b' u' h') := by
  have hR := hI.bits
  have hlen := hI.len
  obtain ⟨b1, u1, h1, hE1, hI1, _⟩ := PFill.Peek_is hI 8
  have hrow := pk8_is R hR
  have ho4 := PDod.lead_le 4 R
  obtain ⟨o, ho⟩ : ∃ o, o = lead 4 R := ⟨_, rfl⟩
  obtain ⟨hd, hh⟩ : ∃ hd, hd = min (o + 1) 4 := ⟨_, rfl⟩
  rw [← ho] at ho4 hrow
  have hsz := PDod.size_le o
  have hh4 : hd ≤ 4 := by omega
  have hg : gspec R = if R.length < hd + size o then (0, 0, 2)
    else if ones (sgn ((R.drop hd).take (size o))) = o then (sgn ((R.drop hd).take (size o)), ((hd + size o : Nat) : Int), 0) else (0, 0, 3) := by
    unfold gspec
    rw [← ho, ← hh]
  rw [← hh] at hrow
  obtain ⟨b2, u2, h2, hE2, hI2⟩ := PFill.Skip_is hI1 (hd : Int) (by omega)
  by_cases c1 : hd ≤ R.length
  · have c1' : 0 ≤ (hd : Int) ∧ (hd : Int) ≤ (R.length : Int) := by omega
    rw [decide_eq_true c1'] at hE2
    rw [if_pos c1', Int.toNat_natCast] at hI2
    obtain ⟨b3, u3, h3, hE3, hI3⟩ := PFill.Read_is hI2 ((size o : Nat) : Int)
    have hdl : (R.drop hd).length = R.length - hd := List.length_drop
    by_cases c2 : R.length < hd + size o
    · have hno : ((size o : Nat) : Int) < 0 ∨ ((size o : Nat) : Int) > 64 ∨ ((size o : Nat) : Int) > ((R.drop hd).length : Int) := by omega
      rw [show PFill.rdv (R.drop hd) ((size o : Nat) : Int) = (0, false) from if_pos hno] at hE3
      rw [hg, if_pos c2]
      refine ⟨b3, u3, h3, ?_, fun h => absurd h (by decide)⟩
      unfold tab_Get.f
      refine Ev.bind hE1 ?_
      simp only [hrow, Option.bind_some]
      refine Ev.bind hE2 ?_
      simp only [if_true]
      refine Ev.bind hE3 ?_
      simp only [Bool.false_eq_true, if_false]
      exact Ev.now _
    · have hyes : ¬ (((size o : Nat) : Int) < 0 ∨ ((size o : Nat) : Int) > 64 ∨ ((size o : Nat) : Int) > ((R.drop hd).length : Int)) := by omega
      rw [show PFill.rdv (R.drop hd) ((size o : Nat) : Int) = (Bs.number ((R.drop hd).take (size o)), true) from by
        unfold PFill.rdv
        rw [if_neg hyes, Int.toNat_natCast]] at hE3
      rw [show PFill.rdR (R.drop hd) ((size o : Nat) : Int) = R.drop (hd + size o) from by
        unfold PFill.rdR
        rw [if_neg hyes, Int.toNat_natCast, List.drop_drop]] at hI3
      have hM : Bs.Bits ((R.drop hd).take (size o)) := (hR.drop _).take _
      have hMl : ((R.drop hd).take (size o)).length = size o := by rw [List.length_take, hdl]; omega
      rw [hg, if_neg c2]
      have hsp := fun h0 => PDod.size_pos ho4 h0
      have hsx := fun h0 => PDod.sext_is _ hM o ho4 h0 hMl
      have hb2 : hd + size o < 140737488355328 := by omega
      have hsi := fun v e => PDod.size_inj (ones v) o (PDod.ones_le v) ho4 e
      have hlenD := fun v => PDod.dodL_length v
      rw [← hh] at hsi
      have hg0 : 0 ≤ wrap64 (64 - ((size o : Nat) : Int)) := by
        rw [PBits.w64 _ (by omega)]
        omega
      have hwn : wrap64 ((hd : Int) + ((size o : Nat) : Int)) = ((hd + size o : Nat) : Int) := by
        rw [PBits.w64 _ (by omega)]
        omega
      generalize (R.drop hd).take (size o) = M at *
      clear hb2 hh4 hlen hdl c1 c1' hyes c2
      by_cases c0 : 0 < o
      · have hne : ¬ (((size o : Nat) : Int) = 0) := fun e => Nat.ne_of_gt (hsp c0) (Int.ofNat_inj.1 e)
        by_cases e : ones (sgn M) = o
        · have e' : ((PDod.dodL (sgn M)).length : Int) = ((hd + size o : Nat) : Int) := by rw [hlenD, e, ← hh]
          rw [if_pos e]
          refine ⟨b3, u3, h3, ?_, fun _ => ?_⟩
          · unfold tab_Get.f
            refine Ev.bind hE1 ?_
            simp only [hrow, Option.bind_some]
            refine Ev.bind hE2 ?_
            simp only [if_true]
            refine Ev.bind hE3 ?_
            simp only [if_true, if_neg hne, if_pos hg0, hsx c0, hwn]
            refine Ev.bind (PDod.Code_is _) ?_
            simp only [if_pos e']
            exact Ev.now _
          · rw [Int.toNat_natCast]
            exact hI3
        · have e' : ¬ ((PDod.dodL (sgn M)).length : Int) = ((hd + size o : Nat) : Int) := fun h => e (hsi _ ((hlenD _).symm.trans (Int.ofNat_inj.1 h)))
          rw [if_neg e]
          refine ⟨b3, u3, h3, ?_, fun h => absurd h (by decide)⟩
          unfold tab_Get.f
          refine Ev.bind hE1 ?_
          simp only [hrow, Option.bind_some]
          refine Ev.bind hE2 ?_
          simp only [if_true]
          refine Ev.bind hE3 ?_
          simp only [if_true, if_neg hne, if_pos hg0, hsx c0, hwn]
          refine Ev.bind (PDod.Code_is _) ?_
          simp only [if_neg e']
          exact Ev.now _
      · obtain rfl : o = 0 := Nat.eq_zero_of_not_pos c0
        have hM0 : M = [] := List.eq_nil_of_length_eq_zero hMl
        subst hM0
        have e : ones (sgn []) = 0 := by decide
        rw [if_pos e]
        refine ⟨b3, u3, h3, ?_, fun _ => ?_⟩
        · have hz : ((size 0 : Nat) : Int) = 0 := rfl
          have hz2 : sgn [] = 0 := by decide +kernel
          unfold tab_Get.f
          refine Ev.bind hE1 ?_
          simp only [hrow, Option.bind_some]
          refine Ev.bind hE2 ?_
          simp only [if_true]
          refine Ev.bind hE3 ?_
          simp only [if_true, if_pos hz]
          rw [hz2]
          exact Ev.now _
        · rw [Int.toNat_natCast]
          exact hI3
  · have c1' : ¬ (0 ≤ (hd : Int) ∧ (hd : Int) ≤ (R.length : Int)) := by omega
    rw [decide_eq_false c1'] at hE2
    rw [hg, if_pos (by omega)]
    refine ⟨b2, u2, h2, ?_, fun h => absurd h (by decide)⟩
    unfold tab_Get.f
    refine Ev.bind hE1 ?_
    simp only [hrow, Option.bind_some]
    refine Ev.bind hE2 ?_
    simp only [Bool.false_eq_true, if_false]
    exact Ev.now _

theorem gspec_zero (R : List Int) (h : (gspec R).2.2 = 0) : ∃ m : Nat, (gspec R).2.1 = (m : Int) ∧ 1 ≤ m ∧ m ≤ R.length := by
  unfold gspec at h ⊢
  by_cases c : R.length < min (lead 4 R + 1) 4 + size (lead 4 R)
  · rw [if_pos c] at h
    exact absurd h (by decide)
  rw [if_neg c] at h ⊢
  by_cases e : ones (sgn ((R.drop (min (lead 4 R + 1) 4)).take (size (lead 4 R)))) = lead 4 R
  · rw [if_pos e]
    exact ⟨_, rfl, by omega, by omega⟩
  · rw [if_neg e] at h
    exact absurd h (by decide)

end Go.Proofs.Ytfpcbnkipdjlhab.PTab
