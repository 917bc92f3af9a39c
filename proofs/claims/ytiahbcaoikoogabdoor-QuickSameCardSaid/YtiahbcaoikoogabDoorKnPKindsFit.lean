-- copied by a program of the session
import Derived.Test.YtiahbcaoikoogabDoorKnAllx25
import Derived.Test.YtiahbcaoikoogabDoorKnPDod
import Derived.Test.YtiahbcaoikoogabDoorKnAllx18
import Derived.Test.YtiahbcaoikoogabDoorKnAllx12
section
namespace Go.Proofs.YtiahbcaoikoogabDoor.PTab
open Go Go.RowKit Go.Proofs.YtiahbcaoikoogabDoor Go.Proofs.YtiahbcaoikoogabDoor.All Go.Proofs.YtiahbcaoikoogabDoorW.PrintWords Go.Proofs.YtiahbcaoikoogabDoorW.PrintLast
open Go.Proofs.YtiahbcaoikoogabDoor.PDod (lead size A3q gimp sgn ones)
set_option linter.unusedVariables false
set_option linter.unusedSimpArgs false
theorem lead_cut : ∀ (f m : Nat) (L : List Int), f ≤ m → lead f (L.take m) = lead f L := by
 intro f
 induction f with
 | zero => intro m L h; rfl
 | succ f ih =>
  intro m L h
  obtain ⟨m, rfl⟩ : ∃ n, m = n + 1 := ⟨m - 1, by omega⟩
  cases L with
  | nil => rfl
  | cons x t =>
   rw [List.take_succ_cons]
   simp only [lead]
   rw [ih m t (by omega)]
theorem lead_zeros : ∀ (f : Nat) (L : List Int) (n : Nat), lead f (L ++ List.replicate n 0) = lead f L := by
 intro f
 induction f with
 | zero => intro L n; rfl
 | succ f ih =>
  intro L n
  cases L with
  | nil =>
   cases n with
   | zero => rfl
   | succ n =>
    rw [List.replicate_succ, List.nil_append]
    simp only [lead, show ¬ ((0 : Int) = 1) from by decide, if_false]
  | cons x t =>
   rw [List.cons_append]
   simp only [lead, ih t n]
theorem row_is (B : List Int) (hB : Bs.Bits B) (h8 : B.length = 8) : tab_row.f (Bs.number B) = some (((min (lead 4 B + 1) 4 : Nat) : Int), ((size (lead 4 B) : Nat) : Int)) := by
 have hr := Bs.A3c hB
 have hl := Bs.low_number hB
 rw [h8] at hr hl
 have hr2 : Bs.number B < 256 := hr.2
 have all : ∀ i : Fin 256, tab_row.f ((i.val : Nat) : Int) = some (((min (lead 4 (Bs.low ((i.val : Nat) : Int) 8) + 1) 4 : Nat) : Int), ((size (lead 4 (Bs.low ((i.val : Nat) : Int) 8)) : Nat) : Int)) := by decide +kernel
 have h := all ⟨(Bs.number B).toNat, by omega⟩
 simp only [Int.toNat_of_nonneg hr.1] at h
 rw [hl] at h
 exact h
theorem pk8_is (R : List Int) (hR : Bs.Bits R) : tab_row.f (PFill.pk R 8) = some (((min (lead 4 R + 1) 4 : Nat) : Int), ((size (lead 4 R) : Nat) : Int)) := by
 have e : PFill.pk R 8 = Bs.number ((R ++ List.replicate 8 0).take 8) := rfl
 rw [e, row_is _ ((hR.append (Bs.Bits.zeros 8)).take 8) (by rw [List.length_take, List.length_append, List.length_replicate]; omega), lead_cut 4 8 _ (by decide), lead_zeros]
theorem Get_is {R b : List Int} {u h : Int} (hI : PFill.Inv R b u h) :
    ∃ b' u' h', Ev (fun k => A11.f k b u h) ((gimp (A3q R)).1, (gimp (A3q R)).2.2, b', u', h') ∧ ((A3q R).2.2 = 0 → PFill.Inv (R.drop (A3q R).2.1.toNat) b' u' h') := by
  have hR := hI.bits
  have hlen := hI.len
  obtain ⟨b1, u1, h1, hE1, hI1, _⟩ := PFill.Peek_is hI 8
  have hrow := pk8_is R hR
  have ho4 := PDod.lead_le 4 R
  obtain ⟨o, ho⟩ : ∃ o, o = lead 4 R := ⟨_, rfl⟩
  obtain ⟨hd, hh⟩ : ∃ hd, hd = min (o + 1) 4 := ⟨_, rfl⟩
  rw [← ho] at ho4 hrow
  have hsz := PDod.size_le o
  have hh4 : hd ≤ 4 := by omega
  have hg : A3q R = if R.length < hd + size o then (0, 0, 2)
    else if ones (sgn ((R.drop hd).take (size o))) = o then (sgn ((R.drop hd).take (size o)), ((hd + size o : Nat) : Int), 0) else (0, 0, 3) := by
    unfold A3q
    rw [← ho, ← hh]
  rw [← hh] at hrow
  obtain ⟨b2, u2, h2, hE2, hI2⟩ := PFill.Skip_is hI1 (hd : Int) (by omega)
  by_cases c1 : hd ≤ R.length
  · have c1' : 0 ≤ (hd : Int) ∧ (hd : Int) ≤ (R.length : Int) := by omega
    rw [decide_eq_true c1'] at hE2
    rw [if_pos c1', Int.toNat_natCast] at hI2
    obtain ⟨b3, u3, h3, hE3, hI3⟩ := PFill.Read_is hI2 ((size o : Nat) : Int)
    have hdl : (R.drop hd).length = R.length - hd := List.length_drop
    by_cases c2 : R.length < hd + size o
    · have hno : ((size o : Nat) : Int) < 0 ∨ ((size o : Nat) : Int) > 64 ∨ ((size o : Nat) : Int) > ((R.drop hd).length : Int) := by omega
      rw [show PFill.rdv (R.drop hd) ((size o : Nat) : Int) = (0, false) from if_pos hno] at hE3
      rw [hg, if_pos c2]
      refine ⟨b3, u3, h3, ?_, fun h => absurd h (by decide)⟩
      unfold A11.f
      refine Ev.bind hE1 ?_
      simp only [hrow, Option.bind_some]
      refine Ev.bind hE2 ?_
      simp only [if_true]
      refine Ev.bind hE3 ?_
      simp only [Bool.false_eq_true, if_false]
      exact Ev.now _
    · have hyes : ¬ (((size o : Nat) : Int) < 0 ∨ ((size o : Nat) : Int) > 64 ∨ ((size o : Nat) : Int) > ((R.drop hd).length : Int)) := by omega
      rw [show PFill.rdv (R.drop hd) ((size o : Nat) : Int) = (Bs.number ((R.drop hd).take (size o)), true) from by
        unfold PFill.rdv
        rw [if_neg hyes, Int.toNat_natCast]] at hE3
      rw [show PFill.rdR (R.drop hd) ((size o : Nat) : Int) = R.drop (hd + size o) from by
        unfold PFill.rdR
        rw [if_neg hyes, Int.toNat_natCast, List.drop_drop]] at hI3
      have hM : Bs.Bits ((R.drop hd).take (size o)) := (hR.drop _).take _
      have hMl : ((R.drop hd).take (size o)).length = size o := by rw [List.length_take, hdl]; omega
      rw [hg, if_neg c2]
      have hsp := fun h0 => PDod.size_pos ho4 h0
      have hsx := fun h0 => PDod.sext_is _ hM o ho4 h0 hMl
      have hb2 : hd + size o < 140737488355328 := by omega
      have hsi := fun v e => PDod.size_inj (ones v) o (PDod.ones_le v) ho4 e
      have hlenD := fun v => PDod.dodL_length v
      rw [← hh] at hsi
      have hg0 : 0 ≤ wrap64 (64 - ((size o : Nat) : Int)) := by
        rw [PBits.w64 _ (by omega)]
        omega
      have hwn : wrap64 ((hd : Int) + ((size o : Nat) : Int)) = ((hd + size o : Nat) : Int) := by
        rw [PBits.w64 _ (by omega)]
        omega
      generalize (R.drop hd).take (size o) = M at *
      clear hb2 hh4 hlen hdl c1 c1' hyes c2
      by_cases c0 : 0 < o
      · have hne : ¬ (((size o : Nat) : Int) = 0) := fun e => Nat.ne_of_gt (hsp c0) (Int.ofNat_inj.1 e)
        by_cases e : ones (sgn M) = o
        · have e' : ((PDod.dodL (sgn M)).length : Int) = ((hd + size o : Nat) : Int) := by rw [hlenD, e, ← hh]
          rw [if_pos e]
          refine ⟨b3, u3, h3, ?_, fun _ => ?_⟩
          · unfold A11.f
            refine Ev.bind hE1 ?_
            simp only [hrow, Option.bind_some]
            refine Ev.bind hE2 ?_
            simp only [if_true]
            refine Ev.bind hE3 ?_
            simp only [if_true, if_neg hne, if_pos hg0, hsx c0, hwn]
            refine Ev.bind (PDod.Code_is _) ?_
            simp only [if_pos e']
            exact Ev.now _
          · rw [Int.toNat_natCast]
            exact hI3
        · have e' : ¬ ((PDod.dodL (sgn M)).length : Int) = ((hd + size o : Nat) : Int) := fun h => e (hsi _ ((hlenD _).symm.trans (Int.ofNat_inj.1 h)))
          rw [if_neg e]
          refine ⟨b3, u3, h3, ?_, fun h => absurd h (by decide)⟩
          unfold A11.f
          refine Ev.bind hE1 ?_
          simp only [hrow, Option.bind_some]
          refine Ev.bind hE2 ?_
          simp only [if_true]
          refine Ev.bind hE3 ?_
          simp only [if_true, if_neg hne, if_pos hg0, hsx c0, hwn]
          refine Ev.bind (PDod.Code_is _) ?_
          simp only [if_neg e']
          exact Ev.now _
      · obtain rfl : o = 0 := Nat.eq_zero_of_not_pos c0
        have hM0 : M = [] := List.eq_nil_of_length_eq_zero hMl
        subst hM0
        have e : ones (sgn []) = 0 := by decide
        rw [if_pos e]
        refine ⟨b3, u3, h3, ?_, fun _ => ?_⟩
        · have hz : ((size 0 : Nat) : Int) = 0 := rfl
          have hz2 : sgn [] = 0 := by decide +kernel
          unfold A11.f
          refine Ev.bind hE1 ?_
          simp only [hrow, Option.bind_some]
          refine Ev.bind hE2 ?_
          simp only [if_true]
          refine Ev.bind hE3 ?_
          simp only [if_true, if_pos hz]
          rw [hz2]
          exact Ev.now _
        · rw [Int.toNat_natCast]
          exact hI3
  · have c1' : ¬ (0 ≤ (hd : Int) ∧ (hd : Int) ≤ (R.length : Int)) := by omega
    rw [decide_eq_false c1'] at hE2
    rw [hg, if_pos (by omega)]
    refine ⟨b2, u2, h2, ?_, fun h => absurd h (by decide)⟩
    unfold A11.f
    refine Ev.bind hE1 ?_
    simp only [hrow, Option.bind_some]
    refine Ev.bind hE2 ?_
    simp only [Bool.false_eq_true, if_false]
    exact Ev.now _
end Go.Proofs.YtiahbcaoikoogabDoor.PTab
end
section
namespace Go.Proofs.YtiahbcaoikoogabDoor.PKinds
open Go Go.RowKit Go.Proofs.YtiahbcaoikoogabDoor Go.Proofs.YtiahbcaoikoogabDoor.All Go.Proofs.YtiahbcaoikoogabDoorW.PrintWords Go.Proofs.YtiahbcaoikoogabDoorW.PrintLast
set_option linter.unusedVariables false
set_option linter.unusedSimpArgs false
abbrev S8 := Int × Int × Int × Int × Int × Int × Int × Int
def aft (kind n t d v e xp xl xn T V ap al an : Int) : S8 :=
 (wrap64 (n + 1), T, if n > 0 then wrap64 (T - t) else 0, V, if kind = 1 then 0 else if n > 0 then IntKind.u64.wrap (V - v) else 0,
  if kind = 1 then (if n = 0 then V else ap) else 0, if kind = 1 then (if n = 0 then 0 else al) else 0, if kind = 1 then (if n = 0 then 0 else an) else 0)
theorem After_is (kind n t d v e xp xl xn T V ap al an : Int) (hn : 0 ≤ n) : Ev (fun k => A0s.f k kind n t d v e xp xl xn T V ap al an) (aft kind n t d v e xp xl xn T V ap al an) := by
 unfold A0s.f aft
 by_cases c : n > 0
 ·have c0 : ¬ n = 0 := by omega
  have cb : (n == 0) = false := beq_eq_false_iff_ne.mpr c0
  simp only [if_pos c, if_neg c0]
  by_cases c1 : kind = 1
  ·simp only [if_pos c1]
   exact Ev.step (fun k => by rw [A0s.j0, if_pos c1, cb]) (Ev.step (fun k => by rw [A0s.j1, if_neg Bool.false_ne_true, if_pos c1]) (Ev.now _))
  ·simp only [if_neg c1]
   exact Ev.step (fun k => by rw [A0s.j0, if_neg c1]) (Ev.step (fun k => by rw [A0s.j1, if_neg Bool.false_ne_true, if_neg c1, if_pos c]) (Ev.now _))
 ·have c0 : n = 0 := by omega
  have cb : (n == 0) = true := beq_iff_eq.mpr c0
  simp only [if_neg c, if_pos c0]
  by_cases c1 : kind = 1
  ·simp only [if_pos c1]
   exact Ev.step (fun k => by rw [A0s.j0, if_pos c1, cb]) (Ev.step (fun k => by rw [A0s.j1, if_pos rfl]) (Ev.now _))
  ·simp only [if_neg c1]
   exact Ev.step (fun k => by rw [A0s.j0, if_neg c1]) (Ev.step (fun k => by rw [A0s.j1, if_neg Bool.false_ne_true, if_neg c1, if_neg c]) (Ev.now _))
end Go.Proofs.YtiahbcaoikoogabDoor.PKinds
end
section
namespace Go.Proofs.YtiahbcaoikoogabDoor.PBits
open Go Go.RowKit Go.Proofs.YtiahbcaoikoogabDoor Go.Proofs.YtiahbcaoikoogabDoor.All Go.Proofs.YtiahbcaoikoogabDoorW.PrintWords Go.Proofs.YtiahbcaoikoogabDoorW.PrintLast
set_option linter.unusedVariables false
set_option linter.unusedSimpArgs false
theorem join_byte {l : List Int} (hb : Bs.Bits l) (h : l.length % 8 ≠ 0) (c : Int) (hc : 0 ≤ c ∧ c < 256) :
    (Bs.pack l).set (l.length / 8) (Go.bits .or .u8 (rd (Bs.pack l) ((l.length / 8 : Nat) : Int)) (shr .u8 c ((l.length % 8 : Nat) : Int))) ++ [shl .u8 c ((8 - l.length % 8 : Nat) : Int)] = Bs.pack (l ++ Bs.low c 8) := by
  have hp := Bs.A3a l
  have hlt : l.length / 8 < (Bs.pack l).length := by omega
  have hby := Bs.pack_bytes hb _ (List.getElem_mem hlt)
  obtain ⟨t, ht⟩ := Bs.pack_last h
  have hg : (Bs.pack l).getD (l.length / 8) 0 = (Bs.pack l)[l.length / 8] := by simp [List.getD_eq_getElem?_getD, hlt]
  have hrd : rd (Bs.pack l) ((l.length / 8 : Nat) : Int) = t * 2 ^ (8 - l.length % 8) := by rw [rd_at _ _ hlt, ← hg, ht]
  rw [← hg, ht] at hby
  rw [Bs.pack_byte h c hc, hrd, ht]
  have hr : l.length % 8 < 8 := Nat.mod_lt _ (by decide)
  generalize l.length % 8 = r at h hby hr ⊢
  rw [shr_u8 _ _ (by omega), shl_u8 _ _ (by omega), or_u8_sum t _ _ (by omega) hby]
  have h3 := Bs.pow_pos r
  refine ⟨Int.ediv_nonneg hc.1 (Int.le_of_lt h3), Int.ediv_lt_of_lt_mul h3 ?_⟩
  rw [← Int.pow_add, show 8 - r + r = 8 from by omega]
  exact hc.2
theorem Join_l0 (l m : List Int) (hl : Bs.Bits l) (hm : Bs.Bits m) (h8 : l.length % 8 ≠ 0) (hlen : l.length + m.length + 16 < 140737488355328) : ∀ (d i : Nat), i + d = (Bs.pack m).length →
    Ev (fun k => A1c.l0 k ((l.length % 8 : Nat) : Int) (Bs.pack m) ((Bs.pack m).length : Int) (i : Int) (Bs.pack (l ++ Bs.flat ((Bs.pack m).take i))) (l.length : Int) (Bs.pack m) (m.length : Int)) (Bs.pack (l ++ m), ((l.length + m.length : Nat) : Int)) := by
  have hpm := Bs.A3a m
  have hBm := Bs.pack_bytes hm
  intro d
  induction d with
  | zero =>
    intro i hi
    refine Ev.step (fun k => ?_) (Ev.now _)
    simp only [A1c.l0]
    have hz := Bs.pack_zeros (hl.append hm) (8 * ((m.length + 7) / 8) - m.length)
    rw [List.append_assoc, ← Bs.flat_pack hm] at hz
    have hpl := Bs.A3a (l ++ Bs.flat (Bs.pack m))
    rw [List.length_append, Bs.A2k] at hpl
    rw [List.length_append] at hz
    have hno : ¬ ((i : Int) < ((Bs.pack m).length : Int)) := by omega
    have hle : (((l.length + m.length + 7) / 8 : Nat) : Int) ≤ ((Bs.pack (l ++ Bs.flat (Bs.pack m))).length : Int) := by omega
    have htot : l.length + m.length < 140737488355328 := by omega
    have hfull : (Bs.pack m).length ≤ i := by omega
    have hw1 := wr_add l.length m.length htot
    have hw2 := wr_bytes (l.length + m.length) htot
    rw [if_neg hno, List.take_of_length_le hfull, hw1, hw2, if_pos (Int.natCast_nonneg _), if_pos hle, Int.toNat_natCast, hz]
  | succ d ih =>
    intro i hi
    have hlt : i < (Bs.pack m).length := by omega
    have hti : ((Bs.pack m).take i).length = i := by rw [List.length_take]; omega
    have hcl : (l ++ Bs.flat ((Bs.pack m).take i)).length = l.length + 8 * i := by rw [List.length_append, Bs.A2k, hti]
    have hpl := Bs.A3a (l ++ Bs.flat ((Bs.pack m).take i))
    have hcb : Bs.Bits (l ++ Bs.flat ((Bs.pack m).take i)) := hl.append (Bs.flat_bits _)
    have hin : (i : Int) < ((Bs.pack m).length : Int) := by omega
    have hr8 : l.length % 8 = (l ++ Bs.flat ((Bs.pack m).take i)).length % 8 := by omega
    have hpi : (((l ++ Bs.flat ((Bs.pack m).take i)).length / 8 : Nat) : Int) < ((Bs.pack (l ++ Bs.flat ((Bs.pack m).take i))).length : Int) := by omega
    have hps : (Bs.pack (l ++ Bs.flat ((Bs.pack m).take i))).length < 140737488355328 := by omega
    have hp0 : 0 < (Bs.pack (l ++ Bs.flat ((Bs.pack m).take i))).length := by omega
    have hpe : (Bs.pack (l ++ Bs.flat ((Bs.pack m).take i))).length - 1 = (l ++ Bs.flat ((Bs.pack m).take i)).length / 8 := by omega
    have hi47 : i < 140737488355328 := by omega
    have hcr : (l ++ Bs.flat ((Bs.pack m).take i)).length % 8 ≠ 0 := by omega
    have hid : i + 1 + d = (Bs.pack m).length := by omega
    have hw1 := wr_succ i hi47
    have hw2 := wr_eight (l.length % 8) (Nat.le_of_lt (Nat.mod_lt _ (by decide)))
    have hw3 := wr_pred' _ hp0 hps
    rw [hpe] at hw3
    have hc := hBm _ (List.getElem_mem hlt)
    have := ih (i + 1) hid
    rw [List.take_add_one, List.getElem?_eq_getElem hlt, Option.toList_some, Bs.flat_append, show Bs.flat [(Bs.pack m)[i]] = Bs.low (Bs.pack m)[i] 8 from by simp [Bs.flat], ← List.append_assoc] at this
    rw [← join_byte hcb hcr _ hc] at this
    refine Ev.step (fun k => ?_) this
    simp only [A1c.l0]
    rw [if_pos hin, if_pos (Int.natCast_nonneg _), if_pos hin, hw3, if_pos (Int.natCast_nonneg _), if_pos hpi, if_pos (Int.natCast_nonneg _)]
    simp only [Option.bind_some]
    rw [hw2, if_pos (Int.natCast_nonneg _), List.length_set, if_pos hps, rd_at _ _ hlt, hw1, Int.toNat_natCast, hr8]
theorem Join_is (l m : List Int) (hl : Bs.Bits l) (hm : Bs.Bits m) (hlen : l.length + m.length + 16 < 140737488355328) :
    Ev (fun k => A1c.f k (Bs.pack l) (l.length : Int) (Bs.pack m) (m.length : Int)) (Bs.pack (l ++ m), ((l.length + m.length : Nat) : Int)) := by
  have hpl := Bs.A3a l
  have hpm := Bs.A3a m
  have hsm : (Bs.pack l).length + (Bs.pack m).length < 140737488355328 := by omega
  have hsl : (Bs.pack l).length < 140737488355328 := by omega
  have htot : l.length + m.length < 140737488355328 := by omega
  have hz1 : l.length % 8 = 0 → ((l.length % 8 : Nat) : Int) = 0 := by omega
  have hz2 : l.length % 8 ≠ 0 → ¬ ((l.length % 8 : Nat) : Int) = 0 := by omega
  have ht1 := tmod8 l.length
  have hw1 := wr_add l.length m.length htot
  unfold A1c.f A10.f A2j.f
  rw [ht1]
  by_cases h8 : l.length % 8 = 0
  · refine Ev.congr (fun k => ?_) (Ev.now _)
    have hs : sumTo [Bs.pack l, Bs.pack m] [Bs.pack l, Bs.pack m].length = (Bs.pack l).length + (Bs.pack m).length := by simp [sumTo]
    rw [if_pos (hz1 h8), hs, if_pos hsm]
    simp only [Option.bind_some, List.flatten_cons, List.flatten_nil, List.append_nil]
    rw [hw1, Bs.pack_mod8 h8]
  · refine Ev.congr (fun k => ?_) (Join_l0 l m hl hm h8 hlen (Bs.pack m).length 0 (Nat.zero_add _))
    rw [if_neg (hz2 h8), if_pos hsl]
    simp only [Option.bind_some, List.take_zero, Bs.flat_nil, List.append_nil]
    rfl
end Go.Proofs.YtiahbcaoikoogabDoor.PBits
end
section
namespace Go.Proofs.YtiahbcaoikoogabDoor.PKinds
open Go Go.RowKit Go.Proofs.YtiahbcaoikoogabDoor Go.Proofs.YtiahbcaoikoogabDoor.All Go.Proofs.YtiahbcaoikoogabDoorW.PrintWords Go.Proofs.YtiahbcaoikoogabDoorW.PrintLast
set_option linter.unusedVariables false
set_option linter.unusedSimpArgs false
def z8 : S8 := (0, 0, 0, 0, 0, 0, 0, 0)
def dt (t d T : Int) : Int := wrap64 (wrap64 (T - t) - d)
def dv (v e V : Int) : Int := wrap64 (IntKind.u64.wrap (IntKind.u64.wrap (V - v) - e))
abbrev dx (V xp : Int) : Int := Go.bits .xor .u64 V xp
def kp (kind n t d v e xp : Int) (xl xn : Nat) (T V : Int) : List Int × S8 × Int :=
 if ¬ (kind = 1 ∨ kind = 2) then ([], z8, 6)
 else if n = 0 then (Bs.low (IntKind.u64.wrap T) 64 ++ Bs.low V 64, aft kind n t d v e xp xl xn T V 0 0 0, 0)
 else if T ≤ t then ([], z8, 4)
 else if kind = 2 then (PDod.dodL (dt t d T) ++ PDod.dodL (dv v e V), aft kind n t d v e xp xl xn T V 0 0 0, 0)
 else (PDod.dodL (dt t d T) ++ PXor.cb xl xn (dx V xp), aft kind n t d v e xp xl xn T V V (PXor.cl xl xn (dx V xp)) (PXor.cn xl xn (dx V xp)), 0)
def pimp (r : List Int × S8 × Int) : List Int × Int × Int × Int × Int × Int × Int × Int × Int × Int × Option Int :=
 (Bs.pack r.1, (r.1.length : Int), r.2.1.1, r.2.1.2.1, r.2.1.2.2.1, r.2.1.2.2.2.1, r.2.1.2.2.2.2.1, r.2.1.2.2.2.2.2.1, r.2.1.2.2.2.2.2.2.1, r.2.1.2.2.2.2.2.2.2, if r.2.2 = 0 then none else some r.2.2)
theorem pimp_none (c : Int) : pimp ([], z8, c) = (([] : List Int), 0, 0, 0, 0, 0, 0, 0, 0, 0, if c = 0 then none else some c) := by
 simp only [pimp, z8, Bs.A30, List.length_nil]
 rfl
theorem known_is (kind : Int) : A2z.f kind = some (decide (kind = 1 ∨ kind = 2)) := by
 unfold A2z.f
 by_cases c1 : kind = 1
 ·rw [if_pos c1, decide_eq_true (.inl c1)]
 ·rw [if_neg c1]
  by_cases c2 : kind = 2
  ·rw [beq_iff_eq.mpr c2, decide_eq_true (.inr c2)]
  ·rw [beq_eq_false_iff_ne.mpr c2, decide_eq_false (fun h => h.elim c1 c2)]
theorem dodL_len (v : Int) : (PDod.dodL v).length ≤ 68 := by
 have h1 := PDod.dodL_length v
 have h2 := PDod.size_le (PDod.ones v)
 omega
theorem jn (l m : List Int) (hl : Bs.Bits l) (hm : Bs.Bits m) (h : l.length + m.length ≤ 1000) : Ev (fun k => A1c.f k (Bs.pack l) (l.length : Int) (Bs.pack m) (m.length : Int)) (Bs.pack (l ++ m), ((l ++ m).length : Int)) := by
 have := PBits.Join_is l m hl hm (by omega)
 rw [← List.length_append] at this
 exact this
theorem u64_range (T : Int) : 0 ≤ IntKind.u64.wrap T ∧ IntKind.u64.wrap T < 18446744073709551616 := by rw [Ib.wrap_u64]; omega
theorem Put_is (kind n t d v e xp : Int) (xl xn : Nat) (T V : Int) (hn : 0 ≤ n) (hV : 0 ≤ V ∧ V < 18446744073709551616) (hp : 0 ≤ xp ∧ xp < 18446744073709551616) (hx : xl + xn ≤ 64) :
    Ev (fun k => A1z.f k kind n t d v e xp (xl : Int) (xn : Int) T V) (pimp (kp kind n t d v e xp xl xn T V)) := by
  unfold A1z.f kp
  rw [known_is]
  simp only [Option.bind_some]
  by_cases c1 : kind = 1 ∨ kind = 2
  · have c1n : ¬ ¬ (kind = 1 ∨ kind = 2) := fun h => h c1
    rw [decide_eq_true c1, if_neg c1n]
    simp only [if_true]
    by_cases c2 : n = 0
    · have e1 := PXor.putk0 (IntKind.u64.wrap T) (u64_range T) 64 (Nat.le_refl _) (n := 64) rfl
      have e2 := PXor.putk (Bs.low (IntKind.u64.wrap T) 64) (Bs.A3z _ _) (by rw [Bs.A1o]; decide) V hV 64 (Nat.le_refl _) (n := 64) rfl
      have e3 := After_is kind n t d v e xp xl xn T V 0 0 0 hn
      simp only [if_pos c2]
      refine Ev.bind e1 (Ev.bind e2 (Ev.bind e3 ?_))
      exact Ev.now _
    simp only [if_neg c2]
    by_cases c3 : T ≤ t
    · simp only [if_pos c3]
      rw [pimp_none]
      exact Ev.now _
    simp only [if_neg c3]
    have e1 := PDod.Code_is (dt t d T)
    have b1 := PDod.dodL_bits (dt t d T)
    have n1 := dodL_len (dt t d T)
    refine Ev.bind e1 ?_
    by_cases c4 : kind = 2
    · have e2 := PDod.Code_is (dv v e V)
      have e3 := jn _ _ b1 (PDod.dodL_bits (dv v e V)) (by have := dodL_len (dv v e V); omega)
      have e4 := After_is kind n t d v e xp xl xn T V 0 0 0 hn
      simp only [if_pos c4]
      refine Ev.bind e2 (Ev.bind e3 (Ev.bind e4 ?_))
      exact Ev.now _
    · have e2 := PXor.Code_is xp V xl xn hp hV hx (d := dx V xp) rfl
      have hr := PXor.xor_range V xp hV hp
      have hc := PXor.cb_short xl xn (dx V xp) hx hr.1 hr.2
      have e3 := jn _ _ b1 (PXor.cb_bits xl xn (dx V xp)) (by omega)
      have e4 := After_is kind n t d v e xp xl xn T V V (PXor.cl xl xn (dx V xp)) (PXor.cn xl xn (dx V xp)) hn
      simp only [if_neg c4]
      refine Ev.bind e2 (Ev.bind e3 (Ev.bind e4 ?_))
      exact Ev.now _
  · rw [decide_eq_false c1, if_pos c1, pimp_none]
    exact Ev.congr (fun k => if_neg Bool.false_ne_true) (Ev.now _)
abbrev O := Int × Int × S8 × Int × Int
def bad (c : Int) : O := (0, 0, z8, 0, c)
def kv (kind v e xp : Int) (xl xn : Nat) (R : List Int) : Int × Int × Int × Int × Int × Int :=
 if kind = 2 then (IntKind.u64.wrap (IntKind.u64.wrap (v + e) + IntKind.u64.wrap (PDod.A3q R).1), 0, 0, 0, (PDod.A3q R).2.1, (PDod.A3q R).2.2)
 else PXor.xg xp xl xn R
def fin (kind n t d v e xp : Int) (xl xn : Nat) (T m : Int) (W : Int × Int × Int × Int × Int × Int) : O :=
 if ¬ W.2.2.2.2.2 = 0 then bad W.2.2.2.2.2
 else if T ≤ t then bad 4
 else (T, W.1, aft kind n t d v e xp xl xn T W.1 W.2.1 W.2.2.1 W.2.2.2.1, wrap64 (m + W.2.2.2.2.1), 0)
def kg (kind n t d v e xp : Int) (xl xn : Nat) (R : List Int) : O :=
 if ¬ (kind = 1 ∨ kind = 2) then bad 6
 else if n = 0 then (if R.length < 128 then bad 2 else (wrap64 (Bs.number (R.take 64)), Bs.number ((R.drop 64).take 64), aft kind n t d v e xp xl xn (wrap64 (Bs.number (R.take 64))) (Bs.number ((R.drop 64).take 64)) 0 0 0, 128, 0))
 else if ¬ (PDod.A3q R).2.2 = 0 then bad (PDod.A3q R).2.2
 else fin kind n t d v e xp xl xn (wrap64 (wrap64 (t + d) + (PDod.A3q R).1)) (PDod.A3q R).2.1 (kv kind v e xp xl xn (R.drop (PDod.A3q R).2.1.toNat))
def gimp8 (r : O) : Int × Int × Int × Int × Int × Int × Int × Int × Int × Int × Int × Option Int :=
 (r.1, r.2.1, r.2.2.1.1, r.2.2.1.2.1, r.2.2.1.2.2.1, r.2.2.1.2.2.2.1, r.2.2.1.2.2.2.2.1, r.2.2.1.2.2.2.2.2.1, r.2.2.1.2.2.2.2.2.2.1, r.2.2.1.2.2.2.2.2.2.2, r.2.2.2.1, if r.2.2.2.2 = 0 then none else some r.2.2.2.2)
theorem gspec_fit (R : List Int) (hR : Bs.Bits R) (h : (PDod.A3q R).2.2 = 0) : ∃ m : Nat, (PDod.A3q R).2.1 = (m : Int) ∧ m ≤ R.length ∧ 1 ≤ R.length := by
 unfold PDod.A3q at h ⊢
 by_cases c : R.length < min (PDod.lead 4 R + 1) 4 + PDod.size (PDod.lead 4 R)
 ·rw [if_pos c] at h
  exact absurd h (by decide)
 rw [if_neg c] at h ⊢
 by_cases e : PDod.ones (PDod.sgn ((R.drop (min (PDod.lead 4 R + 1) 4)).take (PDod.size (PDod.lead 4 R)))) = PDod.lead 4 R
 ·rw [if_pos e]
  exact ⟨_, rfl, Nat.le_of_not_lt c, by omega⟩
 ·rw [if_neg e] at h
  exact absurd h (by decide)
theorem Fin_is (kind n t d v e xp : Int) (xl xn : Nat) (hn : n > 0) (T m : Int) (W : Int × Int × Int × Int × Int × Int) :
    Ev (fun k => A12.j0 k kind (wrap64 (m + W.2.2.2.2.1)) (if W.2.2.2.2.2 = 0 then none else some W.2.2.2.2.2) n t d v e xp (xl : Int) (xn : Int) T W.1 W.2.1 W.2.2.1 W.2.2.2.1) (gimp8 (fin kind n t d v e xp xl xn T m W)) := by
  unfold fin
  by_cases c1 : W.2.2.2.2.2 = 0
  · have c1n : ¬ ¬ W.2.2.2.2.2 = 0 := fun h => h c1
    rw [if_neg c1n, if_pos c1]
    by_cases c2 : T ≤ t
    · rw [if_pos c2]
      exact Ev.step (fun k => by rw [A12.j0, if_pos (show (none : Option Int).isNone = true from rfl), if_pos hn, if_pos c2]; rfl) (Ev.now (gimp8 (bad 4)))
    · rw [if_neg c2]
      refine Ev.step (fun k => by rw [A12.j0, if_pos (show (none : Option Int).isNone = true from rfl), if_pos hn, if_neg c2]) (Ev.bind (After_is kind n t d v e xp xl xn T W.1 W.2.1 W.2.2.1 W.2.2.2.1 (by omega)) ?_)
      exact Ev.now _
  · rw [if_pos c1, if_neg c1]
    refine Ev.step (fun k => ?_) (Ev.now (gimp8 (bad W.2.2.2.2.2)))
    rw [A12.j0, if_neg (show ¬ (some W.2.2.2.2.2).isNone = true from Bool.false_ne_true)]
    unfold gimp8 bad z8
    rw [if_neg c1]
    rfl
theorem restL_add (L : List Int) (hL : L.length < 70368744177664) (a : Int) (m : Nat) (hm : m ≤ (PDod.restL L a).length) (h1 : 1 ≤ (PDod.restL L a).length) : PDod.restL L (wrap64 (a + (m : Int))) = (PDod.restL L a).drop m := by
 unfold PDod.restL at hm h1 ⊢
 by_cases c : a < 0 ∨ a > (L.length : Int)
 ·rw [if_pos c] at h1
  exact absurd h1 (by decide)
 rw [if_neg c] at hm ⊢
 rw [List.length_drop] at hm
 have hw : wrap64 (a + (m : Int)) = a + (m : Int) := PBits.w64 _ (by omega)
 rw [hw, if_neg (by omega), List.drop_drop]
 congr 1
 omega
theorem first_is (b : List Int) (hb : Bs.Bytes b) (hl : 8 * b.length < 70368744177664) (a : Int) (ha : -9223372036854775808 ≤ a ∧ a < 9223372036854775808) :
    Ev (fun k => A31.f k b a) (if (PDod.restL (Bs.flat b) a).length < 128 then (0, 0, 0, some 2) else (wrap64 (Bs.number ((PDod.restL (Bs.flat b) a).take 64)), Bs.number (((PDod.restL (Bs.flat b) a).drop 64).take 64), 128, none)) := by
  have hfl := Bs.A2k b
  have e1 := PBits.Take_is b hb (by omega) a 64
  have e2 := PBits.Take_is b hb (by omega) (wrap64 (a + 64)) 64
  generalize Bs.flat b = L at *
  unfold A31.f
  refine Ev.bind e1 ?_
  unfold PDod.restL
  by_cases c : a < 0 ∨ a > (L.length : Int)
  · rw [PBits.tk_no (by omega), if_pos c]
    exact Ev.congr (fun k => if_neg Bool.false_ne_true) (Ev.now _)
  rw [if_neg c]
  have hd := List.length_drop (l := L) (i := a.toNat)
  by_cases c1 : (L.drop a.toNat).length < 64
  · rw [PBits.tk_no (by omega), if_pos (by omega)]
    exact Ev.congr (fun k => if_neg Bool.false_ne_true) (Ev.now _)
  rw [PBits.tk_yes (by omega)]
  refine Ev.congr (fun k => if_pos rfl) (Ev.bind e2 ?_)
  have hw : wrap64 (a + 64) = a + 64 := PBits.w64 _ (by omega)
  by_cases c2 : (L.drop a.toNat).length < 128
  · rw [hw, PBits.tk_no (by omega), if_pos c2]
    exact Ev.congr (fun k => if_neg Bool.false_ne_true) (Ev.now _)
  rw [hw, PBits.tk_yes (by omega), if_neg c2]
  have e64 : (64 : Int).toNat = 64 := rfl
  have ea : (a + 64).toNat = a.toNat + 64 := by omega
  rw [e64, ea, ← List.drop_drop]
  exact Ev.congr (fun k => if_pos rfl) (Ev.now _)
theorem Get_is (kind n t d v e xp : Int) (xl xn : Nat) (hn : 0 ≤ n) (hp : 0 ≤ xp ∧ xp < 18446744073709551616) (hx : xl + xn ≤ 64) (b : List Int) (hb : Bs.Bytes b) (hl : 8 * b.length < 70368744177664) (a : Int) (ha : -9223372036854775808 ≤ a ∧ a < 9223372036854775808) :
    Ev (fun k => A12.f k kind n t d v e xp (xl : Int) (xn : Int) b a) (gimp8 (kg kind n t d v e xp xl xn (PDod.restL (Bs.flat b) a))) := by
  have hfl := Bs.A2k b
  have hL : (Bs.flat b).length < 70368744177664 := by omega
  unfold A12.f kg
  rw [known_is]
  simp only [Option.bind_some]
  by_cases c1 : kind = 1 ∨ kind = 2
  · have c1n : ¬ ¬ (kind = 1 ∨ kind = 2) := fun h => h c1
    rw [decide_eq_true c1, if_neg c1n]
    simp only [if_true]
    by_cases c2 : n = 0
    · have hng : ¬ n > 0 := by omega
      have e1 := first_is b hb hl a ha
      simp only [if_pos c2]
      refine Ev.bind e1 ?_
      generalize PDod.restL (Bs.flat b) a = R
      by_cases c3 : R.length < 128
      · simp only [if_pos c3]
        exact Ev.step (fun k => by rw [A12.j0, if_neg (show ¬ (some (2 : Int)).isNone = true from Bool.false_ne_true)]; rfl) (Ev.now (gimp8 (bad 2)))
      · simp only [if_neg c3]
        refine Ev.step (fun k => by rw [A12.j0, if_pos (show (none : Option Int).isNone = true from rfl), if_neg hng]) (Ev.bind (After_is kind n t d v e xp xl xn (wrap64 (Bs.number (R.take 64))) (Bs.number ((R.drop 64).take 64)) 0 0 0 hn) ?_)
        exact Ev.now _
    simp only [if_neg c2]
    have hng : n > 0 := by omega
    have g1 := PDod.Get_is b hb (by omega) a ha
    have hfit := gspec_fit _ (PDod.restL_bits (Bs.flat_bits b) a)
    have hadd := restL_add (Bs.flat b) hL a
    unfold A29.f
    generalize PDod.restL (Bs.flat b) a = R at *
    generalize PDod.A3q R = G at *
    by_cases c3 : G.2.2 = 0
    · have c3n : ¬ ¬ G.2.2 = 0 := fun h => h c3
      obtain ⟨m, hm1, hm2, hm3⟩ := hfit c3
      have hr := hadd m hm2 hm3
      have hwr : -9223372036854775808 ≤ wrap64 (a + (m : Int)) ∧ wrap64 (a + (m : Int)) < 9223372036854775808 := by unfold wrap64; omega
      rw [if_neg c3n]
      unfold PDod.gimp at g1
      rw [if_pos c3, hm1] at g1
      rw [hm1, Int.toNat_natCast]
      unfold kv
      by_cases c4 : kind = 2
      · have g2 := PDod.Get_is b hb (by omega) (wrap64 (a + (m : Int))) hwr
        rw [hr] at g2
        rw [if_pos c4]
        simp only [if_pos c4]
        refine Ev.bind (Ev.bind g1 (Ev.congr (fun k => if_pos rfl) (Ev.bind g2 (Ev.now _)))) ?_
        exact Fin_is kind n t d v e xp xl xn hng _ _ (_, 0, 0, 0, _, _)
      · have g2 := PXor.Get_is b hb hl xp hp xl xn hx (wrap64 (a + (m : Int)))
        rw [hr] at g2
        rw [if_neg c4]
        simp only [if_neg c4]
        refine Ev.bind (Ev.bind g1 (Ev.congr (fun k => if_pos rfl) (Ev.bind g2 (Ev.now _)))) ?_
        exact Fin_is kind n t d v e xp xl xn hng _ _ (PXor.xg xp xl xn (R.drop m))
    · rw [if_pos c3]
      unfold PDod.gimp at g1
      rw [if_neg c3] at g1
      refine Ev.bind (Ev.bind g1 (Ev.congr (fun k => if_neg Bool.false_ne_true) (Ev.now _))) ?_
      refine Ev.step (fun k => ?_) (Ev.now (gimp8 (bad G.2.2)))
      rw [A12.j0, if_neg (show ¬ (some _).isNone = true from Bool.false_ne_true)]
      unfold gimp8 bad z8
      rw [if_neg c3]
      rfl
  · rw [decide_eq_false c1, if_pos c1]
    exact Ev.congr (fun k => if_neg Bool.false_ne_true) (Ev.now (gimp8 (bad 6)))
structure Ok (B : Int) (s : S8) : Prop where
 n0 : 0 ≤ s.1
 n1 : s.1 ≤ B
 p0 : 0 ≤ s.2.2.2.2.2.1 ∧ s.2.2.2.2.2.1 < 18446744073709551616
 w : ∃ xl xn : Nat, s.2.2.2.2.2.2.1 = (xl : Int) ∧ s.2.2.2.2.2.2.2 = (xn : Int) ∧ xl + xn ≤ 64
theorem ok_zero (B : Int) (hB : 0 ≤ B) : Ok B z8 := ⟨Int.le_refl _, hB, by decide, 0, 0, rfl, rfl, by decide⟩
theorem ok_aft (B : Int) (hB : B < 1000000) (kind n t d v e xp xl xn T V ap al an : Int) (hn : 0 ≤ n ∧ n ≤ B) (hV : 0 ≤ V ∧ V < 18446744073709551616) (hap : 0 ≤ ap ∧ ap < 18446744073709551616) (hw : ∃ x y : Nat, al = (x : Int) ∧ an = (y : Int) ∧ x + y ≤ 64) : Ok (B + 1) (aft kind n t d v e xp xl xn T V ap al an) := by
 have hw1 : wrap64 (n + 1) = n + 1 := PBits.w64 _ (by omega)
 have z : ∃ x y : Nat, (0 : Int) = (x : Int) ∧ (0 : Int) = (y : Int) ∧ x + y ≤ 64 := ⟨0, 0, rfl, rfl, by decide⟩
 unfold aft
 rw [hw1]
 refine ⟨by show 0 ≤ n + 1; omega, by show n + 1 ≤ B + 1; omega, ?_, ?_⟩
 ·show 0 ≤ (if kind = 1 then (if n = 0 then V else ap) else 0) ∧ (if kind = 1 then (if n = 0 then V else ap) else 0) < 18446744073709551616
  by_cases c : kind = 1
  ·rw [if_pos c]
   by_cases c' : n = 0
   ·rw [if_pos c']; exact hV
   ·rw [if_neg c']; exact hap
  ·rw [if_neg c]; decide
 ·show ∃ x y : Nat, (if kind = 1 then (if n = 0 then 0 else al) else 0) = (x : Int) ∧ (if kind = 1 then (if n = 0 then 0 else an) else 0) = (y : Int) ∧ x + y ≤ 64
  by_cases c : kind = 1
  ·rw [if_pos c, if_pos c]
   by_cases c' : n = 0
   ·rw [if_pos c', if_pos c']; exact z
   ·rw [if_neg c', if_neg c']; exact hw
  ·rw [if_neg c, if_neg c]; exact z
theorem kp_ok (B : Int) (hB : B < 1000000) (kind n t d v e xp : Int) (xl xn : Nat) (T V : Int) (hn : 0 ≤ n ∧ n ≤ B) (hV : 0 ≤ V ∧ V < 18446744073709551616) (hp : 0 ≤ xp ∧ xp < 18446744073709551616) (hx : xl + xn ≤ 64) (h : (kp kind n t d v e xp xl xn T V).2.2 = 0) :
    Ok (B + 1) (kp kind n t d v e xp xl xn T V).2.1 := by
  have z : ∃ x y : Nat, (0 : Int) = (x : Int) ∧ (0 : Int) = (y : Int) ∧ x + y ≤ 64 := ⟨0, 0, rfl, rfl, by decide⟩
  unfold kp at h ⊢
  by_cases c1 : ¬ (kind = 1 ∨ kind = 2)
  · rw [if_pos c1] at h
    exact absurd h (by decide)
  rw [if_neg c1] at h ⊢
  by_cases c2 : n = 0
  · rw [if_pos c2]
    exact ok_aft B hB kind n t d v e xp xl xn T V 0 0 0 hn hV (by decide) z
  rw [if_neg c2] at h ⊢
  by_cases c3 : T ≤ t
  · rw [if_pos c3] at h
    exact absurd h (by decide)
  rw [if_neg c3] at h ⊢
  by_cases c4 : kind = 2
  · rw [if_pos c4]
    exact ok_aft B hB kind n t d v e xp xl xn T V 0 0 0 hn hV (by decide) z
  · rw [if_neg c4]
    have hr := PXor.xor_range V xp hV hp
    exact ok_aft B hB kind n t d v e xp xl xn T V V _ _ hn hV hV ⟨_, _, rfl, rfl, PXor.cb_ok xl xn _ hx hr.1 hr.2⟩
theorem u64_is (x : Int) : 0 ≤ IntKind.u64.wrap x ∧ IntKind.u64.wrap x < 18446744073709551616 := u64_range x
theorem kv_ok (kind v e xp : Int) (xl xn : Nat) (hp : 0 ≤ xp ∧ xp < 18446744073709551616) (hx : xl + xn ≤ 64) (R : List Int) (hR : Bs.Bits R) (h : (kv kind v e xp xl xn R).2.2.2.2.2 = 0) :
    (0 ≤ (kv kind v e xp xl xn R).1 ∧ (kv kind v e xp xl xn R).1 < 18446744073709551616) ∧ (0 ≤ (kv kind v e xp xl xn R).2.1 ∧ (kv kind v e xp xl xn R).2.1 < 18446744073709551616) ∧
    (∃ x y : Nat, (kv kind v e xp xl xn R).2.2.1 = (x : Int) ∧ (kv kind v e xp xl xn R).2.2.2.1 = (y : Int) ∧ x + y ≤ 64) ∧ ∃ m : Nat, (kv kind v e xp xl xn R).2.2.2.2.1 = (m : Int) ∧ m ≤ R.length := by
  unfold kv at h ⊢
  by_cases c : kind = 2
  · rw [if_pos c] at h ⊢
    obtain ⟨m, h1, h2, _⟩ := gspec_fit R hR h
    exact ⟨u64_is _, by show (0 : Int) ≤ 0 ∧ (0 : Int) < _; decide, ⟨0, 0, rfl, rfl, by decide⟩, m, h1, h2⟩
  · rw [if_neg c] at h ⊢
    obtain ⟨d, m, d0, d1, m1, m2, _, hG⟩ := PXor.xg_ok xp xl xn hx hp R hR h
    rw [hG]
    have hr := PXor.xor_range xp d hp ⟨d0, d1⟩
    exact ⟨hr, hr, ⟨_, _, rfl, rfl, PXor.cb_ok xl xn d hx d0 d1⟩, m, rfl, m2⟩
theorem kg_ok (B : Int) (hB : B < 1000000) (kind n t d v e xp : Int) (xl xn : Nat) (hn : 0 ≤ n ∧ n ≤ B) (hp : 0 ≤ xp ∧ xp < 18446744073709551616) (hx : xl + xn ≤ 64) (R : List Int) (hR : Bs.Bits R) (hl : R.length < 70368744177664) (h : (kg kind n t d v e xp xl xn R).2.2.2.2 = 0) :
    Ok (B + 1) (kg kind n t d v e xp xl xn R).2.2.1 ∧ ∃ m : Nat, (kg kind n t d v e xp xl xn R).2.2.2.1 = (m : Int) ∧ m ≤ R.length ∧ 1 ≤ R.length := by
  have z : ∃ x y : Nat, (0 : Int) = (x : Int) ∧ (0 : Int) = (y : Int) ∧ x + y ≤ 64 := ⟨0, 0, rfl, rfl, by decide⟩
  unfold kg at h ⊢
  by_cases c1 : ¬ (kind = 1 ∨ kind = 2)
  · rw [if_pos c1] at h
    exact absurd h (by decide)
  rw [if_neg c1] at h ⊢
  by_cases c2 : n = 0
  · rw [if_pos c2] at h ⊢
    by_cases c3 : R.length < 128
    · rw [if_pos c3] at h
      exact absurd h (by decide)
    rw [if_neg c3]
    have hnr := PXor.num_range hR 64 64 (by omega)
    have k64 : (2 : Int) ^ 64 = 18446744073709551616 := by decide
    rw [k64] at hnr
    exact ⟨ok_aft B hB kind n t d v e xp xl xn _ _ 0 0 0 hn hnr (by decide) z, 128, rfl, by omega, by omega⟩
  rw [if_neg c2] at h ⊢
  by_cases c3 : (PDod.A3q R).2.2 = 0
  · have c3n : ¬ ¬ (PDod.A3q R).2.2 = 0 := fun h => h c3
    rw [if_neg c3n] at h ⊢
    obtain ⟨m, hm1, hm2, hm3⟩ := gspec_fit R hR c3
    have hd := List.length_drop (l := R) (i := m)
    rw [hm1, Int.toNat_natCast] at h ⊢
    have hv := kv_ok kind v e xp xl xn hp hx (R.drop m) (hR.drop m)
    generalize kv kind v e xp xl xn (R.drop m) = W at *
    generalize wrap64 (wrap64 (t + d) + (PDod.A3q R).1) = T at *
    unfold fin at h ⊢
    by_cases c4 : W.2.2.2.2.2 = 0
    · have c4n : ¬ ¬ W.2.2.2.2.2 = 0 := fun h => h c4
      rw [if_neg c4n] at h ⊢
      by_cases c5 : T ≤ t
      · rw [if_pos c5] at h
        exact absurd h (by show ¬ ((4 : Int) = 0); decide)
      rw [if_neg c5]
      obtain ⟨v1, v2, v3, m2, v4, v5⟩ := hv c4
      refine ⟨ok_aft B hB kind n t d v e xp xl xn T _ _ _ _ hn v1 v2 v3, m + m2, ?_, by omega, hm3⟩
      show wrap64 ((m : Int) + W.2.2.2.2.1) = _
      rw [v4, PBits.w64 _ (by omega)]
      omega
    · rw [if_pos c4] at h
      exact absurd h c4
  · rw [if_pos c3] at h
    exact absurd h c3
end Go.Proofs.YtiahbcaoikoogabDoor.PKinds
end
