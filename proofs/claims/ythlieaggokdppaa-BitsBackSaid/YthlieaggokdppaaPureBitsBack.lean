/- What layer 1's Put and Join have written is what its Take reads, at all bits; no condition beside the statement's own bounds of 500. -/
import Derived.Test.YthlieaggokdppaaAllx54
import Derived.Test.YthlieaggokdppaaPBits2
namespace Go.Proofs.Ythlieaggokdppaa.Pure
open Go Go.RowKit Go.Proofs.Ythlieaggokdppaa Go.Proofs.Ythlieaggokdppaa.All Go.Proofs.YthlieaggokdppaaW.PrintWords Go.Proofs.YthlieaggokdppaaW.PrintLast
set_option linter.unusedVariables false
set_option linter.unusedSimpArgs false

theorem BitsBack_up : Ev (fun k => gaiterlaw01_up.f k) true :=
  Ev.of gaiterlaw01_up.mono (k := 40) (by decide +kernel)
/-- One bit of packed bits. -/
theorem one_bit {M : List Int} (hM : Bs.Bits M) (i : Nat) (h : i < M.length) : PBits.tk (Bs.flat (Bs.pack M)) (i : Int) 1 = (M[i], true) := by
  have hl : (Bs.flat (Bs.pack M)).length = 8 * ((M.length + 7) / 8) := by rw [Bs.flat_length, Bs.pack_length]
  rw [PBits.tk_yes (by omega), Bs.flat_pack hM, Int.toNat_natCast, List.drop_append_of_le_length (Nat.le_of_lt h), List.drop_eq_getElem_cons h, List.cons_append, show (1 : Int).toNat = 1 from rfl, List.take_succ_cons, List.take_zero]
  simp [Bs.number]
theorem BitsBack_l0 (L Q : List Int) (hL : Bs.Bits L) (hQ : Bs.Bits Q) (lL : L.length ≤ 600) (lQ : Q.length ≤ 500) : ∀ (d i : Nat), i + d = L.length + Q.length →
    Ev (fun k => gaiterlaw01_BitsBack.l0 k true (i : Int) (Bs.pack Q) (Q.length : Int) (Bs.pack L) (L.length : Int) (Bs.pack (L ++ Q)) ((L.length + Q.length : Nat) : Int)) true := by
  have hM := hL.append hQ
  have lM : (L ++ Q).length = L.length + Q.length := List.length_append
  have p1 : 8 * (Bs.pack (L ++ Q)).length < 140737488355328 := by rw [Bs.pack_length]; omega
  have p2 : 8 * (Bs.pack L).length < 140737488355328 := by rw [Bs.pack_length]; omega
  have p3 : 8 * (Bs.pack Q).length < 140737488355328 := by rw [Bs.pack_length]; omega
  have y1 := Bs.pack_bytes hM
  have y2 := Bs.pack_bytes hL
  have y3 := Bs.pack_bytes hQ
  intro d
  induction d with
  | zero =>
    intro i hi
    have hno : ¬ ((i : Int) < ((L.length + Q.length : Nat) : Int)) := by omega
    refine Ev.step (fun k => by rw [gaiterlaw01_BitsBack.l0]) ?_
    simp only [if_neg hno]
    exact Ev.now _
  | succ d ih =>
    intro i hi
    have hin : (i : Int) < ((L.length + Q.length : Nat) : Int) := by omega
    have hiM : i < (L ++ Q).length := by omega
    have hi47 : i < 140737488355328 := by omega
    have hid : i + 1 + d = L.length + Q.length := by omega
    have hih := ih (i + 1) hid
    have hw := PBits.wr_succ i hi47
    refine Ev.step (fun k => by rw [gaiterlaw01_BitsBack.l0]) ?_
    simp only [if_pos hin]
    refine Ev.bind (PBits.Take_is _ y1 p1 (i : Int) 1) ?_
    refine Ev.bind (PBits.Take_is _ y2 p2 (i : Int) 1) ?_
    rw [one_bit hM i hiM]
    by_cases c : i < L.length
    · have hc : ¬ ((i : Int) ≥ (L.length : Int)) := by omega
      rw [one_bit hL i c]
      simp only [if_neg hc, if_true]
      simp only [List.getElem_append_left c, if_true, hw]
      exact hih
    · have hc : (i : Int) ≥ (L.length : Int) := by omega
      have hq : i - L.length < Q.length := by omega
      have hge : L.length ≤ i := by omega
      have hw2 : wrap64 ((i : Int) - (L.length : Int)) = ((i - L.length : Nat) : Int) := by rw [PBits.w64 _ (by omega)]; omega
      simp only [if_pos hc, hw2]
      refine Ev.bind (PBits.Take_is _ y3 p3 _ 1) ?_
      rw [one_bit hQ _ hq]
      simp only [if_true, List.getElem_append_right hge, hw]
      exact hih
theorem pow_64 {n : Nat} (h : n ≤ 64) : (2 : Int) ^ n ≤ 18446744073709551616 := by
  have := PBits.pow_le h
  rwa [show (2 : Int) ^ 64 = 18446744073709551616 from by decide] at this
theorem pow_63 {n : Nat} (h : n ≤ 63) : (2 : Int) ^ n ≤ 9223372036854775808 := by
  have := PBits.pow_le h
  rwa [show (2 : Int) ^ 63 = 9223372036854775808 from by decide] at this
theorem BitsBack_j1 (P Q : List Int) (hP : Bs.Bits P) (hQ : Bs.Bits Q) (lP : P.length ≤ 500) (lQ : Q.length ≤ 500) (v : Int) (n : Nat) (hn : n ≤ 64) (z : Int) :
    Ev (fun k => gaiterlaw01_BitsBack.j1 k (n : Int) true z true z (Bs.pack P) (P.length : Int) (Bs.pack Q) (Q.length : Int) (Bs.pack (P ++ Bs.low v n)) ((P.length + n : Nat) : Int)) true := by
  have hL : Bs.Bits (P ++ Bs.low v n) := hP.append (Bs.low_bits _ _)
  have lL : (P ++ Bs.low v n).length = P.length + n := by rw [List.length_append, Bs.low_length]
  have lL' : (P ++ Bs.low v n).length ≤ 600 := by omega
  rw [← lL]
  have hw : wrap64 ((P.length : Int) + (n : Int)) = ((P ++ Bs.low v n).length : Int) := by rw [PBits.wr_add _ _ (by omega)]; omega
  generalize P ++ Bs.low v n = L at hL lL' hw
  have l4 : L.length + Q.length + 16 < 140737488355328 := by omega
  have hw2 := PBits.wr_add L.length Q.length (by omega)
  refine Ev.step (fun k => by rw [gaiterlaw01_BitsBack.j1]) ?_
  simp only [if_true, hw, bne_self_eq_false]
  refine Ev.step (fun k => by rw [gaiterlaw01_BitsBack.j2]) ?_
  simp only [Bool.false_eq_true, if_false]
  refine Ev.bind (PBits.Join_is L Q hL hQ l4) ?_
  simp only [hw2, if_true]
  exact BitsBack_l0 L Q hL hQ lL' lQ _ 0 (Nat.zero_add _)
theorem BitsBack_j0 (x y : List Int) (hx : Bs.Bytes x) (hy : Bs.Bytes y) (lx : x.length ≤ 500) (ly : y.length ≤ 500) (v : Int) (hv : 0 ≤ v ∧ v < 18446744073709551616) (n : Nat) (hn : n ≤ 64) :
    Ev (fun k => gaiterlaw01_BitsBack.j0 k x y v (n : Int) true false) true := by
  have hP := PBits.par_bits x
  have hQ := PBits.par_bits y
  have lP : (PBits.par x).length = x.length := PBits.par_length x
  have lQ : (PBits.par y).length = y.length := PBits.par_length y
  have h1 := PBits.Bits_is x hx (by omega)
  have h2 := PBits.Bits_is y hy (by omega)
  rw [← lP] at h1
  rw [← lQ] at h2
  generalize PBits.par x = P at hP lP h1
  generalize PBits.par y = Q at hQ lQ h2
  have lP' : P.length ≤ 500 := by omega
  have lQ' : Q.length ≤ 500 := by omega
  have lp : P.length + 64 < 140737488355328 := by omega
  have hno : ¬ ((n : Int) < 0 ∨ (n : Int) > 64) := by omega
  have h3 := PBits.Put_is P hP lp v hv (n : Int)
  rw [if_neg hno, Int.toNat_natCast] at h3
  have hL : Bs.Bits (P ++ Bs.low v n) := hP.append (Bs.low_bits _ _)
  have lL : (P ++ Bs.low v n).length = P.length + n := by rw [List.length_append, Bs.low_length]
  have p1 : 8 * (Bs.pack (P ++ Bs.low v n)).length < 140737488355328 := by rw [Bs.pack_length]; omega
  have h4 := PBits.Take_is _ (Bs.pack_bytes hL) p1 (P.length : Int) (n : Int)
  have hfl : (Bs.flat (Bs.pack (P ++ Bs.low v n))).length = 8 * ((P.length + n + 7) / 8) := by rw [Bs.flat_length, Bs.pack_length, lL]
  have hno2 : ¬ ((n : Int) < 0 ∨ (n : Int) > 64 ∨ (P.length : Int) < 0 ∨ (P.length : Int) > ((Bs.flat (Bs.pack (P ++ Bs.low v n))).length : Int) ∨ (n : Int) > ((Bs.flat (Bs.pack (P ++ Bs.low v n))).length : Int) - (P.length : Int)) := by omega
  rw [PBits.tk_yes hno2, Bs.flat_pack hL, Int.toNat_natCast, Int.toNat_natCast, List.append_assoc, List.drop_left, List.take_append_of_le_length (by rw [Bs.low_length]; exact Nat.le_refl _), List.take_of_length_le (by rw [Bs.low_length]; exact Nat.le_refl _), Bs.number_low] at h4
  refine Ev.step (fun k => by rw [gaiterlaw01_BitsBack.j0]) ?_
  simp only [Bool.false_eq_true, if_false]
  refine Ev.bind h1 ?_
  refine Ev.bind h2 ?_
  refine Ev.bind h3 ?_
  refine Ev.bind h4 ?_
  by_cases c : n < 64
  · have hc : (n : Int) < 64 := by omega
    have hwn : IntKind.u64.wrap (n : Int) = (n : Int) := by rw [Ib.wrap_u64]; omega
    have hsh : shl .u64 1 (n : Int) = 2 ^ n := by
      unfold shl
      have h6 := pow_63 (show n ≤ 63 by omega)
      have h7 := Bs.pow_pos n
      rw [Int.toNat_natCast, show IntKind.u64.bits = 64 from rfl, Nat.min_eq_left hn, Int.one_mul, Ib.wrap_u64]
      exact Int.emod_eq_of_lt (Int.le_of_lt h7) (by omega)
    have hne : ¬ ((2 : Int) ^ n = 0) := by have h7 := Bs.pow_pos n; omega
    simp only [if_pos hc, hwn, if_pos (Int.natCast_nonneg n), hsh, if_neg hne, Int.tmod_eq_emod_of_nonneg hv.1]
    exact BitsBack_j1 P Q hP hQ lP' lQ' v n hn _
  · have hc : ¬ (n : Int) < 64 := by omega
    have hn64 : n = 64 := by omega
    have hvm : v % 2 ^ n = v := by
      rw [hn64, show (2 : Int) ^ 64 = 18446744073709551616 from by decide]
      exact Int.emod_eq_of_lt hv.1 hv.2
    simp only [if_neg hc, hvm]
    exact BitsBack_j1 P Q hP hQ lP' lQ' v n hn _
theorem BitsBack : gaiterlaw01_BitsBack.Pure := by
  intro x y v n _ _ hx _ _ hy hv _
  refine Ev.rounds (g := fun k => gaiterlaw01_BitsBack.f k x y v n) ?_
  unfold gaiterlaw01_BitsBack.f
  refine Ev.bind BitsBack_up ?_
  by_cases c1 : (x.length : Int) > 500
  · simp only [if_pos c1]
    exact Ev.step (fun k => by rw [gaiterlaw01_BitsBack.j0]) (by simp only [if_true]; exact Ev.now _)
  by_cases c2 : (y.length : Int) > 500
  · simp only [if_neg c1, if_pos c2]
    exact Ev.step (fun k => by rw [gaiterlaw01_BitsBack.j0]) (by simp only [if_true]; exact Ev.now _)
  by_cases c3 : n < 0
  · simp only [if_neg c1, if_neg c2, if_pos c3]
    exact Ev.step (fun k => by rw [gaiterlaw01_BitsBack.j0]) (by simp only [if_true]; exact Ev.now _)
  by_cases c4 : n > 64
  · simp only [if_neg c1, if_neg c2, if_neg c3, decide_eq_true c4]
    exact Ev.step (fun k => by rw [gaiterlaw01_BitsBack.j0]) (by simp only [if_true]; exact Ev.now _)
  simp only [if_neg c1, if_neg c2, if_neg c3, decide_eq_false c4]
  obtain ⟨n, rfl⟩ := Int.eq_ofNat_of_zero_le (Int.not_lt.1 c3)
  exact BitsBack_j0 x y (fun z hz => Ib.wf_u8 (hx z hz)) (fun z hz => Ib.wf_u8 (hy z hz)) (by omega) (by omega) v (Ib.wf_u64 hv) n (by omega)

end Go.Proofs.Ythlieaggokdppaa.Pure
