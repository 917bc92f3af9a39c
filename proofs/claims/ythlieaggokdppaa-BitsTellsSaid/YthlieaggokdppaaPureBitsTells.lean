/- Layer 1's Put, Join and Take answer as the document's, at all bits and bytes; no condition beside the statement's own bounds of 500. -/
import Derived.Test.YthlieaggokdppaaAllx53
import Derived.Test.YthlieaggokdppaaPBits2
namespace Go.Proofs.Ythlieaggokdppaa.Pure
open Go Go.RowKit Go.Proofs.Ythlieaggokdppaa Go.Proofs.Ythlieaggokdppaa.All Go.Proofs.YthlieaggokdppaaW.PrintWords Go.Proofs.YthlieaggokdppaaW.PrintLast
set_option linter.unusedVariables false
set_option linter.unusedSimpArgs false

theorem BitsTells_up : Ev (fun k => gaiterlaw01_up.f k) true :=
  Ev.of gaiterlaw01_up.mono (k := 40) (by decide +kernel)
theorem bytes_of {l : List Int} (h : ∀ x ∈ l, (Lit.int .u8 x).wf = true) : Bs.Bytes l := fun x hx => Ib.wf_u8 (h x hx)
theorem take_self {P : List Int} (hP : Bs.Bits P) : (Bs.flat (Bs.pack P)).take P.length = P := Bs.take_flat_pack hP
theorem len_flat {P : List Int} : P.length ≤ (Bs.flat (Bs.pack P)).length := by rw [Bs.flat_length, Bs.pack_length]; omega
theorem BitsTells_j2 (P Q X b : List Int) (hP : Bs.Bits P) (hQ : Bs.Bits Q) (hX : Bs.Bits X) (hb : Bs.Bytes b) (lP : P.length ≤ 500) (lQ : Q.length ≤ 500) (lb : b.length ≤ 500)
    (v n a : Int) (hv : 0 ≤ v ∧ v < 18446744073709551616) (ha : -9223372036854775808 ≤ a ∧ a < 9223372036854775808) (hx : (if n < 0 ∨ n > 64 then (Bs.pack P, (P.length : Int)) else (Bs.pack (P ++ Bs.low v n.toNat), ((P.length + n.toNat : Nat) : Int))) = (Bs.pack X, (X.length : Int))) (lX : X.length ≤ 600) :
    Ev (fun k => gaiterlaw01_BitsTells.j2 k v n b a true (P ++ Q) X (Bs.pack P) (P.length : Int) (Bs.pack Q) (Q.length : Int)) true := by
  have l1 : 8 * b.length < 140737488355328 := by omega
  have l2 : P.length + 64 < 140737488355328 := by omega
  have l3 : X.length < 140737488355328 := by omega
  have l4 : P.length + Q.length + 16 < 140737488355328 := by omega
  have l5 : (P ++ Q).length < 140737488355328 := by rw [List.length_append]; omega
  refine Ev.step (fun k => by rw [gaiterlaw01_BitsTells.j2]) ?_
  refine Ev.bind (PBits.Take_is b hb l1 a n) ?_
  refine Ev.bind (PBits.RTake_is b hb l1 a n ha) ?_
  simp only [if_true]
  refine Ev.bind (PBits.Put_is P hP l2 v hv n) ?_
  rw [hx]
  refine Ev.bind (PBits.Is_is X hX l3) ?_
  simp only [if_true]
  refine Ev.bind (PBits.Join_is P Q hP hQ l4) ?_
  have h5 := PBits.Is_is (P ++ Q) (hP.append hQ) l5
  rw [List.length_append] at h5
  refine Ev.bind h5 ?_
  simp only [if_true, beq_self_eq_true]
  exact Ev.now _
theorem BitsTells_j1 (P Q b : List Int) (hP : Bs.Bits P) (hQ : Bs.Bits Q) (hb : Bs.Bytes b) (lP : P.length ≤ 500) (lQ : Q.length ≤ 500) (lb : b.length ≤ 500)
    (v n a : Int) (hv : 0 ≤ v ∧ v < 18446744073709551616) (ha : -9223372036854775808 ≤ a ∧ a < 9223372036854775808) (c : Bool) (hc : c = decide (¬ (n < 0 ∨ n > 64))) :
    Ev (fun k => gaiterlaw01_BitsTells.j1 k v n b a true (P ++ Q) P c (Bs.pack P) (P.length : Int) (Bs.pack Q) (Q.length : Int)) true := by
  by_cases h : n < 0 ∨ n > 64
  · rw [show c = false from by rw [hc]; simp [h]]
    refine Ev.step (fun k => by rw [gaiterlaw01_BitsTells.j1]) ?_
    simp only [Bool.false_eq_true, if_false]
    exact BitsTells_j2 P Q P b hP hQ hP hb lP lQ lb v n a hv ha (if_pos h) (by omega)
  · rw [show c = true from by rw [hc]; simp [h]]
    have hl : (P ++ Bs.low v n.toNat).length = P.length + n.toNat := by rw [List.length_append, Bs.low_length]
    have l1 : P.length + (Bs.low v n.toNat).length < 140737488355328 := by rw [Bs.low_length]; omega
    refine Ev.step (fun k => by rw [gaiterlaw01_BitsTells.j1]) ?_
    simp only [if_true]
    refine Ev.bind (PBits.Low_is v n hv (by omega)) ?_
    simp only [if_pos l1]
    exact BitsTells_j2 P Q (P ++ Bs.low v n.toNat) b hP hQ (hP.append (Bs.low_bits _ _)) hb lP lQ lb v n a hv ha (by rw [if_neg h, hl]) (by rw [hl]; omega)
theorem BitsTells_j0 (x y b : List Int) (hx : Bs.Bytes x) (hy : Bs.Bytes y) (hb : Bs.Bytes b) (lx : x.length ≤ 500) (ly : y.length ≤ 500) (lb : b.length ≤ 500)
    (v n a : Int) (hv : 0 ≤ v ∧ v < 18446744073709551616) (ha : -9223372036854775808 ≤ a ∧ a < 9223372036854775808) :
    Ev (fun k => gaiterlaw01_BitsTells.j0 k x y v n b a true false) true := by
  have hP := PBits.par_bits x
  have hQ := PBits.par_bits y
  have lP : (PBits.par x).length = x.length := PBits.par_length x
  have lQ : (PBits.par y).length = y.length := PBits.par_length y
  have h1 := PBits.Bits_is x hx (by omega)
  have h2 := PBits.Bits_is y hy (by omega)
  rw [← lP] at h1
  rw [← lQ] at h2
  generalize PBits.par x = P at hP lP h1
  generalize PBits.par y = Q at hQ lQ h2
  have b1 : 8 * (Bs.pack P).length < 140737488355328 := by rw [Bs.pack_length]; omega
  have b2 : 8 * (Bs.pack Q).length < 140737488355328 := by rw [Bs.pack_length]; omega
  have f1 : ((P.length : Nat) : Int) ≤ ((Bs.flat (Bs.pack P)).length : Int) := Int.ofNat_le.2 len_flat
  have f2 : ((Q.length : Nat) : Int) ≤ ((Bs.flat (Bs.pack Q)).length : Int) := Int.ofNat_le.2 len_flat
  have g1 : P.length < 140737488355328 := by omega
  have g2 : P.length + Q.length < 140737488355328 := by omega
  have lP' : P.length ≤ 500 := by omega
  have lQ' : Q.length ≤ 500 := by omega
  refine Ev.step (fun k => by rw [gaiterlaw01_BitsTells.j0]) ?_
  simp only [Bool.false_eq_true, if_false]
  refine Ev.bind h1 ?_
  refine Ev.bind h2 ?_
  refine Ev.bind (PBits.Flat_is _ (Bs.pack_bytes hP) b1) ?_
  simp only [if_pos (Int.natCast_nonneg P.length), if_pos f1, Int.toNat_natCast, take_self hP, Option.bind_some, List.length_nil, Nat.zero_add, if_pos g1, List.nil_append]
  refine Ev.bind (PBits.Flat_is _ (Bs.pack_bytes hQ) b2) ?_
  simp only [if_pos (Int.natCast_nonneg Q.length), if_pos f2, Int.toNat_natCast, take_self hQ, Option.bind_some, List.length_nil, Nat.zero_add, if_pos g2, List.nil_append]
  by_cases c : n ≥ 0
  · simp only [if_pos c]
    exact BitsTells_j1 P Q b hP hQ hb lP' lQ' lb v n a hv ha _ (decide_eq_decide.2 (by omega))
  · simp only [if_neg c]
    exact BitsTells_j1 P Q b hP hQ hb lP' lQ' lb v n a hv ha _ (decide_eq_false (by omega)).symm
theorem BitsTells : gaiterlaw01_BitsTells.Pure := by
  intro x y v n b a _ _ hx _ _ hy hv _ _ _ hb ha
  refine Ev.rounds (g := fun k => gaiterlaw01_BitsTells.f k x y v n b a) ?_
  unfold gaiterlaw01_BitsTells.f
  refine Ev.bind BitsTells_up ?_
  by_cases c1 : (x.length : Int) > 500
  · simp only [if_pos c1]
    exact Ev.step (fun k => by rw [gaiterlaw01_BitsTells.j0]) (by simp only [if_true]; exact Ev.now _)
  by_cases c2 : (y.length : Int) > 500
  · simp only [if_neg c1, if_pos c2]
    exact Ev.step (fun k => by rw [gaiterlaw01_BitsTells.j0]) (by simp only [if_true]; exact Ev.now _)
  by_cases c3 : (b.length : Int) > 500
  · simp only [if_neg c1, if_neg c2, decide_eq_true c3]
    exact Ev.step (fun k => by rw [gaiterlaw01_BitsTells.j0]) (by simp only [if_true]; exact Ev.now _)
  simp only [if_neg c1, if_neg c2, decide_eq_false c3]
  exact BitsTells_j0 x y b (bytes_of hx) (bytes_of hy) (bytes_of hb) (by omega) (by omega) (by omega) v n a (Ib.wf_u64 hv) (Ib.wf_i64 ha)

end Go.Proofs.Ythlieaggokdppaa.Pure
