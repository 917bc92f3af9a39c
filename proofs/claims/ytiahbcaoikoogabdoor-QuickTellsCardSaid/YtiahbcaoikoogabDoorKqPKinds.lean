-- copied by a program of the session
import Derived.Test.YtiahbcaoikoogabDoorKqPBatchV
section
namespace Go.Proofs.YtiahbcaoikoogabDoor.PDod
open Go Go.RowKit Go.Proofs.YtiahbcaoikoogabDoor Go.Proofs.YtiahbcaoikoogabDoor.All Go.Proofs.YtiahbcaoikoogabDoorW.PrintWords Go.Proofs.YtiahbcaoikoogabDoorW.PrintLast
set_option linter.unusedVariables false
set_option linter.unusedSimpArgs false
def ones (d : Int) : Nat :=
 if d = 0 then 0 else if -64 ≤ d ∧ d < 64 then 1 else if -256 ≤ d ∧ d < 256 then 2 else if -2048 ≤ d ∧ d < 2048 then 3 else 4
def size : Nat → Nat
 | 0 => 0
 | 1 => 7
 | 2 => 9
 | 3 => 12
 | _ => 64
theorem ones_le (d : Int) : ones d ≤ 4 := by unfold ones; (repeat' split) <;> omega
theorem l1 (d : Int) (k : Nat) : A1v.l0 (k + 1) d 1 = if d ≥ -64 then (if d < 64 then some 1 else A1v.l0 k d 2) else A1v.l0 k d 2 := by
 rw [A1v.l0, if_pos (by decide), show A3d.f 1 = some 7 from rfl, Option.bind_some, if_pos (show (0 : Int) ≤ wrap64 (7 - 1) by decide +kernel), show wrap64 (1 + 1) = 2 from by decide +kernel, show wrap64 (-(shl .i64 1 (wrap64 (7 - 1)))) = -64 from by decide +kernel, show shl .i64 1 (wrap64 (7 - 1)) = 64 from by decide +kernel]
theorem l2 (d : Int) (k : Nat) : A1v.l0 (k + 1) d 2 = if d ≥ -256 then (if d < 256 then some 2 else A1v.l0 k d 3) else A1v.l0 k d 3 := by
 rw [A1v.l0, if_pos (by decide), show A3d.f 2 = some 9 from rfl, Option.bind_some, if_pos (show (0 : Int) ≤ wrap64 (9 - 1) by decide +kernel), show wrap64 (2 + 1) = 3 from by decide +kernel, show wrap64 (-(shl .i64 1 (wrap64 (9 - 1)))) = -256 from by decide +kernel, show shl .i64 1 (wrap64 (9 - 1)) = 256 from by decide +kernel]
theorem l3 (d : Int) (k : Nat) : A1v.l0 (k + 1) d 3 = if d ≥ -2048 then (if d < 2048 then some 3 else A1v.l0 k d 4) else A1v.l0 k d 4 := by
 rw [A1v.l0, if_pos (by decide), show A3d.f 3 = some 12 from rfl, Option.bind_some, if_pos (show (0 : Int) ≤ wrap64 (12 - 1) by decide +kernel), show wrap64 (3 + 1) = 4 from by decide +kernel, show wrap64 (-(shl .i64 1 (wrap64 (12 - 1)))) = -2048 from by decide +kernel, show shl .i64 1 (wrap64 (12 - 1)) = 2048 from by decide +kernel]
theorem l4 (d : Int) (k : Nat) : A1v.l0 (k + 1) d 4 = some 4 := by
 rw [A1v.l0, if_neg (by decide)]
theorem Ones_is (d : Int) : Ev (fun k => A1v.f k d) ((ones d : Nat) : Int) := by
 refine ⟨4, fun k hk => ?_⟩
 obtain ⟨k, rfl⟩ : ∃ j, k = j + 4 := ⟨k - 4, by omega⟩
 show A1v.f (k + 4) d = _
 unfold A1v.f ones
 by_cases h0 : d = 0
 ·rw [if_pos h0, if_pos h0]; rfl
 rw [if_neg h0, if_neg h0, l1, l2, l3, l4]
 repeat' split
 all_goals first | rfl | (exfalso; omega)
def dodL (d : Int) : List Int := List.replicate (ones d) 1 ++ (if ones d < 4 then [0] else []) ++ Bs.low (d % 18446744073709551616) (size (ones d))
theorem dodL_bits (d : Int) : Bs.Bits (dodL d) := by
 refine Bs.Bits.append (Bs.Bits.append (Bs.Bits.ones _) ?_) (Bs.low_bits _ _)
 split
 ·exact Bs.Bits.cons (.inl rfl) Bs.Bits.nil
 ·exact Bs.Bits.nil
theorem size_le (o : Nat) : size o ≤ 64 := by unfold size; split <;> omega
theorem size_is (o : Nat) (h : o ≤ 4) : A3d.f (o : Int) = some ((size o : Nat) : Int) := by
 have : ∀ i : Fin 5, A3d.f ((i.val : Nat) : Int) = some ((size i.val : Nat) : Int) := by decide +kernel
 exact this ⟨o, by omega⟩
theorem low_ones (o : Nat) (h : o ≤ 4) : Bs.low (IntKind.u64.wrap ((shl .u64 1 (o : Int)) - 1)) o = List.replicate o 1 := by
 have : ∀ i : Fin 5, Bs.low (IntKind.u64.wrap ((shl .u64 1 ((i.val : Nat) : Int)) - 1)) i.val = List.replicate i.val 1 := by decide +kernel
 exact this ⟨o, by omega⟩
theorem Code_is (d : Int) : Ev (fun k => A3c.f k d) (Bs.pack (dodL d), ((dodL d).length : Int)) := by
 have ho := ones_le d
 have hs := size_le (ones d)
 have hsz := size_is (ones d) ho
 have hlo := low_ones (ones d) ho
 have hw : 0 ≤ IntKind.u64.wrap (d) ∧ IntKind.u64.wrap (d) < 18446744073709551616 := by rw [Ib.wrap_u64]; omega
 have hwo : 0 ≤ IntKind.u64.wrap ((shl .u64 1 ((ones d : Nat) : Int)) - 1) ∧ IntKind.u64.wrap ((shl .u64 1 ((ones d : Nat) : Int)) - 1) < 18446744073709551616 := by rw [Ib.wrap_u64]; omega
 have hdl : dodL d = List.replicate (ones d) 1 ++ (if ones d < 4 then [0] else []) ++ Bs.low (IntKind.u64.wrap d) (size (ones d)) := by rw [Ib.wrap_u64]; rfl
 have h1 := PBits.Put_is [] Bs.Bits.nil (by simp) _ hwo ((ones d : Nat) : Int)
 rw [Bs.pack_nil, if_neg (by omega), Int.toNat_natCast, hlo, List.nil_append] at h1
 have hb1 : Bs.Bits (List.replicate (ones d) (1 : Int)) := Bs.Bits.ones _
 have hl1 : ((([] : List Int).length + ones d : Nat) : Int) = ((List.replicate (ones d) (1 : Int)).length : Int) := by simp
 rw [hl1] at h1
 have hlen1 : (List.replicate (ones d) (1 : Int)).length = ones d := List.length_replicate
 generalize List.replicate (ones d) (1 : Int) = R at h1 hb1 hdl hlen1
 rw [hdl]
 unfold A3c.f
 refine Ev.bind (Ones_is d) ?_
 simp only [if_pos (Int.natCast_nonneg (ones d))]
 refine Ev.bind h1 ?_
 by_cases c : ones d < 4
 ·have c' : ((ones d : Nat) : Int) < 4 := by omega
  simp only [if_pos c', if_pos c]
  have h2 := PBits.Put_is R hb1 (by omega) 0 (by decide) 1
  rw [if_neg (by decide), show (1 : Int).toNat = 1 from rfl, show Bs.low 0 1 = [0] from by decide] at h2
  have hb2 : Bs.Bits (R ++ [0]) := hb1.append (Bs.Bits.cons (.inl rfl) Bs.Bits.nil)
  have hl2 : ((R.length + 1 : Nat) : Int) = ((R ++ [0]).length : Int) := by simp
  have hlen2 : (R ++ [0]).length + 64 < 140737488355328 := by rw [List.length_append, List.length_singleton]; omega
  rw [hl2] at h2
  have h3 := PBits.Put_is (R ++ [0]) hb2 hlen2 _ hw ((size (ones d) : Nat) : Int)
  rw [if_neg (by omega), Int.toNat_natCast] at h3
  refine Ev.bind h2 ?_
  simp only [hsz, Option.bind_some]
  refine Ev.bind h3 ?_
  have hz : (R ++ [0]).length + size (ones d) = (R ++ [0] ++ Bs.low (IntKind.u64.wrap d) (size (ones d))).length := by
   generalize R ++ [0] = Q
   rw [List.length_append, Bs.A1a]
  rw [hz]
  exact Ev.now _
 ·have c' : ¬ ((ones d : Nat) : Int) < 4 := by omega
  simp only [if_neg c', if_neg c, List.append_nil]
  have h3 := PBits.Put_is R hb1 (by omega) _ hw ((size (ones d) : Nat) : Int)
  rw [if_neg (by omega), Int.toNat_natCast] at h3
  simp only [hsz, Option.bind_some]
  refine Ev.bind h3 ?_
  rw [show R.length + size (ones d) = (R ++ Bs.low (IntKind.u64.wrap d) (size (ones d))).length from by rw [List.length_append, Bs.A1a]]
  exact Ev.now _
theorem sext7 (v : Int) (h : 0 ≤ v ∧ v < 128) : shr .i64 (wrap64 (shl .u64 v 57)) 57 = if v < 64 then v else v - 128 := by
 unfold shr shl
 rw [show (57 : Int).toNat = 57 from rfl, show IntKind.u64.bits = 64 from rfl, show IntKind.i64.bits = 64 from rfl, show min 57 64 = 57 from rfl, show (2 : Int) ^ 57 = 144115188075855872 from by decide, Ib.wrap_u64]
 unfold wrap64
 split <;> omega
theorem sext9 (v : Int) (h : 0 ≤ v ∧ v < 512) : shr .i64 (wrap64 (shl .u64 v 55)) 55 = if v < 256 then v else v - 512 := by
 unfold shr shl
 rw [show (55 : Int).toNat = 55 from rfl, show IntKind.u64.bits = 64 from rfl, show IntKind.i64.bits = 64 from rfl, show min 55 64 = 55 from rfl, show (2 : Int) ^ 55 = 36028797018963968 from by decide, Ib.wrap_u64]
 unfold wrap64
 split <;> omega
theorem sext12 (v : Int) (h : 0 ≤ v ∧ v < 4096) : shr .i64 (wrap64 (shl .u64 v 52)) 52 = if v < 2048 then v else v - 4096 := by
 unfold shr shl
 rw [show (52 : Int).toNat = 52 from rfl, show IntKind.u64.bits = 64 from rfl, show IntKind.i64.bits = 64 from rfl, show min 52 64 = 52 from rfl, show (2 : Int) ^ 52 = 4503599627370496 from by decide, Ib.wrap_u64]
 unfold wrap64
 split <;> omega
theorem sext64 (v : Int) (h : 0 ≤ v ∧ v < 18446744073709551616) : shr .i64 (wrap64 (shl .u64 v 0)) 0 = if v < 9223372036854775808 then v else v - 18446744073709551616 := by
 unfold shr shl
 rw [show (0 : Int).toNat = 0 from rfl, show IntKind.u64.bits = 64 from rfl, show IntKind.i64.bits = 64 from rfl, show min 0 64 = 0 from rfl, show (2 : Int) ^ 0 = 1 from by decide, Ib.wrap_u64]
 unfold wrap64
 split <;> omega
def lead : Nat → List Int → Nat
 | 0, _ => 0
 | _ + 1, [] => 0
 | f + 1, x :: t => if x = 1 then lead f t + 1 else 0
theorem lead_le : ∀ (f : Nat) (R : List Int), lead f R ≤ f := by
 intro f
 induction f with
 | zero => intro R; exact Nat.le_refl _
 | succ f ih =>
  intro R
  cases R with
  | nil => exact Nat.zero_le _
  | cons x t =>
   have := ih t
   simp only [lead]
   split <;> omega
theorem lead_len : ∀ (f : Nat) (R : List Int), lead f R ≤ R.length := by
 intro f
 induction f with
 | zero => intro R; exact Nat.zero_le _
 | succ f ih =>
  intro R
  cases R with
  | nil => exact Nat.zero_le _
  | cons x t =>
   have := ih t
   simp only [lead, List.length_cons]
   split <;> omega
def sgn (L : List Int) : Int := if Bs.number L < 2 ^ (L.length - 1) then Bs.number L else Bs.number L - 2 ^ L.length
def A3s (R : List Int) : Int × Int × Int :=
 if R.length < min (lead 4 R + 1) 4 + size (lead 4 R) then (0, 0, 2)
 else if ones (sgn ((R.drop (min (lead 4 R + 1) 4)).take (size (lead 4 R)))) = lead 4 R then (sgn ((R.drop (min (lead 4 R + 1) 4)).take (size (lead 4 R))), ((min (lead 4 R + 1) 4 + size (lead 4 R) : Nat) : Int), 0)
 else (0, 0, 3)
theorem lead_one : ∀ (f : Nat) (R : List Int) (j : Nat) (h : j < R.length), j < lead f R → R[j] = 1 := by
 intro f
 induction f with
 | zero => intro R j h hj; exact absurd hj (by simp [lead])
 | succ f ih =>
  intro R j h hj
  cases R with
  | nil => simp at h
  | cons x t =>
   simp only [lead] at hj
   by_cases c : x = 1
   ·rw [if_pos c] at hj
    cases j with
    | zero => exact c
    | succ j => exact ih t j (by simpa using h) (by omega)
   ·rw [if_neg c] at hj; omega
theorem lead_stop : ∀ (f : Nat) (R : List Int) (h : lead f R < R.length), lead f R < f → R[lead f R] ≠ 1 := by
 intro f
 induction f with
 | zero => intro R h hj; omega
 | succ f ih =>
  intro R h hj
  cases R with
  | nil => simp at h
  | cons x t =>
   by_cases c : x = 1
   ·have e : lead (f + 1) (x :: t) = lead f t + 1 := by simp only [lead, if_pos c]
    simp only [e] at h hj ⊢
    simp only [List.getElem_cons_succ]
    exact ih t (by simpa using h) (by omega)
   ·have e : lead (f + 1) (x :: t) = 0 := by simp only [lead, if_neg c]
    simp only [e, List.getElem_cons_zero]
    exact c
theorem tk_bit (L : List Int) (i : Nat) (h : i < L.length) : PBits.tk L (i : Int) 1 = (L[i], true) := by
 rw [PBits.tk_yes (by omega), Int.toNat_natCast, List.drop_eq_getElem_cons h, show (1 : Int).toNat = 1 from rfl, List.take_succ_cons, List.take_zero]
 simp [Bs.number]
theorem tk_end (L : List Int) (i : Nat) (h : L.length ≤ i) : PBits.tk L (i : Int) 1 = (0, false) := PBits.tk_no (by omega)
theorem Get_l0 (b : List Int) (hb : Bs.Bytes b) (hl : 8 * b.length < 140737488355328) (a : Nat) (ha : a ≤ (Bs.flat b).length) (o : Nat) (ho : o = lead 4 ((Bs.flat b).drop a)) (r : Int × Int × Option Int)
    (hr : min (o + 1) 4 ≤ ((Bs.flat b).drop a).length → Ev (fun k => A27.j2 k b (a : Int) (o : Int) ((min (o + 1) 4 : Nat) : Int)) r)
    (hs : ((Bs.flat b).drop a).length < min (o + 1) 4 → r = (0, 0, some 2)) :
    ∀ (e j : Nat), j + e = o → Ev (fun k => A27.l0 k b (a : Int) (j : Int) (j : Int)) r := by
  have hL := Bs.A2n b
  have hB := Bs.A36 b
  have hdl : ((Bs.flat b).drop a).length = (Bs.flat b).length - a := List.length_drop
  have ho4 := lead_le 4 ((Bs.flat b).drop a)
  have hoL := lead_len 4 ((Bs.flat b).drop a)
  rw [← ho] at ho4 hoL
  have ha0 : ¬ ((a : Int) < 0) := by omega
  intro e
  induction e with
  | zero =>
    intro j hj
    obtain rfl : j = o := by omega
    by_cases c4 : j < 4
    · have c4' : (j : Int) < 4 := by omega
      have hm : min (j + 1) 4 = j + 1 := by omega
      have hj4 : a + j < 140737488355328 := by omega
      have hj5 : j < 140737488355328 := by omega
      rw [hm] at hr hs
      by_cases ce : a + j < (Bs.flat b).length
      · have hj2 : j < ((Bs.flat b).drop a).length := by omega
        have hz : (Bs.flat b)[a + j] = 0 := by
          have h1 := lead_stop 4 ((Bs.flat b).drop a) (by rw [← ho]; exact hj2) (by rw [← ho]; exact c4)
          simp only [← ho, List.getElem_drop] at h1
          rcases hB _ (List.getElem_mem ce) with h2 | h2
          · exact h2
          · exact absurd h2 h1
        have hr1 := hr hj2
        have hwa : wrap64 ((a : Int) + (j : Int)) = ((a + j : Nat) : Int) := PBits.wr_add a j hj4
        have hws := PBits.wr_succ j hj5
        refine Ev.step (fun k => by rw [A27.l0]) ?_
        simp only [if_pos c4', hwa]
        refine Ev.bind (PBits.Take_is b hb hl _ 1) ?_
        rw [tk_bit _ _ ce, hz]
        simp only [if_neg ha0, Bool.not_true]
        refine Ev.step (fun k => by rw [A27.j1]) ?_
        simp only [Bool.false_eq_true, if_false, if_true, hws]
        exact hr1
      · have hle : (Bs.flat b).length ≤ a + j := by omega
        have hs1 := hs (by omega)
        have hwa : wrap64 ((a : Int) + (j : Int)) = ((a + j : Nat) : Int) := PBits.wr_add a j hj4
        refine Ev.step (fun k => by rw [A27.l0]) ?_
        simp only [if_pos c4', hwa]
        refine Ev.bind (PBits.Take_is b hb hl _ 1) ?_
        rw [tk_end _ _ hle]
        simp only [if_neg ha0, Bool.not_false]
        refine Ev.step (fun k => by rw [A27.j1]) ?_
        simp only [if_true]
        rw [hs1]
        exact Ev.now _
    · have c4' : ¬ (j : Int) < 4 := by omega
      have hm : min (j + 1) 4 = j := by omega
      rw [hm] at hr
      refine Ev.step (fun k => by rw [A27.l0]) ?_
      simp only [if_neg c4']
      exact hr hoL
  | succ e ih =>
    intro j hj
    have c4' : (j : Int) < 4 := by omega
    have ce : a + j < (Bs.flat b).length := by omega
    have hj2 : j < ((Bs.flat b).drop a).length := by omega
    have hj3 : j < lead 4 ((Bs.flat b).drop a) := by omega
    have hj4 : a + j < 140737488355328 := by omega
    have hj5 : j < 140737488355328 := by omega
    have hj6 : j + 1 + e = o := by omega
    have hz : (Bs.flat b)[a + j] = 1 := by
      have h1 := lead_one 4 ((Bs.flat b).drop a) j hj2 hj3
      rwa [List.getElem_drop] at h1
    have hwa : wrap64 ((a : Int) + (j : Int)) = ((a + j : Nat) : Int) := PBits.wr_add a j hj4
    have hws := PBits.wr_succ j hj5
    have hih := ih (j + 1) hj6
    refine Ev.step (fun k => by rw [A27.l0]) ?_
    simp only [if_pos c4', hwa]
    refine Ev.bind (PBits.Take_is b hb hl _ 1) ?_
    rw [tk_bit _ _ ce, hz]
    simp only [if_neg ha0, Bool.not_true]
    refine Ev.step (fun k => by rw [A27.j1]) ?_
    simp only [Bool.false_eq_true, if_false, show ¬ ((1 : Int) = 0) from by decide, hws]
    exact hih
theorem sext_is (L : List Int) (hL : Bs.Bits L) (o : Nat) (ho : o ≤ 4) (h0 : 0 < o) (hl : L.length = size o) : shr .i64 (wrap64 (shl .u64 (Bs.number L) (wrap64 (64 - ((size o : Nat) : Int))))) (wrap64 (64 - ((size o : Nat) : Int))) = sgn L := by
 have hr := Bs.A2x hL
 unfold sgn
 rw [hl] at hr ⊢
 generalize Bs.number L = v at hr
 obtain rfl | rfl | rfl | rfl : o = 1 ∨ o = 2 ∨ o = 3 ∨ o = 4 := by omega
 ·rw [show wrap64 (64 - ((size 1 : Nat) : Int)) = 57 from by decide +kernel]
  exact sext7 v hr
 ·rw [show wrap64 (64 - ((size 2 : Nat) : Int)) = 55 from by decide +kernel]
  exact sext9 v hr
 ·rw [show wrap64 (64 - ((size 3 : Nat) : Int)) = 52 from by decide +kernel]
  exact sext12 v hr
 ·rw [show wrap64 (64 - ((size 4 : Nat) : Int)) = 0 from by decide +kernel]
  exact sext64 v hr
theorem size_pos {o : Nat} (ho : o ≤ 4) (h0 : 0 < o) : 0 < size o := by
 obtain rfl | rfl | rfl | rfl : o = 1 ∨ o = 2 ∨ o = 3 ∨ o = 4 := by omega
 all_goals decide
def gimp (g : Int × Int × Int) : Int × Int × Option Int := (g.1, g.2.1, if g.2.2 = 0 then none else some g.2.2)
theorem Get_j2 (b : List Int) (hb : Bs.Bytes b) (hl : 8 * b.length < 140737488355328) (a : Nat) (ha : a ≤ (Bs.flat b).length) (o : Nat) (ho : o = lead 4 ((Bs.flat b).drop a)) (hfit : min (o + 1) 4 ≤ ((Bs.flat b).drop a).length) :
    Ev (fun k => A27.j2 k b (a : Int) (o : Int) ((min (o + 1) 4 : Nat) : Int)) (gimp (A3s ((Bs.flat b).drop a))) := by
  have hL := Bs.A2n b
  have hB := Bs.A36 b
  have hdl : ((Bs.flat b).drop a).length = (Bs.flat b).length - a := List.length_drop
  have ho4 := lead_le 4 ((Bs.flat b).drop a)
  rw [← ho] at ho4
  have hs64 := size_le o
  have hszi := size_is o ho4
  have hsp := fun h => size_pos ho4 h
  have hsx := fun M hM h0 hMl => sext_is M hM o ho4 h0 hMl
  obtain ⟨h, hh⟩ : ∃ h, h = min (o + 1) 4 := ⟨_, rfl⟩
  have hh4 : h ≤ 4 := by omega
  have hg : A3s ((Bs.flat b).drop a) = if ((Bs.flat b).drop a).length < h + size o then (0, 0, 2)
    else if ones (sgn ((((Bs.flat b).drop a).drop h).take (size o))) = o then (sgn ((((Bs.flat b).drop a).drop h).take (size o)), ((h + size o : Nat) : Int), 0) else (0, 0, 3) := by
    unfold A3s
    rw [← ho, ← hh]
  rw [hg]
  rw [← hh] at hfit ⊢
  have hdd : ((Bs.flat b).drop a).drop h = (Bs.flat b).drop (a + h) := List.drop_drop
  have hMlen : ¬ ((Bs.flat b).drop a).length < h + size o → (((Bs.flat b).drop (a + h)).take (size o)).length = size o := by
    intro c
    rw [List.length_take, List.length_drop]
    omega
  have hno : ((Bs.flat b).drop a).length < h + size o → (((size o : Nat) : Int) < 0 ∨ ((size o : Nat) : Int) > 64 ∨ ((a + h : Nat) : Int) < 0 ∨ ((a + h : Nat) : Int) > ((Bs.flat b).length : Int) ∨ ((size o : Nat) : Int) > ((Bs.flat b).length : Int) - ((a + h : Nat) : Int)) := by
    intro c
    omega
  have hyes : ¬ ((Bs.flat b).drop a).length < h + size o → ¬ (((size o : Nat) : Int) < 0 ∨ ((size o : Nat) : Int) > 64 ∨ ((a + h : Nat) : Int) < 0 ∨ ((a + h : Nat) : Int) > ((Bs.flat b).length : Int) ∨ ((size o : Nat) : Int) > ((Bs.flat b).length : Int) - ((a + h : Nat) : Int)) := by
    intro c
    omega
  have hb1 : a + h < 140737488355328 := by omega
  have hb2 : h + size o < 140737488355328 := by omega
  have hM : Bs.Bits (((Bs.flat b).drop (a + h)).take (size o)) := (hB.drop _).take _
  have hwa : wrap64 ((a : Int) + (h : Int)) = ((a + h : Nat) : Int) := PBits.wr_add a h hb1
  have hwn : wrap64 ((h : Int) + ((size o : Nat) : Int)) = ((h + size o : Nat) : Int) := PBits.wr_add h (size o) hb2
  have hTk := PBits.Take_is b hb hl ((a + h : Nat) : Int) ((size o : Nat) : Int)
  clear hL hB hdl hg hh hfit hs64 hb1 hb2 ho
  refine Ev.step (fun k => by rw [A27.j2]) ?_
  simp only [hszi, Option.bind_some, hwa]
  refine Ev.bind hTk ?_
  by_cases c : ((Bs.flat b).drop a).length < h + size o
  · rw [PBits.tk_no (hno c), if_pos c]
    simp only [Bool.false_eq_true, if_false]
    exact Ev.now _
  · have hMl := hMlen c
    rw [PBits.tk_yes (hyes c), if_neg c, hdd, Int.toNat_natCast, Int.toNat_natCast]
    simp only [if_true]
    clear hyes hno hMlen hTk hdd
    generalize ((Bs.flat b).drop (a + h)).take (size o) = M at hM hMl
    by_cases c0 : 0 < o
    · have hsi : ((size o : Nat) : Int) > 0 := Int.natCast_pos.2 (hsp c0)
      have hw0 : 0 ≤ wrap64 (64 - ((size o : Nat) : Int)) := by
        clear hwa hwn
        have := size_le o
        rw [PBits.w64 _ (by omega)]
        omega
      have hsx := hsx M hM c0 hMl
      simp only [if_pos hsi, if_pos hw0, hsx]
      refine Ev.bind (Ones_is _) ?_
      by_cases e : ones (sgn M) = o
      · have e' : ((ones (sgn M) : Nat) : Int) = (o : Int) := congrArg _ e
        simp only [if_pos e', if_pos e, hwn]
        exact Ev.now _
      · have e' : ¬ ((ones (sgn M) : Nat) : Int) = (o : Int) := fun h => e (Int.ofNat_inj.1 h)
        simp only [if_neg e', if_neg e]
        exact Ev.now _
    · obtain rfl : o = 0 := Nat.eq_zero_of_not_pos c0
      have hM0 : M = [] := List.eq_nil_of_length_eq_zero hMl
      subst hM0
      have hsi : ¬ (((size 0 : Nat) : Int) > 0) := by decide
      have hz : wrap64 (Bs.number []) = 0 := by decide +kernel
      have hz2 : sgn [] = 0 := by decide +kernel
      simp only [if_neg hsi, hz, hz2]
      refine Ev.bind (Ones_is _) ?_
      have e : ones 0 = 0 := by decide
      have e' : ((ones 0 : Nat) : Int) = ((0 : Nat) : Int) := by rw [e]
      simp only [if_pos e', if_pos e, hwn]
      exact Ev.now _
theorem gspec_nil : A3s [] = (0, 0, 2) := by decide +kernel
theorem Get_is (b : List Int) (hb : Bs.Bytes b) (hl : 8 * b.length < 140737488355328) (a : Int) (ha : -9223372036854775808 ≤ a ∧ a < 9223372036854775808) : Ev (fun k => A27.f k b a) (gimp (A3s (restL (Bs.flat b) a))) := by
 have hL := Bs.A2n b
 unfold A27.f
 by_cases c : a < 0 ∨ a > ((Bs.flat b).length : Int)
 ·have hr : restL (Bs.flat b) a = [] := if_pos c
  have h04 : (0 : Int) < 4 := by decide
  rw [hr, gspec_nil]
  have hw : wrap64 (a + 0) < 0 ∨ wrap64 (a + 0) > ((Bs.flat b).length : Int) := by rw [PBits.w64 _ (by omega)]; omega
  refine Ev.step (fun k => by rw [A27.l0]) ?_
  simp only [if_pos h04]
  refine Ev.bind (PBits.Take_is b hb hl _ 1) ?_
  rw [PBits.tk_no (by omega)]
  by_cases c0 : a < 0
  ·simp only [if_pos c0]
   refine Ev.step (fun k => by rw [A27.j1]) ?_
   simp only [if_true]
   exact Ev.now _
  ·simp only [if_neg c0, Bool.not_false]
   refine Ev.step (fun k => by rw [A27.j1]) ?_
   simp only [if_true]
   exact Ev.now _
 ·have hr : restL (Bs.flat b) a = (Bs.flat b).drop a.toNat := if_neg c
  rw [hr]
  obtain ⟨n, rfl⟩ : ∃ n : Nat, a = (n : Int) := ⟨a.toNat, by omega⟩
  rw [Int.toNat_natCast]
  have hn : n ≤ (Bs.flat b).length := by omega
  refine Get_l0 b hb hl n hn (lead 4 ((Bs.flat b).drop n)) rfl _ (fun hf => Get_j2 b hb hl n hn _ rfl hf) (fun hs => ?_) (lead 4 ((Bs.flat b).drop n)) 0 (by omega)
  unfold A3s
  rw [if_pos (by omega)]
  rfl
theorem pow64 : (2 : Int) ^ 64 = 18446744073709551616 := by decide
theorem dodL_length (d : Int) : (dodL d).length = min (ones d + 1) 4 + size (ones d) := by
 have ho := ones_le d
 unfold dodL
 rw [List.length_append, List.length_append, List.length_replicate, Bs.A1a]
 split
 ·rw [List.length_singleton]; omega
 ·rw [List.length_nil]; omega
theorem size_inj (o p : Nat) (ho : o ≤ 4) (hp : p ≤ 4) (h : min (o + 1) 4 + size o = min (p + 1) 4 + size p) : o = p := by
 have : ∀ i j : Fin 5, min (i.val + 1) 4 + size i.val = min (j.val + 1) 4 + size j.val → i.val = j.val := by decide
 exact this ⟨o, by omega⟩ ⟨p, by omega⟩ h
theorem low_sgn (M : List Int) (hM : Bs.Bits M) (h64 : M.length ≤ 64) : Bs.low (sgn M % 18446744073709551616) M.length = M := by
 have hr := Bs.A2x hM
 refine Eq.trans (Bs.low_congr ?_) (Bs.A39 hM)
 rw [← pow64, Int.emod_emod_of_dvd _ ⟨2 ^ (64 - M.length), by rw [← Int.pow_add]; congr 1; omega⟩]
 unfold sgn
 split
 ·rfl
 ·exact Int.sub_emod_right _ _
theorem lead_take (o : Nat) : ∀ (f : Nat) (R : List Int), lead f R = o → R.take o = List.replicate o 1 := by
 induction o with
 | zero => intro f R h; rfl
 | succ o ih =>
  intro f R h
  cases f with
  | zero => simp [lead] at h
  | succ f =>
   cases R with
   | nil => simp [lead] at h
   | cons x t =>
    simp only [lead] at h
    by_cases c : x = 1
    ·rw [if_pos c] at h
     rw [List.take_succ_cons, List.replicate_succ, c, ih f t (by omega)]
    ·rw [if_neg c] at h; omega
theorem dodL_take (R : List Int) (hR : Bs.Bits R) (o : Nat) (ho : o = lead 4 R) (hfit : min (o + 1) 4 + size o ≤ R.length) (he : ones (sgn ((R.drop (min (o + 1) 4)).take (size o))) = o) :
    dodL (sgn ((R.drop (min (o + 1) 4)).take (size o))) = R.take (min (o + 1) 4 + size o) := by
  have ho4 := lead_le 4 R
  rw [← ho] at ho4
  have hMl : ((R.drop (min (o + 1) 4)).take (size o)).length = size o := by rw [List.length_take, List.length_drop]; omega
  have hM : Bs.Bits ((R.drop (min (o + 1) 4)).take (size o)) := (hR.drop _).take _
  have hls := low_sgn _ hM (by rw [hMl]; exact size_le o)
  rw [hMl] at hls
  unfold dodL
  rw [he, hls, List.take_add]
  congr 1
  have h1 := lead_take o 4 R ho.symm
  by_cases c : o < 4
  · rw [if_pos c, show min (o + 1) 4 = o + 1 from by omega, List.take_add_one, h1]
    have hlt : o < R.length := by omega
    have hst := lead_stop 4 R (by rw [← ho]; exact hlt) (by rw [← ho]; exact c)
    simp only [← ho] at hst
    have h0 : R[o] = 0 := by
      rcases hR _ (List.getElem_mem hlt) with h | h
      · exact h
      · exact absurd h hst
    rw [List.getElem?_eq_getElem hlt, h0]
    rfl
  · rw [if_neg c, show min (o + 1) 4 = o from by omega, List.append_nil, h1]
theorem gspec_code (R : List Int) : (A3s R).2.2 = 0 ∨ (A3s R).2.2 = 2 ∨ (A3s R).2.2 = 3 := by
 unfold A3s
 split
 ·exact .inr (.inl rfl)
 split
 ·exact .inl rfl
 ·exact .inr (.inr rfl)
end Go.Proofs.YtiahbcaoikoogabDoor.PDod
end
section
namespace Go.Proofs.YtiahbcaoikoogabDoor.PTab
open Go Go.RowKit Go.Proofs.YtiahbcaoikoogabDoor Go.Proofs.YtiahbcaoikoogabDoor.All Go.Proofs.YtiahbcaoikoogabDoorW.PrintWords Go.Proofs.YtiahbcaoikoogabDoorW.PrintLast
open Go.Proofs.YtiahbcaoikoogabDoor.PDod (lead size A3s gimp sgn ones)
set_option linter.unusedVariables false
set_option linter.unusedSimpArgs false
theorem lead_cut : ∀ (f m : Nat) (L : List Int), f ≤ m → lead f (L.take m) = lead f L := by
 intro f
 induction f with
 | zero => intro m L h; rfl
 | succ f ih =>
  intro m L h
  obtain ⟨m, rfl⟩ : ∃ n, m = n + 1 := ⟨m - 1, by omega⟩
  cases L with
  | nil => rfl
  | cons x t =>
   rw [List.take_succ_cons]
   simp only [lead]
   rw [ih m t (by omega)]
theorem lead_zeros : ∀ (f : Nat) (L : List Int) (n : Nat), lead f (L ++ List.replicate n 0) = lead f L := by
 intro f
 induction f with
 | zero => intro L n; rfl
 | succ f ih =>
  intro L n
  cases L with
  | nil =>
   cases n with
   | zero => rfl
   | succ n =>
    rw [List.replicate_succ, List.nil_append]
    simp only [lead, show ¬ ((0 : Int) = 1) from by decide, if_false]
  | cons x t =>
   rw [List.cons_append]
   simp only [lead, ih t n]
theorem row_is (B : List Int) (hB : Bs.Bits B) (h8 : B.length = 8) : tab_row.f (Bs.number B) = some (((min (lead 4 B + 1) 4 : Nat) : Int), ((size (lead 4 B) : Nat) : Int)) := by
 have hr := Bs.A2x hB
 have hl := Bs.A39 hB
 rw [h8] at hr hl
 have hr2 : Bs.number B < 256 := hr.2
 have all : ∀ i : Fin 256, tab_row.f ((i.val : Nat) : Int) = some (((min (lead 4 (Bs.low ((i.val : Nat) : Int) 8) + 1) 4 : Nat) : Int), ((size (lead 4 (Bs.low ((i.val : Nat) : Int) 8)) : Nat) : Int)) := by decide +kernel
 have h := all ⟨(Bs.number B).toNat, by omega⟩
 simp only [Int.toNat_of_nonneg hr.1] at h
 rw [hl] at h
 exact h
theorem pk8_is (R : List Int) (hR : Bs.Bits R) : tab_row.f (PFill.pk R 8) = some (((min (lead 4 R + 1) 4 : Nat) : Int), ((size (lead 4 R) : Nat) : Int)) := by
 have e : PFill.pk R 8 = Bs.number ((R ++ List.replicate 8 0).take 8) := rfl
 rw [e, row_is _ ((hR.append (Bs.Bits.zeros 8)).take 8) (by rw [List.length_take, List.length_append, List.length_replicate]; omega), lead_cut 4 8 _ (by decide), lead_zeros]
theorem Get_is {R b : List Int} {u h : Int} (hI : PFill.Inv R b u h) :
    ∃ b' u' h', Ev (fun k => A10.f k b u h) ((gimp (A3s R)).1, (gimp (A3s R)).2.2, b', u', h') ∧ ((A3s R).2.2 = 0 → PFill.Inv (R.drop (A3s R).2.1.toNat) b' u' h') := by
  have hR := hI.bits
  have hlen := hI.len
  obtain ⟨b1, u1, h1, hE1, hI1, _⟩ := PFill.Peek_is hI 8
  have hrow := pk8_is R hR
  have ho4 := PDod.lead_le 4 R
  obtain ⟨o, ho⟩ : ∃ o, o = lead 4 R := ⟨_, rfl⟩
  obtain ⟨hd, hh⟩ : ∃ hd, hd = min (o + 1) 4 := ⟨_, rfl⟩
  rw [← ho] at ho4 hrow
  have hsz := PDod.size_le o
  have hh4 : hd ≤ 4 := by omega
  have hg : A3s R = if R.length < hd + size o then (0, 0, 2)
    else if ones (sgn ((R.drop hd).take (size o))) = o then (sgn ((R.drop hd).take (size o)), ((hd + size o : Nat) : Int), 0) else (0, 0, 3) := by
    unfold A3s
    rw [← ho, ← hh]
  rw [← hh] at hrow
  obtain ⟨b2, u2, h2, hE2, hI2⟩ := PFill.Skip_is hI1 (hd : Int) (by omega)
  by_cases c1 : hd ≤ R.length
  · have c1' : 0 ≤ (hd : Int) ∧ (hd : Int) ≤ (R.length : Int) := by omega
    rw [decide_eq_true c1'] at hE2
    rw [if_pos c1', Int.toNat_natCast] at hI2
    obtain ⟨b3, u3, h3, hE3, hI3⟩ := PFill.Read_is hI2 ((size o : Nat) : Int)
    have hdl : (R.drop hd).length = R.length - hd := List.length_drop
    by_cases c2 : R.length < hd + size o
    · have hno : ((size o : Nat) : Int) < 0 ∨ ((size o : Nat) : Int) > 64 ∨ ((size o : Nat) : Int) > ((R.drop hd).length : Int) := by omega
      rw [show PFill.rdv (R.drop hd) ((size o : Nat) : Int) = (0, false) from if_pos hno] at hE3
      rw [hg, if_pos c2]
      refine ⟨b3, u3, h3, ?_, fun h => absurd h (by decide)⟩
      unfold A10.f
      refine Ev.bind hE1 ?_
      simp only [hrow, Option.bind_some]
      refine Ev.bind hE2 ?_
      simp only [if_true]
      refine Ev.bind hE3 ?_
      simp only [Bool.false_eq_true, if_false]
      exact Ev.now _
    · have hyes : ¬ (((size o : Nat) : Int) < 0 ∨ ((size o : Nat) : Int) > 64 ∨ ((size o : Nat) : Int) > ((R.drop hd).length : Int)) := by omega
      rw [show PFill.rdv (R.drop hd) ((size o : Nat) : Int) = (Bs.number ((R.drop hd).take (size o)), true) from by
        unfold PFill.rdv
        rw [if_neg hyes, Int.toNat_natCast]] at hE3
      rw [show PFill.rdR (R.drop hd) ((size o : Nat) : Int) = R.drop (hd + size o) from by
        unfold PFill.rdR
        rw [if_neg hyes, Int.toNat_natCast, List.drop_drop]] at hI3
      have hM : Bs.Bits ((R.drop hd).take (size o)) := (hR.drop _).take _
      have hMl : ((R.drop hd).take (size o)).length = size o := by rw [List.length_take, hdl]; omega
      rw [hg, if_neg c2]
      have hsp := fun h0 => PDod.size_pos ho4 h0
      have hsx := fun h0 => PDod.sext_is _ hM o ho4 h0 hMl
      have hb2 : hd + size o < 140737488355328 := by omega
      have hsi := fun v e => PDod.size_inj (ones v) o (PDod.ones_le v) ho4 e
      have hlenD := fun v => PDod.dodL_length v
      rw [← hh] at hsi
      have hg0 : 0 ≤ wrap64 (64 - ((size o : Nat) : Int)) := by
        rw [PBits.w64 _ (by omega)]
        omega
      have hwn : wrap64 ((hd : Int) + ((size o : Nat) : Int)) = ((hd + size o : Nat) : Int) := by
        rw [PBits.w64 _ (by omega)]
        omega
      generalize (R.drop hd).take (size o) = M at *
      clear hb2 hh4 hlen hdl c1 c1' hyes c2
      by_cases c0 : 0 < o
      · have hne : ¬ (((size o : Nat) : Int) = 0) := fun e => Nat.ne_of_gt (hsp c0) (Int.ofNat_inj.1 e)
        by_cases e : ones (sgn M) = o
        · have e' : ((PDod.dodL (sgn M)).length : Int) = ((hd + size o : Nat) : Int) := by rw [hlenD, e, ← hh]
          rw [if_pos e]
          refine ⟨b3, u3, h3, ?_, fun _ => ?_⟩
          · unfold A10.f
            refine Ev.bind hE1 ?_
            simp only [hrow, Option.bind_some]
            refine Ev.bind hE2 ?_
            simp only [if_true]
            refine Ev.bind hE3 ?_
            simp only [if_true, if_neg hne, if_pos hg0, hsx c0, hwn]
            refine Ev.bind (PDod.Code_is _) ?_
            simp only [if_pos e']
            exact Ev.now _
          · rw [Int.toNat_natCast]
            exact hI3
        · have e' : ¬ ((PDod.dodL (sgn M)).length : Int) = ((hd + size o : Nat) : Int) := fun h => e (hsi _ ((hlenD _).symm.trans (Int.ofNat_inj.1 h)))
          rw [if_neg e]
          refine ⟨b3, u3, h3, ?_, fun h => absurd h (by decide)⟩
          unfold A10.f
          refine Ev.bind hE1 ?_
          simp only [hrow, Option.bind_some]
          refine Ev.bind hE2 ?_
          simp only [if_true]
          refine Ev.bind hE3 ?_
          simp only [if_true, if_neg hne, if_pos hg0, hsx c0, hwn]
          refine Ev.bind (PDod.Code_is _) ?_
          simp only [if_neg e']
          exact Ev.now _
      · obtain rfl : o = 0 := Nat.eq_zero_of_not_pos c0
        have hM0 : M = [] := List.eq_nil_of_length_eq_zero hMl
        subst hM0
        have e : ones (sgn []) = 0 := by decide
        rw [if_pos e]
        refine ⟨b3, u3, h3, ?_, fun _ => ?_⟩
        · have hz : ((size 0 : Nat) : Int) = 0 := rfl
          have hz2 : sgn [] = 0 := by decide +kernel
          unfold A10.f
          refine Ev.bind hE1 ?_
          simp only [hrow, Option.bind_some]
          refine Ev.bind hE2 ?_
          simp only [if_true]
          refine Ev.bind hE3 ?_
          simp only [if_true, if_pos hz]
          rw [hz2]
          exact Ev.now _
        · rw [Int.toNat_natCast]
          exact hI3
  · have c1' : ¬ (0 ≤ (hd : Int) ∧ (hd : Int) ≤ (R.length : Int)) := by omega
    rw [decide_eq_false c1'] at hE2
    rw [hg, if_pos (by omega)]
    refine ⟨b2, u2, h2, ?_, fun h => absurd h (by decide)⟩
    unfold A10.f
    refine Ev.bind hE1 ?_
    simp only [hrow, Option.bind_some]
    refine Ev.bind hE2 ?_
    simp only [Bool.false_eq_true, if_false]
    exact Ev.now _
end Go.Proofs.YtiahbcaoikoogabDoor.PTab
end
section
namespace Go.Proofs.YtiahbcaoikoogabDoor.PKinds
open Go Go.RowKit Go.Proofs.YtiahbcaoikoogabDoor Go.Proofs.YtiahbcaoikoogabDoor.All Go.Proofs.YtiahbcaoikoogabDoorW.PrintWords Go.Proofs.YtiahbcaoikoogabDoorW.PrintLast
set_option linter.unusedVariables false
set_option linter.unusedSimpArgs false
abbrev S8 := Int × Int × Int × Int × Int × Int × Int × Int
def aft (kind n t d v e xp xl xn T V ap al an : Int) : S8 :=
 (wrap64 (n + 1), T, if n > 0 then wrap64 (T - t) else 0, V, if kind = 1 then 0 else if n > 0 then IntKind.u64.wrap (V - v) else 0,
  if kind = 1 then (if n = 0 then V else ap) else 0, if kind = 1 then (if n = 0 then 0 else al) else 0, if kind = 1 then (if n = 0 then 0 else an) else 0)
theorem After_is (kind n t d v e xp xl xn T V ap al an : Int) (hn : 0 ≤ n) : Ev (fun k => A0t.f k kind n t d v e xp xl xn T V ap al an) (aft kind n t d v e xp xl xn T V ap al an) := by
 unfold A0t.f aft
 by_cases c : n > 0
 ·have c0 : ¬ n = 0 := by omega
  have cb : (n == 0) = false := beq_eq_false_iff_ne.mpr c0
  simp only [if_pos c, if_neg c0]
  by_cases c1 : kind = 1
  ·simp only [if_pos c1]
   exact Ev.step (fun k => by rw [A0t.j0, if_pos c1, cb]) (Ev.step (fun k => by rw [A0t.j1, if_neg Bool.false_ne_true, if_pos c1]) (Ev.now _))
  ·simp only [if_neg c1]
   exact Ev.step (fun k => by rw [A0t.j0, if_neg c1]) (Ev.step (fun k => by rw [A0t.j1, if_neg Bool.false_ne_true, if_neg c1, if_pos c]) (Ev.now _))
 ·have c0 : n = 0 := by omega
  have cb : (n == 0) = true := beq_iff_eq.mpr c0
  simp only [if_neg c, if_pos c0]
  by_cases c1 : kind = 1
  ·simp only [if_pos c1]
   exact Ev.step (fun k => by rw [A0t.j0, if_pos c1, cb]) (Ev.step (fun k => by rw [A0t.j1, if_pos rfl]) (Ev.now _))
  ·simp only [if_neg c1]
   exact Ev.step (fun k => by rw [A0t.j0, if_neg c1]) (Ev.step (fun k => by rw [A0t.j1, if_neg Bool.false_ne_true, if_neg c1, if_neg c]) (Ev.now _))
theorem wrap_sub (T t : Int) : wrap64 (IntKind.u64.wrap (IntKind.u64.wrap T - IntKind.u64.wrap t)) = wrap64 (T - t) := by
 simp only [Ib.wrap_u64]
 unfold wrap64
 omega
theorem wrap_add3 (t d s : Int) : wrap64 (IntKind.u64.wrap (IntKind.u64.wrap (IntKind.u64.wrap t + IntKind.u64.wrap d) + IntKind.u64.wrap s)) = wrap64 (wrap64 (t + d) + s) := by
 simp only [Ib.wrap_u64]
 unfold wrap64
 omega
theorem RAfter_is (kind n t d v e xp xl xn T V ap al an : Int) (hn : 0 ≤ n) : Ev (fun k => A07.f k kind n t d v e xp xl xn T V ap al an) (aft kind n t d v e xp xl xn T V ap al an) := by
 unfold A07.f aft
 by_cases c : n > 0
 ·have c0 : ¬ n = 0 := by omega
  have cb : (n == 0) = false := beq_eq_false_iff_ne.mpr c0
  simp only [if_pos c, if_neg c0, cb]
  refine Ev.step (fun k => by rw [A07.j0, if_neg Bool.false_ne_true, wrap_sub]) ?_
  by_cases c1 : kind = 1
  ·simp only [if_pos c1]
   exact Ev.step (fun k => by rw [A07.j2, if_pos c1]) (Ev.now _)
  ·simp only [if_neg c1]
   exact Ev.step (fun k => by rw [A07.j2, if_neg c1]) (Ev.now _)
 ·have c0 : n = 0 := by omega
  have cb : (n == 0) = true := beq_iff_eq.mpr c0
  simp only [if_neg c, if_pos c0, cb]
  by_cases c1 : kind = 1
  ·simp only [if_pos c1]
   exact Ev.step (fun k => by rw [A07.j0, if_pos rfl, if_pos c1]) (Ev.step (fun k => by rw [A07.j1]) (Ev.now _))
  ·simp only [if_neg c1]
   exact Ev.step (fun k => by rw [A07.j0, if_pos rfl, if_neg c1]) (Ev.now _)
end Go.Proofs.YtiahbcaoikoogabDoor.PKinds
end
