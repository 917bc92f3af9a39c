-- declarations that this claim needs, copied by a program of the session
import Derived.Test.YtiahbcaoikoogaaDoorKcPBits2
import Derived.Test.YtiahbcaoikoogaaDoorKcAllx30
import Derived.Test.YtiahbcaoikoogaaDoorKcIs
import Derived.Lib.ItoaNum
section
namespace Go.Proofs.YtiahbcaoikoogaaDoor.PDod
open Go Go.RowKit Go.Proofs.YtiahbcaoikoogaaDoor Go.Proofs.YtiahbcaoikoogaaDoor.All Go.Proofs.YtiahbcaoikoogaaDoorW.PrintWords Go.Proofs.YtiahbcaoikoogaaDoorW.PrintLast
set_option linter.unusedVariables false
set_option linter.unusedSimpArgs false
def ones (d : Int) : Nat :=
  if d = 0 then 0 else if -64 ≤ d ∧ d < 64 then 1 else if -256 ≤ d ∧ d < 256 then 2 else if -2048 ≤ d ∧ d < 2048 then 3 else 4
def size : Nat → Nat
  | 0 => 0
  | 1 => 7
  | 2 => 9
  | 3 => 12
  | _ => 64
theorem ones_le (d : Int) : ones d ≤ 4 := by unfold ones; (repeat' split) <;> omega
theorem l1 (d : Int) (k : Nat) : dod_ones.l0 (k + 1) d 1 = if d ≥ -64 then (if d < 64 then some 1 else dod_ones.l0 k d 2) else dod_ones.l0 k d 2 := by
  rw [dod_ones.l0, if_pos (by decide), show dod_body.f 1 = some 7 from rfl, Option.bind_some, if_pos (show (0 : Int) ≤ wrap64 (7 - 1) by decide +kernel), show wrap64 (1 + 1) = 2 from by decide +kernel, show wrap64 (-(shl .i64 1 (wrap64 (7 - 1)))) = -64 from by decide +kernel, show shl .i64 1 (wrap64 (7 - 1)) = 64 from by decide +kernel]
theorem l2 (d : Int) (k : Nat) : dod_ones.l0 (k + 1) d 2 = if d ≥ -256 then (if d < 256 then some 2 else dod_ones.l0 k d 3) else dod_ones.l0 k d 3 := by
  rw [dod_ones.l0, if_pos (by decide), show dod_body.f 2 = some 9 from rfl, Option.bind_some, if_pos (show (0 : Int) ≤ wrap64 (9 - 1) by decide +kernel), show wrap64 (2 + 1) = 3 from by decide +kernel, show wrap64 (-(shl .i64 1 (wrap64 (9 - 1)))) = -256 from by decide +kernel, show shl .i64 1 (wrap64 (9 - 1)) = 256 from by decide +kernel]
theorem l3 (d : Int) (k : Nat) : dod_ones.l0 (k + 1) d 3 = if d ≥ -2048 then (if d < 2048 then some 3 else dod_ones.l0 k d 4) else dod_ones.l0 k d 4 := by
  rw [dod_ones.l0, if_pos (by decide), show dod_body.f 3 = some 12 from rfl, Option.bind_some, if_pos (show (0 : Int) ≤ wrap64 (12 - 1) by decide +kernel), show wrap64 (3 + 1) = 4 from by decide +kernel, show wrap64 (-(shl .i64 1 (wrap64 (12 - 1)))) = -2048 from by decide +kernel, show shl .i64 1 (wrap64 (12 - 1)) = 2048 from by decide +kernel]
theorem l4 (d : Int) (k : Nat) : dod_ones.l0 (k + 1) d 4 = some 4 := by
  rw [dod_ones.l0, if_neg (by decide)]
theorem Ones_is (d : Int) : Ev (fun k => dod_ones.f k d) ((ones d : Nat) : Int) := by
  refine ⟨4, fun k hk => ?_⟩
  obtain ⟨k, rfl⟩ : ∃ j, k = j + 4 := ⟨k - 4, by omega⟩
  show dod_ones.f (k + 4) d = _
  unfold dod_ones.f ones
  by_cases h0 : d = 0
  · rw [if_pos h0, if_pos h0]; rfl
  rw [if_neg h0, if_neg h0, l1, l2, l3, l4]
  repeat' split
  all_goals first | rfl | (exfalso; omega)
def dodL (d : Int) : List Int := List.replicate (ones d) 1 ++ (if ones d < 4 then [0] else []) ++ Bs.low (d % 18446744073709551616) (size (ones d))
theorem dodL_bits (d : Int) : Bs.Bits (dodL d) := by
  refine Bs.Bits.append (Bs.Bits.append (Bs.Bits.ones _) ?_) (Bs.low_bits _ _)
  split
  · exact Bs.Bits.cons (.inl rfl) Bs.Bits.nil
  · exact Bs.Bits.nil
theorem size_le (o : Nat) : size o ≤ 64 := by unfold size; split <;> omega
theorem size_is (o : Nat) (h : o ≤ 4) : dod_body.f (o : Int) = some ((size o : Nat) : Int) := by
  have : ∀ i : Fin 5, dod_body.f ((i.val : Nat) : Int) = some ((size i.val : Nat) : Int) := by decide +kernel
  exact this ⟨o, by omega⟩
theorem low_ones (o : Nat) (h : o ≤ 4) : Bs.low (IntKind.u64.wrap ((shl .u64 1 (o : Int)) - 1)) o = List.replicate o 1 := by
  have : ∀ i : Fin 5, Bs.low (IntKind.u64.wrap ((shl .u64 1 ((i.val : Nat) : Int)) - 1)) i.val = List.replicate i.val 1 := by decide +kernel
  exact this ⟨o, by omega⟩
theorem Code_is (d : Int) : Ev (fun k => dod_Code.f k d) (Bs.pack (dodL d), ((dodL d).length : Int)) := by
  have ho := ones_le d
  have hs := size_le (ones d)
  have hsz := size_is (ones d) ho
  have hlo := low_ones (ones d) ho
  have hw : 0 ≤ IntKind.u64.wrap (d) ∧ IntKind.u64.wrap (d) < 18446744073709551616 := by rw [Ib.wrap_u64]; omega
  have hwo : 0 ≤ IntKind.u64.wrap ((shl .u64 1 ((ones d : Nat) : Int)) - 1) ∧ IntKind.u64.wrap ((shl .u64 1 ((ones d : Nat) : Int)) - 1) < 18446744073709551616 := by rw [Ib.wrap_u64]; omega
  have hdl : dodL d = List.replicate (ones d) 1 ++ (if ones d < 4 then [0] else []) ++ Bs.low (IntKind.u64.wrap d) (size (ones d)) := by rw [Ib.wrap_u64]; rfl
  have h1 := PBits.Put_is [] Bs.Bits.nil (by simp) _ hwo ((ones d : Nat) : Int)
  rw [Bs.pack_nil, if_neg (by omega), Int.toNat_natCast, hlo, List.nil_append] at h1
  have hb1 : Bs.Bits (List.replicate (ones d) (1 : Int)) := Bs.Bits.ones _
  have hl1 : ((([] : List Int).length + ones d : Nat) : Int) = ((List.replicate (ones d) (1 : Int)).length : Int) := by simp
  rw [hl1] at h1
  have hlen1 : (List.replicate (ones d) (1 : Int)).length = ones d := List.length_replicate
  generalize List.replicate (ones d) (1 : Int) = R at h1 hb1 hdl hlen1
  rw [hdl]
  unfold dod_Code.f
  refine Ev.bind (Ones_is d) ?_
  simp only [if_pos (Int.natCast_nonneg (ones d))]
  refine Ev.bind h1 ?_
  by_cases c : ones d < 4
  · have c' : ((ones d : Nat) : Int) < 4 := by omega
    simp only [if_pos c', if_pos c]
    have h2 := PBits.Put_is R hb1 (by omega) 0 (by decide) 1
    rw [if_neg (by decide), show (1 : Int).toNat = 1 from rfl, show Bs.low 0 1 = [0] from by decide] at h2
    have hb2 : Bs.Bits (R ++ [0]) := hb1.append (Bs.Bits.cons (.inl rfl) Bs.Bits.nil)
    have hl2 : ((R.length + 1 : Nat) : Int) = ((R ++ [0]).length : Int) := by simp
    have hlen2 : (R ++ [0]).length + 64 < 140737488355328 := by rw [List.length_append, List.length_singleton]; omega
    rw [hl2] at h2
    have h3 := PBits.Put_is (R ++ [0]) hb2 hlen2 _ hw ((size (ones d) : Nat) : Int)
    rw [if_neg (by omega), Int.toNat_natCast] at h3
    refine Ev.bind h2 ?_
    simp only [hsz, Option.bind_some]
    refine Ev.bind h3 ?_
    have hz : (R ++ [0]).length + size (ones d) = (R ++ [0] ++ Bs.low (IntKind.u64.wrap d) (size (ones d))).length := by
      generalize R ++ [0] = Q
      rw [List.length_append, Bs.low_length]
    rw [hz]
    exact Ev.now _
  · have c' : ¬ ((ones d : Nat) : Int) < 4 := by omega
    simp only [if_neg c', if_neg c, List.append_nil]
    have h3 := PBits.Put_is R hb1 (by omega) _ hw ((size (ones d) : Nat) : Int)
    rw [if_neg (by omega), Int.toNat_natCast] at h3
    simp only [hsz, Option.bind_some]
    refine Ev.bind h3 ?_
    rw [show R.length + size (ones d) = (R ++ Bs.low (IntKind.u64.wrap d) (size (ones d))).length from by rw [List.length_append, Bs.low_length]]
    exact Ev.now _
theorem dodL_length (d : Int) : (dodL d).length = min (ones d + 1) 4 + size (ones d) := by
  have ho := ones_le d
  unfold dodL
  rw [List.length_append, List.length_append, List.length_replicate, Bs.low_length]
  split
  · rw [List.length_singleton]; omega
  · rw [List.length_nil]; omega
end Go.Proofs.YtiahbcaoikoogaaDoor.PDod
end
section
namespace Go.Proofs.YtiahbcaoikoogaaDoor.PDod
open Go Go.RowKit Go.Proofs.YtiahbcaoikoogaaDoor Go.Proofs.YtiahbcaoikoogaaDoor.All Go.Proofs.YtiahbcaoikoogaaDoorW.PrintWords Go.Proofs.YtiahbcaoikoogaaDoorW.PrintLast
set_option linter.unusedVariables false
set_option linter.unusedSimpArgs false
theorem Room_l0 (d : Int) (n : Nat) (hn : n ≤ 60) : ∀ (e j : Nat), j + e + 1 = n → Ev (fun k => gaiterref01_Room.l0 k d (n : Int) (2 ^ j) ((j + 1 : Nat) : Int)) (decide (-(2 ^ (n - 1)) ≤ d ∧ d < 2 ^ (n - 1))) := by
  intro e
  induction e with
  | zero =>
    intro j hj
    have hp : (2 : Int) ^ j ≤ 2 ^ 60 := PBits.pow_le (by omega)
    rw [show (2 : Int) ^ 60 = 1152921504606846976 from by decide] at hp
    have h0 := Bs.pow_pos j
    have hno : ¬ (((j + 1 : Nat) : Int) < (n : Int)) := by omega
    have hw1 : wrap64 (-(2 ^ j)) = -(2 ^ j) := PBits.w64 _ (by omega)
    have hw2 : wrap64 (2 ^ j - 1) = 2 ^ j - 1 := PBits.w64 _ (by omega)
    rw [show n - 1 = j from by omega]
    refine Ev.step (fun k => by rw [gaiterref01_Room.l0]) ?_
    simp only [if_neg hno, hw1, hw2]
    by_cases c : d ≥ -(2 ^ j)
    · simp only [if_pos c]
      rw [show decide (d ≤ 2 ^ j - 1) = decide (-(2 ^ j) ≤ d ∧ d < 2 ^ j) from decide_eq_decide.2 (by omega)]
      exact Ev.now _
    · simp only [if_neg c]
      rw [decide_eq_false (show ¬ (-(2 ^ j) ≤ d ∧ d < 2 ^ j) by omega)]
      exact Ev.now _
  | succ e ih =>
    intro j hj
    have hp : (2 : Int) ^ (j + 1) ≤ 2 ^ 60 := PBits.pow_le (by omega)
    rw [show (2 : Int) ^ 60 = 1152921504606846976 from by decide] at hp
    have h0 := Bs.pow_pos (j + 1)
    have hin : ((j + 1 : Nat) : Int) < (n : Int) := by omega
    have hih := ih (j + 1) (by omega)
    have hj47 : j + 1 < 140737488355328 := by omega
    have hw1 : wrap64 (2 * 2 ^ j) = 2 ^ (j + 1) := by
      rw [Int.pow_succ, Int.mul_comm] at hp h0 ⊢
      exact PBits.w64 _ (by omega)
    have hw2 := PBits.wr_succ (j + 1) hj47
    refine Ev.step (fun k => by rw [gaiterref01_Room.l0]) ?_
    simp only [if_pos hin, hw1, hw2]
    exact hih
theorem Room_is (d : Int) (n : Nat) (h0 : 0 < n) (hn : n ≤ 60) : Ev (fun k => gaiterref01_Room.f k d (n : Int)) (decide (-(2 ^ (n - 1)) ≤ d ∧ d < 2 ^ (n - 1))) :=
  Room_l0 d n hn (n - 1) 0 (by omega)
theorem ROnes_is (d : Int) : Ev (fun k => gaiterref01_Ones.f k d) ((ones d : Nat) : Int) := by
  unfold gaiterref01_Ones.f ones
  by_cases h0 : d = 0
  · simp only [if_pos h0]; exact Ev.now _
  simp only [if_neg h0]
  have s4 : Ev (fun k => gaiterref01_Ones.l0 k d 4) 4 := Ev.step (fun k => by rw [gaiterref01_Ones.l0, if_neg (by decide)]) (Ev.now _)
  have s3 : Ev (fun k => gaiterref01_Ones.l0 k d 3) (if -2048 ≤ d ∧ d < 2048 then 3 else 4) := by
    refine Ev.step (fun k => by rw [gaiterref01_Ones.l0, if_pos (by decide), show gaiterref01_sizes.f 3 = some 12 from by decide +kernel, Option.bind_some, show wrap64 (3 + 1) = 4 from by decide +kernel]) ?_
    refine Ev.bind (Room_is d 12 (by decide) (by decide)) ?_
    rw [show (2 : Int) ^ (12 - 1) = 2048 from by decide]
    by_cases c : -2048 ≤ d ∧ d < 2048
    · simp only [decide_eq_true c, if_pos c, if_true]; exact Ev.now _
    · simp only [decide_eq_false c, if_neg c, Bool.false_eq_true, if_false]; exact s4
  have s2 : Ev (fun k => gaiterref01_Ones.l0 k d 2) (if -256 ≤ d ∧ d < 256 then 2 else if -2048 ≤ d ∧ d < 2048 then 3 else 4) := by
    refine Ev.step (fun k => by rw [gaiterref01_Ones.l0, if_pos (by decide), show gaiterref01_sizes.f 2 = some 9 from by decide +kernel, Option.bind_some, show wrap64 (2 + 1) = 3 from by decide +kernel]) ?_
    refine Ev.bind (Room_is d 9 (by decide) (by decide)) ?_
    rw [show (2 : Int) ^ (9 - 1) = 256 from by decide]
    by_cases c : -256 ≤ d ∧ d < 256
    · simp only [decide_eq_true c, if_pos c, if_true]; exact Ev.now _
    · simp only [decide_eq_false c, if_neg c, Bool.false_eq_true, if_false]; exact s3
  have s1 : Ev (fun k => gaiterref01_Ones.l0 k d 1) (if -64 ≤ d ∧ d < 64 then 1 else if -256 ≤ d ∧ d < 256 then 2 else if -2048 ≤ d ∧ d < 2048 then 3 else 4) := by
    refine Ev.step (fun k => by rw [gaiterref01_Ones.l0, if_pos (by decide), show gaiterref01_sizes.f 1 = some 7 from by decide +kernel, Option.bind_some, show wrap64 (1 + 1) = 2 from by decide +kernel]) ?_
    refine Ev.bind (Room_is d 7 (by decide) (by decide)) ?_
    rw [show (2 : Int) ^ (7 - 1) = 64 from by decide]
    by_cases c : -64 ≤ d ∧ d < 64
    · simp only [decide_eq_true c, if_pos c, if_true]; exact Ev.now _
    · simp only [decide_eq_false c, if_neg c, Bool.false_eq_true, if_false]; exact s2
  have e : ((if -64 ≤ d ∧ d < 64 then 1 else if -256 ≤ d ∧ d < 256 then 2 else if -2048 ≤ d ∧ d < 2048 then 3 else 4 : Nat) : Int) = (if -64 ≤ d ∧ d < 64 then 1 else if -256 ≤ d ∧ d < 256 then 2 else if -2048 ≤ d ∧ d < 2048 then 3 else 4 : Int) := by
    (repeat' split) <;> rfl
  rw [e]
  exact s1
theorem rsize_is (o : Nat) (h : o ≤ 4) : gaiterref01_sizes.f (o : Int) = some ((size o : Nat) : Int) := by
  have : ∀ i : Fin 5, gaiterref01_sizes.f ((i.val : Nat) : Int) = some ((size i.val : Nat) : Int) := by decide +kernel
  exact this ⟨o, by omega⟩
theorem RDod_l0 (d : Int) (n : Nat) (hn : n ≤ 4) (X : List Int) (h : ∀ acc : List Int, acc = List.replicate n 1 → Ev (fun k => gaiterref01_Dod.l0 k d (n : Int) acc (n : Int)) X) : ∀ (e j : Nat), j + e = n → Ev (fun k => gaiterref01_Dod.l0 k d (n : Int) (List.replicate j 1) (j : Int)) X := by
  intro e
  induction e with
  | zero => intro j hj; obtain rfl : j = n := by omega
            exact h _ rfl
  | succ e ih =>
    intro j hj
    have hin : (j : Int) < (n : Int) := by omega
    have hl : (List.replicate j (1 : Int)).length < 140737488355328 := by rw [List.length_replicate]; omega
    have hih := ih (j + 1) (by omega)
    have hws := PBits.wr_succ j (by omega)
    rw [List.replicate_succ'] at hih
    refine Ev.step (fun k => by rw [gaiterref01_Dod.l0]) ?_
    simp only [if_pos hin, if_pos hl, hws]
    exact hih
theorem RDod_is (d : Int) : Ev (fun k => gaiterref01_Dod.f k d) (dodL d) := by
  have ho := ones_le d
  have hs := size_le (ones d)
  have hsz := rsize_is (ones d) ho
  have hw : 0 ≤ IntKind.u64.wrap (d) ∧ IntKind.u64.wrap (d) < 18446744073709551616 := by rw [Ib.wrap_u64]; omega
  have hlow := PBits.Low_is (IntKind.u64.wrap d) ((size (ones d) : Nat) : Int) hw (by omega)
  rw [Int.toNat_natCast] at hlow
  have hdl : dodL d = List.replicate (ones d) 1 ++ (if ones d < 4 then [0] else []) ++ Bs.low (IntKind.u64.wrap d) (size (ones d)) := by rw [Ib.wrap_u64]; rfl
  unfold gaiterref01_Dod.f
  refine Ev.bind (ROnes_is d) ?_
  refine RDod_l0 d (ones d) ho _ (fun acc hacc => ?_) (ones d) 0 (by omega)
  have hal : acc.length = ones d := by rw [hacc, List.length_replicate]
  rw [hdl, ← hacc]
  have hno : ¬ (((ones d : Nat) : Int) < ((ones d : Nat) : Int)) := by omega
  have hl : acc.length < 140737488355328 := by omega
  have hl2 : (acc ++ [0]).length + (Bs.low (IntKind.u64.wrap d) (size (ones d))).length < 140737488355328 := by rw [Bs.low_length, List.length_append, List.length_singleton]; omega
  have hl3 : acc.length + (Bs.low (IntKind.u64.wrap d) (size (ones d))).length < 140737488355328 := by rw [Bs.low_length]; omega
  refine Ev.step (fun k => by rw [gaiterref01_Dod.l0]) ?_
  simp only [if_neg hno]
  by_cases c : ones d < 4
  · have c' : ((ones d : Nat) : Int) < 4 := by omega
    simp only [if_pos c', if_pos c, if_pos hl, Option.bind_some, hsz]
    refine Ev.bind hlow ?_
    simp only [if_pos hl2]
    exact Ev.now _
  · have c' : ¬ ((ones d : Nat) : Int) < 4 := by omega
    simp only [if_neg c', if_neg c, Option.bind_some, hsz, List.append_nil]
    refine Ev.bind hlow ?_
    simp only [if_pos hl3]
    exact Ev.now _
end Go.Proofs.YtiahbcaoikoogaaDoor.PDod
end
section
namespace Go.Proofs.YtiahbcaoikoogaaDoor.PBits
open Go Go.RowKit Go.Proofs.YtiahbcaoikoogaaDoor Go.Proofs.YtiahbcaoikoogaaDoor.All Go.Proofs.YtiahbcaoikoogaaDoorW.PrintWords Go.Proofs.YtiahbcaoikoogaaDoorW.PrintLast
set_option linter.unusedVariables false
set_option linter.unusedSimpArgs false
theorem Bytes_l1 (xs acc : List Int) (i : Nat) (r : List Int) (hi : i < 1152921504606846976) (h0 : 0 < acc.length) (h1 : acc.length < 1152921504606846976)
    (h : Ev (fun k => gaiterref01_Bytes.l0 k xs (acc.set (acc.length - 1) ((acc.getD (acc.length - 1) 0 + 2 ^ (7 - i % 8)) % 256)) ((i + 1 : Nat) : Int)) r) :
    ∀ (d j : Nat), j + d = i % 8 → Ev (fun k => gaiterref01_Bytes.l1 k xs acc (i : Int) (2 ^ (7 - j)) (j : Int)) r := by
  intro d
  induction d with
  | zero =>
    intro j hj
    refine Ev.step (fun k => ?_) h
    simp only [gaiterref01_Bytes.l1]
    rw [tmod_nat _ (by omega), if_neg (by omega), w64 _ (by omega), if_pos (by omega), if_pos (by omega), w64 _ (by omega), show j = i % 8 from by omega]
    rw [show ((acc.length : Int) - 1) = ((acc.length - 1 : Nat) : Int) from by omega, Int.toNat_natCast]
    rfl
  | succ d ih =>
    intro j hj
    refine Ev.step (fun k => ?_) (ih (j + 1) (by omega))
    simp only [gaiterref01_Bytes.l1]
    rw [tmod_nat _ (by omega), if_pos (by omega), tdiv_nat _ (Int.le_of_lt (Bs.pow_pos _)), w64 _ (by omega)]
    have hp : (2 : Int) ^ (7 - j) = 2 * 2 ^ (7 - (j + 1)) := by rw [show 7 - j = (7 - (j + 1)) + 1 from by omega, Int.pow_succ, Int.mul_comm]
    have hq : (2 : Int) ^ (7 - (j + 1)) ≤ 2 ^ 7 := pow_le (by omega)
    have hq2 : (2 : Int) ^ 7 = 128 := by decide
    have hq3 := Bs.pow_pos (7 - (j + 1))
    rw [show (2 : Int) ^ (7 - j) / 2 % 256 = 2 ^ (7 - (j + 1)) from by omega]
    rfl
theorem pack_snoc_one {l : List Int} (hb : Bs.Bits l) (h : l.length % 8 ≠ 0) : Bs.pack (l ++ [1]) = (Bs.pack l).set ((Bs.pack l).length - 1) (((Bs.pack l).getD ((Bs.pack l).length - 1) 0 + 2 ^ (7 - l.length % 8)) % 256) := by
  rw [Bs.pack_length, show (l.length + 7) / 8 - 1 = l.length / 8 from by omega]
  have h1 := Bs.pack_snoc h 1
  rw [Int.one_mul] at h1
  have h2 := Bs.pack_bytes (hb.append (Bs.Bits.cons (.inr rfl) Bs.Bits.nil))
  have hlen : l.length / 8 < (Bs.pack l).length := by rw [Bs.pack_length]; omega
  have h3 : (Bs.pack l).getD (l.length / 8) 0 + 2 ^ (7 - l.length % 8) ∈ Bs.pack (l ++ [1]) := by
    rw [h1]; exact List.mem_set hlen _
  have h4 := h2 _ h3
  rw [Int.emod_eq_of_lt h4.1 h4.2]
  exact h1
theorem Bytes_l0 (xs : List Int) (hx : Bs.Bits xs) (hl : xs.length < 140737488355328) : ∀ (d i : Nat), i + d = xs.length →
    Ev (fun k => gaiterref01_Bytes.l0 k xs (Bs.pack (xs.take i)) (i : Int)) (Bs.pack xs) := by
  intro d
  induction d with
  | zero =>
    intro i hi
    refine Ev.step (fun k => ?_) (Ev.now _)
    simp only [gaiterref01_Bytes.l0]
    rw [if_neg (by omega), List.take_of_length_le (by omega)]
  | succ d ih =>
    intro i hi
    have hlt : i < xs.length := by omega
    have hc := hx xs[i] (List.getElem_mem hlt)
    have hti : (xs.take i).length = i := by rw [List.length_take]; omega
    have hbt : Bs.Bits (xs.take i) := hx.take i
    have hpl : (Bs.pack (xs.take i)).length = (i + 7) / 8 := by rw [Bs.pack_length, hti]
    have htk : xs.take (i + 1) = xs.take i ++ [xs[i]] := by rw [List.take_add_one, List.getElem?_eq_getElem hlt]; rfl
    have := ih (i + 1) (by omega)
    rw [htk] at this
    obtain ⟨acc, hacc⟩ : ∃ acc, acc = (if i % 8 = 0 then Bs.pack (xs.take i) ++ [0] else Bs.pack (xs.take i)) := ⟨_, rfl⟩
    have hal : acc.length = i / 8 + 1 := by
      rw [hacc]; split
      · rw [List.length_append, hpl, List.length_singleton]; omega
      · rw [hpl]; omega
    have h0 : xs[i] = 0 → acc = Bs.pack (xs.take i ++ [xs[i]]) := by
      intro e
      rw [hacc, e]; split
      · rename_i h8; rw [Bs.pack_snoc0 (by omega)]; rfl
      · rename_i h8
        rw [Bs.pack_snoc (by omega), Int.zero_mul, Int.add_zero, hti]
        rw [List.getD_eq_getElem?_getD, List.getElem?_eq_getElem (by omega), Option.getD_some, List.set_getElem_self]
    have h1 : xs[i] = 1 → acc.set (acc.length - 1) ((acc.getD (acc.length - 1) 0 + 2 ^ (7 - i % 8)) % 256) = Bs.pack (xs.take i ++ [xs[i]]) := by
      intro e
      rw [hacc, e]; split
      · rename_i h8
        rw [Bs.pack_snoc0 (by omega), List.length_append, List.length_singleton, Nat.add_sub_cancel, List.set_append_right _ _ (by omega), h8]
        simp [List.getD_eq_getElem?_getD]
      · rename_i h8
        have := pack_snoc_one hbt (by omega)
        rw [hti] at this
        exact this.symm
    have h2 : Ev (fun k => gaiterref01_Bytes.j1 k xs acc (i : Int)) (Bs.pack xs) := by
      rcases hc with hc | hc
      · refine Ev.step (fun k => ?_) this
        simp only [gaiterref01_Bytes.j1]
        rw [if_pos (by omega), if_pos (by omega), rd_at xs i hlt, hc, if_neg (by decide), w64 _ (by omega), h0 hc, hc]
        rfl
      · refine Ev.step (fun k => ?_) (Bytes_l1 xs acc i _ (by omega) (by omega) (by omega) (by rw [h1 hc]; exact this) (i % 8) 0 (by omega))
        simp only [gaiterref01_Bytes.j1]
        rw [if_pos (by omega), if_pos (by omega), rd_at xs i hlt, hc, if_pos rfl]
        rfl
    refine Ev.step (fun k => ?_) h2
    simp only [gaiterref01_Bytes.l0]
    rw [if_pos (by omega), tmod_nat _ (by omega), hacc]
    by_cases h8 : i % 8 = 0
    · rw [if_pos (by omega), if_pos (by omega), if_pos h8]
    · rw [if_neg (by omega), if_neg h8]
theorem Bytes_is (xs : List Int) (hx : Bs.Bits xs) (hl : xs.length < 140737488355328) : Ev (fun k => gaiterref01_Bytes.f k xs) (Bs.pack xs) := by
  have := Bytes_l0 xs hx hl xs.length 0 (by omega)
  rw [List.take_zero, Bs.pack_nil] at this
  exact this
end Go.Proofs.YtiahbcaoikoogaaDoor.PBits
end
section
namespace Go.Proofs.YtiahbcaoikoogaaDoor.PBits
open Go Go.RowKit Go.Proofs.YtiahbcaoikoogaaDoor Go.Proofs.YtiahbcaoikoogaaDoor.All Go.Proofs.YtiahbcaoikoogaaDoorW.PrintWords Go.Proofs.YtiahbcaoikoogaaDoorW.PrintLast
set_option linter.unusedVariables false
set_option linter.unusedSimpArgs false
theorem join_byte {l : List Int} (hb : Bs.Bits l) (h : l.length % 8 ≠ 0) (c : Int) (hc : 0 ≤ c ∧ c < 256) :
    (Bs.pack l).set (l.length / 8) (Go.bits .or .u8 (rd (Bs.pack l) ((l.length / 8 : Nat) : Int)) (shr .u8 c ((l.length % 8 : Nat) : Int))) ++ [shl .u8 c ((8 - l.length % 8 : Nat) : Int)] = Bs.pack (l ++ Bs.low c 8) := by
  have hp := Bs.pack_length l
  have hlt : l.length / 8 < (Bs.pack l).length := by omega
  have hby := Bs.pack_bytes hb _ (List.getElem_mem hlt)
  obtain ⟨t, ht⟩ := Bs.pack_last h
  have hg : (Bs.pack l).getD (l.length / 8) 0 = (Bs.pack l)[l.length / 8] := by simp [List.getD_eq_getElem?_getD, hlt]
  have hrd : rd (Bs.pack l) ((l.length / 8 : Nat) : Int) = t * 2 ^ (8 - l.length % 8) := by rw [rd_at _ _ hlt, ← hg, ht]
  rw [← hg, ht] at hby
  rw [Bs.pack_byte h c hc, hrd, ht]
  have hr : l.length % 8 < 8 := Nat.mod_lt _ (by decide)
  generalize l.length % 8 = r at h hby hr ⊢
  rw [shr_u8 _ _ (by omega), shl_u8 _ _ (by omega), or_u8_sum t _ _ (by omega) hby]
  have h3 := Bs.pow_pos r
  refine ⟨Int.ediv_nonneg hc.1 (Int.le_of_lt h3), Int.ediv_lt_of_lt_mul h3 ?_⟩
  rw [← Int.pow_add, show 8 - r + r = 8 from by omega]
  exact hc.2
theorem Join_l0 (l m : List Int) (hl : Bs.Bits l) (hm : Bs.Bits m) (h8 : l.length % 8 ≠ 0) (hlen : l.length + m.length + 16 < 140737488355328) : ∀ (d i : Nat), i + d = (Bs.pack m).length →
    Ev (fun k => bits_Join.l0 k ((l.length % 8 : Nat) : Int) (Bs.pack m) ((Bs.pack m).length : Int) (i : Int) (Bs.pack (l ++ Bs.flat ((Bs.pack m).take i))) (l.length : Int) (Bs.pack m) (m.length : Int)) (Bs.pack (l ++ m), ((l.length + m.length : Nat) : Int)) := by
  have hpm := Bs.pack_length m
  have hBm := Bs.pack_bytes hm
  intro d
  induction d with
  | zero =>
    intro i hi
    refine Ev.step (fun k => ?_) (Ev.now _)
    simp only [bits_Join.l0]
    have hz := Bs.pack_zeros (hl.append hm) (8 * ((m.length + 7) / 8) - m.length)
    rw [List.append_assoc, ← Bs.flat_pack hm] at hz
    have hpl := Bs.pack_length (l ++ Bs.flat (Bs.pack m))
    rw [List.length_append, Bs.flat_length] at hpl
    rw [List.length_append] at hz
    have hno : ¬ ((i : Int) < ((Bs.pack m).length : Int)) := by omega
    have hle : (((l.length + m.length + 7) / 8 : Nat) : Int) ≤ ((Bs.pack (l ++ Bs.flat (Bs.pack m))).length : Int) := by omega
    have htot : l.length + m.length < 140737488355328 := by omega
    have hfull : (Bs.pack m).length ≤ i := by omega
    have hw1 := wr_add l.length m.length htot
    have hw2 := wr_bytes (l.length + m.length) htot
    rw [if_neg hno, List.take_of_length_le hfull, hw1, hw2, if_pos (Int.natCast_nonneg _), if_pos hle, Int.toNat_natCast, hz]
  | succ d ih =>
    intro i hi
    have hlt : i < (Bs.pack m).length := by omega
    have hti : ((Bs.pack m).take i).length = i := by rw [List.length_take]; omega
    have hcl : (l ++ Bs.flat ((Bs.pack m).take i)).length = l.length + 8 * i := by rw [List.length_append, Bs.flat_length, hti]
    have hpl := Bs.pack_length (l ++ Bs.flat ((Bs.pack m).take i))
    have hcb : Bs.Bits (l ++ Bs.flat ((Bs.pack m).take i)) := hl.append (Bs.flat_bits _)
    have hin : (i : Int) < ((Bs.pack m).length : Int) := by omega
    have hr8 : l.length % 8 = (l ++ Bs.flat ((Bs.pack m).take i)).length % 8 := by omega
    have hpi : (((l ++ Bs.flat ((Bs.pack m).take i)).length / 8 : Nat) : Int) < ((Bs.pack (l ++ Bs.flat ((Bs.pack m).take i))).length : Int) := by omega
    have hps : (Bs.pack (l ++ Bs.flat ((Bs.pack m).take i))).length < 140737488355328 := by omega
    have hp0 : 0 < (Bs.pack (l ++ Bs.flat ((Bs.pack m).take i))).length := by omega
    have hpe : (Bs.pack (l ++ Bs.flat ((Bs.pack m).take i))).length - 1 = (l ++ Bs.flat ((Bs.pack m).take i)).length / 8 := by omega
    have hi47 : i < 140737488355328 := by omega
    have hcr : (l ++ Bs.flat ((Bs.pack m).take i)).length % 8 ≠ 0 := by omega
    have hid : i + 1 + d = (Bs.pack m).length := by omega
    have hw1 := wr_succ i hi47
    have hw2 := wr_eight (l.length % 8) (Nat.le_of_lt (Nat.mod_lt _ (by decide)))
    have hw3 := wr_pred' _ hp0 hps
    rw [hpe] at hw3
    have hc := hBm _ (List.getElem_mem hlt)
    have := ih (i + 1) hid
    rw [List.take_add_one, List.getElem?_eq_getElem hlt, Option.toList_some, Bs.flat_append, show Bs.flat [(Bs.pack m)[i]] = Bs.low (Bs.pack m)[i] 8 from by simp [Bs.flat], ← List.append_assoc] at this
    rw [← join_byte hcb hcr _ hc] at this
    refine Ev.step (fun k => ?_) this
    simp only [bits_Join.l0]
    rw [if_pos hin, if_pos (Int.natCast_nonneg _), if_pos hin, hw3, if_pos (Int.natCast_nonneg _), if_pos hpi, if_pos (Int.natCast_nonneg _)]
    simp only [Option.bind_some]
    rw [hw2, if_pos (Int.natCast_nonneg _), List.length_set, if_pos hps, rd_at _ _ hlt, hw1, Int.toNat_natCast, hr8]
theorem Join_is (l m : List Int) (hl : Bs.Bits l) (hm : Bs.Bits m) (hlen : l.length + m.length + 16 < 140737488355328) :
    Ev (fun k => bits_Join.f k (Bs.pack l) (l.length : Int) (Bs.pack m) (m.length : Int)) (Bs.pack (l ++ m), ((l.length + m.length : Nat) : Int)) := by
  have hpl := Bs.pack_length l
  have hpm := Bs.pack_length m
  have hsm : (Bs.pack l).length + (Bs.pack m).length < 140737488355328 := by omega
  have hsl : (Bs.pack l).length < 140737488355328 := by omega
  have htot : l.length + m.length < 140737488355328 := by omega
  have hz1 : l.length % 8 = 0 → ((l.length % 8 : Nat) : Int) = 0 := by omega
  have hz2 : l.length % 8 ≠ 0 → ¬ ((l.length % 8 : Nat) : Int) = 0 := by omega
  have ht1 := tmod8 l.length
  have hw1 := wr_add l.length m.length htot
  unfold bits_Join.f slices_Clone_byte_byte.f slices_Concat_byte_byte.f
  rw [ht1]
  by_cases h8 : l.length % 8 = 0
  · refine Ev.congr (fun k => ?_) (Ev.now _)
    have hs : sumTo [Bs.pack l, Bs.pack m] [Bs.pack l, Bs.pack m].length = (Bs.pack l).length + (Bs.pack m).length := by simp [sumTo]
    rw [if_pos (hz1 h8), hs, if_pos hsm]
    simp only [Option.bind_some, List.flatten_cons, List.flatten_nil, List.append_nil]
    rw [hw1, Bs.pack_mod8 h8]
  · refine Ev.congr (fun k => ?_) (Join_l0 l m hl hm h8 hlen (Bs.pack m).length 0 (Nat.zero_add _))
    rw [if_neg (hz2 h8), if_pos hsl]
    simp only [Option.bind_some, List.take_zero, Bs.flat_nil, List.append_nil]
    rfl
end Go.Proofs.YtiahbcaoikoogaaDoor.PBits
end
section
namespace Go.Proofs.YtiahbcaoikoogaaDoor.PXor
open Go Go.RowKit Go.Proofs.YtiahbcaoikoogaaDoor Go.Proofs.YtiahbcaoikoogaaDoor.All Go.Proofs.YtiahbcaoikoogaaDoorW.PrintWords Go.Proofs.YtiahbcaoikoogaaDoorW.PrintLast
set_option linter.unusedVariables false
set_option linter.unusedSimpArgs false
def LL (d : Int) : Nat := 64 - Lib.bitLen d.toNat
def SS (d : Int) : Nat := Lib.bitLen d.toNat - Lib.ctz 64 d.toNat
structure Win (d : Int) : Prop where
  lt : LL d < 64
  pos : 1 ≤ SS d
  le : LL d + SS d ≤ 64
  hi : d < 2 ^ (64 - LL d)
  top : d / 2 ^ (63 - LL d) = 1
  mul : d = (d / 2 ^ (64 - LL d - SS d)) * 2 ^ (64 - LL d - SS d)
  odd : d / 2 ^ (64 - LL d - SS d) % 2 = 1
theorem win (d : Int) (h0 : 0 < d) (h1 : d < 18446744073709551616) : Win d := by
  obtain ⟨x, rfl⟩ := Int.eq_ofNat_of_zero_le (Int.le_of_lt h0)
  have hx0 : x ≠ 0 := by omega
  have hx : x < 2 ^ 64 := by omega
  obtain ⟨b1, b2, b3⟩ := Lib.bitLenAux_bounds 64 x hx hx0
  have b4 := Lib.bitLen_le x 64 (by omega) hx
  obtain ⟨m, hm, hk⟩ := Lib.ctzFrom_spec 64 x (by omega) hx
  have e : Lib.ctz 64 x = Lib.ctzFrom 64 x := by simp [Lib.ctz, hx0]
  have en : Lib.bitLen x = Lib.bitLenAux 64 x := rfl
  have hlt : Lib.ctzFrom 64 x < Lib.bitLenAux 64 x := by
    apply Nat.lt_of_not_le
    intro hle
    have h2 : 2 ^ Lib.bitLenAux 64 x ≤ 2 ^ Lib.ctzFrom 64 x := Nat.pow_le_pow_right (by decide) hle
    have h3 : 2 ^ Lib.ctzFrom 64 x ≤ x := by
      conv => rhs; rw [hm]
      exact Nat.le_mul_of_pos_right _ (by omega)
    omega
  have eL : LL (x : Int) = 64 - Lib.bitLenAux 64 x := by unfold LL; rw [Int.toNat_natCast, en]
  have eS : SS (x : Int) = Lib.bitLenAux 64 x - Lib.ctzFrom 64 x := by unfold SS; rw [Int.toNat_natCast, en, e]
  rw [en] at b4
  generalize hn : Lib.bitLenAux 64 x = n at *
  generalize ht : Lib.ctzFrom 64 x = t at *
  have q1 : 64 - LL (x : Int) = n := by omega
  have q2 : 63 - LL (x : Int) = n - 1 := by omega
  have q3 : 64 - LL (x : Int) - SS (x : Int) = t := by omega
  have hp : 0 < 2 ^ t := Nat.two_pow_pos t
  have hd : x / 2 ^ t = 2 * m + 1 := by rw [hm, Nat.mul_div_cancel_left _ hp]
  have hcast : ∀ j : Nat, ((x : Int) / 2 ^ j) = ((x / 2 ^ j : Nat) : Int) := fun j => by simp
  refine ⟨by omega, by omega, by omega, ?_, ?_, ?_, ?_⟩
  · rw [q1]; exact_mod_cast b3
  · rw [q2, hcast]
    have : x / 2 ^ (n - 1) = 1 := by
      have h5 : 2 ^ n = 2 * 2 ^ (n - 1) := by
        conv => lhs; rw [show n = (n - 1) + 1 from by omega]
        rw [Nat.pow_succ]; omega
      exact Nat.div_eq_of_lt_le (by omega) (by omega)
    rw [this]; rfl
  · rw [q3, hcast, hd]
    have : x = (2 * m + 1) * 2 ^ t := by rw [Nat.mul_comm]; exact hm
    exact_mod_cast this
  · rw [q3, hcast, hd]; omega
def cb (l n : Nat) (d : Int) : List Int :=
  if d = 0 then [0]
  else if 0 < n ∧ l ≤ LL d ∧ LL d + SS d ≤ l + n then [1, 0] ++ Bs.low (d / 2 ^ (64 - l - n)) n
  else [1, 1] ++ Bs.low (LL d) 6 ++ Bs.low ((SS d : Int) - 1) 6 ++ Bs.low (d / 2 ^ (64 - LL d - SS d)) (SS d)
def cl (l n : Nat) (d : Int) : Nat := if d = 0 then l else if 0 < n ∧ l ≤ LL d ∧ LL d + SS d ≤ l + n then l else LL d
def cn (l n : Nat) (d : Int) : Nat := if d = 0 then n else if 0 < n ∧ l ≤ LL d ∧ LL d + SS d ≤ l + n then n else SS d
theorem cb_bits (l n : Nat) (d : Int) : Bs.Bits (cb l n d) := by
  have h : Bs.Bits [(1 : Int), 0] := .cons (.inr rfl) (.cons (.inl rfl) .nil)
  have h' : Bs.Bits [(1 : Int), 1] := .cons (.inr rfl) (.cons (.inr rfl) .nil)
  unfold cb
  split
  · exact .cons (.inl rfl) .nil
  · split
    · exact h.append (Bs.low_bits _ _)
    · exact ((h'.append (Bs.low_bits _ _)).append (Bs.low_bits _ _)).append (Bs.low_bits _ _)
theorem cb_length (l n : Nat) (d : Int) : (cb l n d).length = if d = 0 then 1 else if 0 < n ∧ l ≤ LL d ∧ LL d + SS d ≤ l + n then 2 + n else 14 + SS d := by
  unfold cb
  split
  · rfl
  · split
    · simp only [List.length_append, List.length_cons, List.length_nil, Bs.low_length]
    · simp only [List.length_append, List.length_cons, List.length_nil, Bs.low_length]
theorem cb_ok (l n : Nat) (d : Int) (h : l + n ≤ 64) (h0 : 0 ≤ d) (h1 : d < 18446744073709551616) : cl l n d + cn l n d ≤ 64 := by
  unfold cl cn
  by_cases hd : d = 0
  · rw [if_pos hd, if_pos hd]; exact h
  · rw [if_neg hd, if_neg hd]
    split
    · exact h
    · exact (win d (by omega) h1).le
theorem SS_le (d : Int) (h0 : 0 < d) (h1 : d < 18446744073709551616) : SS d ≤ 64 := by have := (win d h0 h1).le; omega
theorem cb_short (l n : Nat) (d : Int) (h : l + n ≤ 64) (h0 : 0 ≤ d) (h1 : d < 18446744073709551616) : 1 ≤ (cb l n d).length ∧ (cb l n d).length ≤ 78 := by
  rw [cb_length]
  by_cases hd : d = 0
  · rw [if_pos hd]; omega
  · rw [if_neg hd]
    have := SS_le d (by omega) h1
    split <;> omega
theorem xor_range (a b : Int) (ha : 0 ≤ a ∧ a < 18446744073709551616) (hb : 0 ≤ b ∧ b < 18446744073709551616) : 0 ≤ Go.bits .xor .u64 a b ∧ Go.bits .xor .u64 a b < 18446744073709551616 := by
  rw [Ib.xor_u64 a b ha hb]
  have := Nat.xor_lt_two_pow (x := a.toNat) (y := b.toNat) (n := 64) (by omega) (by omega)
  omega
theorem window_is (d : Int) (h0 : 0 < d) (h1 : d < 18446744073709551616) : xor_window.f d = some ((LL d : Int), (SS d : Int)) := by
  have hw := win d h0 h1
  have b4 : Lib.bitLen d.toNat ≤ 64 := Lib.bitLen_le d.toNat 64 (by omega) (by omega)
  have b5 := hw.lt
  have b6 := hw.pos
  unfold xor_window.f bits_LeadingZeros64.f bits_TrailingZeros64.f
  rw [if_pos (by omega)]
  simp only [Option.bind_some]
  rw [if_pos (by omega)]
  simp only [Option.bind_some]
  unfold LL SS at *
  have e1 : wrap64 (64 - (64 - (Lib.bitLen d.toNat : Int))) = (Lib.bitLen d.toNat : Int) := by rw [PBits.w64 _ (by omega)]; omega
  rw [e1, PBits.w64 _ (by omega)]
  congr 2
  · omega
  · omega
theorem shr_is (x : Int) (s : Nat) (h : s ≤ 64) : shr .u64 x (s : Int) = x / 2 ^ s := by
  unfold shr
  simp only [Int.toNat_natCast]
  rw [show min s IntKind.u64.bits = s from Nat.min_eq_left h]
theorem putk (l : List Int) (hl : Bs.Bits l) (hlen : l.length ≤ 1000) (v : Int) (hv : 0 ≤ v ∧ v < 18446744073709551616) (m : Nat) (hm : m ≤ 64) {n : Int} (hn : n = (m : Int)) :
    Ev (fun k => bits_Put.f k (Bs.pack l) (l.length : Int) v n) (Bs.pack (l ++ Bs.low v m), ((l ++ Bs.low v m).length : Int)) := by
  have h := PBits.Put_is l hl (by omega) v hv n
  rw [if_neg (by omega)] at h
  subst hn
  rw [Int.toNat_natCast] at h
  rw [List.length_append, Bs.low_length]
  exact h
theorem putk0 (v : Int) (hv : 0 ≤ v ∧ v < 18446744073709551616) (m : Nat) (hm : m ≤ 64) {n : Int} (hn : n = (m : Int)) :
    Ev (fun k => bits_Put.f k [] 0 v n) (Bs.pack (Bs.low v m), ((Bs.low v m).length : Int)) := by
  have := putk [] .nil (by simp) v hv m hm hn
  simp only [List.nil_append, Bs.pack_nil] at this
  exact this
theorem div_range (d : Int) (h0 : 0 ≤ d) (h1 : d < 18446744073709551616) (s : Nat) : 0 ≤ d / 2 ^ s ∧ d / 2 ^ s < 18446744073709551616 := by
  have hp : (0 : Int) < 2 ^ s := Bs.pow_pos s
  refine ⟨Int.ediv_nonneg h0 (Int.le_of_lt hp), Int.lt_of_le_of_lt (Int.ediv_le_self _ h0) h1⟩
theorem Code_is (p v : Int) (l n : Nat) (hp : 0 ≤ p ∧ p < 18446744073709551616) (hv : 0 ≤ v ∧ v < 18446744073709551616) (hln : l + n ≤ 64) {d : Int} (hd : Go.bits .xor .u64 v p = d) :
    Ev (fun k => xor_Code.f k p (l : Int) (n : Int) v) (Bs.pack (cb l n d), ((cb l n d).length : Int), v, (cl l n d : Int), (cn l n d : Int)) := by
  have hr := xor_range v p hv hp
  rw [hd] at hr
  by_cases h0 : d = 0
  · subst h0
    have := putk0 0 (by omega) 1 (by omega) (n := 1) rfl
    refine Ev.congr (fun k => by unfold xor_Code.f; rw [hd, if_pos rfl]) (Ev.bind this ?_)
    unfold cb cl cn
    simp only [if_true]
    exact Ev.now _
  have hw := win d (by omega) hr.2
  have hs := SS_le d (by omega) hr.2
  have g1 := hw.lt
  have g2 := hw.pos
  have g3 := hw.le
  have ew := window_is d (by omega) hr.2
  have main : ∀ b : Bool, b = decide (0 < n ∧ l ≤ LL d ∧ LL d + SS d ≤ l + n) → Ev (fun k => xor_Code.j0 k d (LL d : Int) (SS d : Int) b v (l : Int) (n : Int)) (Bs.pack (cb l n d), ((cb l n d).length : Int), v, (cl l n d : Int), (cn l n d : Int)) := by
    intro b hb
    by_cases hc : 0 < n ∧ l ≤ LL d ∧ LL d + SS d ≤ l + n
    · have hb' : b = true := by rw [hb]; exact decide_eq_true hc
      subst hb'
      have e64 : wrap64 (wrap64 (64 - (l : Int)) - (n : Int)) = ((64 - l - n : Nat) : Int) := by rw [PBits.w64 (64 - (l : Int)) (by omega), PBits.w64 _ (by omega)]; omega
      have hput := putk0 2 (by omega) 2 (by omega) (n := 2) rfl
      have l2 : Bs.low 2 2 = [1, 0] := by decide
      rw [l2] at hput
      have hput2 := putk [1, 0] (.cons (.inr rfl) (.cons (.inl rfl) .nil)) (by simp) (d / 2 ^ (64 - l - n)) (div_range d hr.1 hr.2 _) n (by omega) (n := (n : Int)) rfl
      refine Ev.step (fun k => by rw [xor_Code.j0, if_pos rfl, e64]) (Ev.bind hput ?_)
      refine Ev.congr (fun k => by rw [if_pos (Int.natCast_nonneg _), shr_is _ _ (by omega)]) (Ev.bind hput2 ?_)
      unfold cb cl cn
      rw [if_neg h0, if_neg h0, if_neg h0, if_pos hc, if_pos hc, if_pos hc]
      exact Ev.now _
    · have hb' : b = false := by rw [hb]; exact decide_eq_false hc
      subst hb'
      have e64 : wrap64 (wrap64 (64 - (LL d : Int)) - (SS d : Int)) = ((64 - LL d - SS d : Nat) : Int) := by rw [PBits.w64 (64 - (LL d : Int)) (by omega), PBits.w64 _ (by omega)]; omega
      have u1 : IntKind.u64.wrap ((LL d : Int)) = (LL d : Int) := by rw [Ib.wrap_u64]; omega
      have u2 : IntKind.u64.wrap (wrap64 ((SS d : Int) - 1)) = (SS d : Int) - 1 := by rw [PBits.w64 _ (by omega), Ib.wrap_u64]; omega
      have hput := putk0 3 (by omega) 2 (by omega) (n := 2) rfl
      have l2 : Bs.low 3 2 = [1, 1] := by decide
      rw [l2] at hput
      have b1 : Bs.Bits [(1 : Int), 1] := .cons (.inr rfl) (.cons (.inr rfl) .nil)
      have hput2 := putk [1, 1] b1 (by simp) (LL d : Int) (by omega) 6 (by omega) (n := 6) rfl
      have b2 := b1.append (Bs.low_bits 6 (LL d : Int))
      have hput3 := putk _ b2 (by simp [Bs.low_length]) ((SS d : Int) - 1) (by omega) 6 (by omega) (n := 6) rfl
      have b3 := b2.append (Bs.low_bits 6 ((SS d : Int) - 1))
      have hput4 := putk _ b3 (by simp [Bs.low_length]) (d / 2 ^ (64 - LL d - SS d)) (div_range d hr.1 hr.2 _) (SS d) (by omega) (n := (SS d : Int)) rfl
      refine Ev.step (fun k => by rw [xor_Code.j0, if_neg (by decide), e64, u1, u2]) (Ev.bind hput ?_)
      refine Ev.bind hput2 ?_
      refine Ev.bind hput3 ?_
      refine Ev.congr (fun k => by rw [if_pos (Int.natCast_nonneg _), shr_is _ _ (by omega)]) (Ev.bind hput4 ?_)
      unfold cb cl cn
      rw [if_neg h0, if_neg h0, if_neg h0, if_neg hc, if_neg hc, if_neg hc]
      exact Ev.now _
  have w1 : wrap64 ((LL d : Int) + (SS d : Int)) = ((LL d + SS d : Nat) : Int) := by rw [PBits.w64 _ (by omega)]; omega
  have w2 : wrap64 ((l : Int) + (n : Int)) = ((l + n : Nat) : Int) := by rw [PBits.w64 _ (by omega)]; omega
  by_cases c1 : 0 < n
  · by_cases c2 : l ≤ LL d
    · refine Ev.congr (fun k => ?_) (main (decide (wrap64 ((LL d : Int) + (SS d : Int)) ≤ wrap64 ((l : Int) + (n : Int)))) ?_)
      · unfold xor_Code.f
        rw [hd, if_neg h0, ew]
        simp only [Option.bind_some]
        rw [if_pos (by omega), if_pos (by omega)]
      · rw [w1, w2]
        congr 1
        exact propext ⟨fun h => ⟨c1, c2, by omega⟩, fun h => by omega⟩
    · refine Ev.congr (fun k => ?_) (main false ?_)
      · unfold xor_Code.f
        rw [hd, if_neg h0, ew]
        simp only [Option.bind_some]
        rw [if_pos (by omega), if_neg (by omega)]
      · exact (decide_eq_false (by omega)).symm
  · refine Ev.congr (fun k => ?_) (main false ?_)
    · unfold xor_Code.f
      rw [hd, if_neg h0, ew]
      simp only [Option.bind_some]
      rw [if_neg (by omega)]
    · exact (decide_eq_false (by omega)).symm
end Go.Proofs.YtiahbcaoikoogaaDoor.PXor
end
