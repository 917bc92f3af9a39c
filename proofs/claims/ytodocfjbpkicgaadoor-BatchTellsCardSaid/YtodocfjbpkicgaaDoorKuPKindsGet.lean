-- copied by a program of the session
import Derived.Test.YtodocfjbpkicgaaDoorKuPKinds
import Derived.Test.YtodocfjbpkicgaaDoorKuAllx17
import Derived.Test.YtodocfjbpkicgaaDoorKuAllx25
section
namespace Go.Proofs.YtodocfjbpkicgaaDoor.PDod
open Go Go.RowKit Go.Proofs.YtodocfjbpkicgaaDoor Go.Proofs.YtodocfjbpkicgaaDoor.All Go.Proofs.YtodocfjbpkicgaaDoorW.PrintWords Go.Proofs.YtodocfjbpkicgaaDoorW.PrintLast
set_option linter.unusedVariables false
set_option linter.unusedSimpArgs false
theorem Room_l0 (d : Int) (n : Nat) (hn : n ≤ 60) : ∀ (e j : Nat), j + e + 1 = n → Ev (fun k => A1y.l0 k d (n : Int) (2 ^ j) ((j + 1 : Nat) : Int)) (decide (-(2 ^ (n - 1)) ≤ d ∧ d < 2 ^ (n - 1))) := by
 intro e
 induction e with
 | zero =>
  intro j hj
  have hp : (2 : Int) ^ j ≤ 2 ^ 60 := PBits.pow_le (by omega)
  rw [show (2 : Int) ^ 60 = 1152921504606846976 from by decide] at hp
  have h0 := Bs.pow_pos j
  have hno : ¬ (((j + 1 : Nat) : Int) < (n : Int)) := by omega
  have hw1 : wrap64 (-(2 ^ j)) = -(2 ^ j) := PBits.w64 _ (by omega)
  have hw2 : wrap64 (2 ^ j - 1) = 2 ^ j - 1 := PBits.w64 _ (by omega)
  rw [show n - 1 = j from by omega]
  refine Ev.step (fun k => by rw [A1y.l0]) ?_
  simp only [if_neg hno, hw1, hw2]
  by_cases c : d ≥ -(2 ^ j)
  ·simp only [if_pos c]
   rw [show decide (d ≤ 2 ^ j - 1) = decide (-(2 ^ j) ≤ d ∧ d < 2 ^ j) from decide_eq_decide.2 (by omega)]
   exact Ev.now _
  ·simp only [if_neg c]
   rw [decide_eq_false (show ¬ (-(2 ^ j) ≤ d ∧ d < 2 ^ j) by omega)]
   exact Ev.now _
 | succ e ih =>
  intro j hj
  have hp : (2 : Int) ^ (j + 1) ≤ 2 ^ 60 := PBits.pow_le (by omega)
  rw [show (2 : Int) ^ 60 = 1152921504606846976 from by decide] at hp
  have h0 := Bs.pow_pos (j + 1)
  have hin : ((j + 1 : Nat) : Int) < (n : Int) := by omega
  have hih := ih (j + 1) (by omega)
  have hj47 : j + 1 < 140737488355328 := by omega
  have hw1 : wrap64 (2 * 2 ^ j) = 2 ^ (j + 1) := by
   rw [Int.pow_succ, Int.mul_comm] at hp h0 ⊢
   exact PBits.w64 _ (by omega)
  have hw2 := PBits.wr_succ (j + 1) hj47
  refine Ev.step (fun k => by rw [A1y.l0]) ?_
  simp only [if_pos hin, hw1, hw2]
  exact hih
theorem Room_is (d : Int) (n : Nat) (h0 : 0 < n) (hn : n ≤ 60) : Ev (fun k => A1y.f k d (n : Int)) (decide (-(2 ^ (n - 1)) ≤ d ∧ d < 2 ^ (n - 1))) :=
 Room_l0 d n hn (n - 1) 0 (by omega)
theorem ROnes_is (d : Int) : Ev (fun k => A1m.f k d) ((ones d : Nat) : Int) := by
 unfold A1m.f ones
 by_cases h0 : d = 0
 ·simp only [if_pos h0]; exact Ev.now _
 simp only [if_neg h0]
 have s4 : Ev (fun k => A1m.l0 k d 4) 4 := Ev.step (fun k => by rw [A1m.l0, if_neg (by decide)]) (Ev.now _)
 have s3 : Ev (fun k => A1m.l0 k d 3) (if -2048 ≤ d ∧ d < 2048 then 3 else 4) := by
  refine Ev.step (fun k => by rw [A1m.l0, if_pos (by decide), show A1k.f 3 = some 12 from by decide +kernel, Option.bind_some, show wrap64 (3 + 1) = 4 from by decide +kernel]) ?_
  refine Ev.bind (Room_is d 12 (by decide) (by decide)) ?_
  rw [show (2 : Int) ^ (12 - 1) = 2048 from by decide]
  by_cases c : -2048 ≤ d ∧ d < 2048
  ·simp only [decide_eq_true c, if_pos c, if_true]; exact Ev.now _
  ·simp only [decide_eq_false c, if_neg c, Bool.false_eq_true, if_false]; exact s4
 have s2 : Ev (fun k => A1m.l0 k d 2) (if -256 ≤ d ∧ d < 256 then 2 else if -2048 ≤ d ∧ d < 2048 then 3 else 4) := by
  refine Ev.step (fun k => by rw [A1m.l0, if_pos (by decide), show A1k.f 2 = some 9 from by decide +kernel, Option.bind_some, show wrap64 (2 + 1) = 3 from by decide +kernel]) ?_
  refine Ev.bind (Room_is d 9 (by decide) (by decide)) ?_
  rw [show (2 : Int) ^ (9 - 1) = 256 from by decide]
  by_cases c : -256 ≤ d ∧ d < 256
  ·simp only [decide_eq_true c, if_pos c, if_true]; exact Ev.now _
  ·simp only [decide_eq_false c, if_neg c, Bool.false_eq_true, if_false]; exact s3
 have s1 : Ev (fun k => A1m.l0 k d 1) (if -64 ≤ d ∧ d < 64 then 1 else if -256 ≤ d ∧ d < 256 then 2 else if -2048 ≤ d ∧ d < 2048 then 3 else 4) := by
  refine Ev.step (fun k => by rw [A1m.l0, if_pos (by decide), show A1k.f 1 = some 7 from by decide +kernel, Option.bind_some, show wrap64 (1 + 1) = 2 from by decide +kernel]) ?_
  refine Ev.bind (Room_is d 7 (by decide) (by decide)) ?_
  rw [show (2 : Int) ^ (7 - 1) = 64 from by decide]
  by_cases c : -64 ≤ d ∧ d < 64
  ·simp only [decide_eq_true c, if_pos c, if_true]; exact Ev.now _
  ·simp only [decide_eq_false c, if_neg c, Bool.false_eq_true, if_false]; exact s2
 have e : ((if -64 ≤ d ∧ d < 64 then 1 else if -256 ≤ d ∧ d < 256 then 2 else if -2048 ≤ d ∧ d < 2048 then 3 else 4 : Nat) : Int) = (if -64 ≤ d ∧ d < 64 then 1 else if -256 ≤ d ∧ d < 256 then 2 else if -2048 ≤ d ∧ d < 2048 then 3 else 4 : Int) := by
  (repeat' split) <;> rfl
 rw [e]
 exact s1
theorem rsize_is (o : Nat) (h : o ≤ 4) : A1k.f (o : Int) = some ((size o : Nat) : Int) := by
 have : ∀ i : Fin 5, A1k.f ((i.val : Nat) : Int) = some ((size i.val : Nat) : Int) := by decide +kernel
 exact this ⟨o, by omega⟩
theorem RDod_l0 (d : Int) (n : Nat) (hn : n ≤ 4) (X : List Int) (h : ∀ acc : List Int, acc = List.replicate n 1 → Ev (fun k => A1i.l0 k d (n : Int) acc (n : Int)) X) : ∀ (e j : Nat), j + e = n → Ev (fun k => A1i.l0 k d (n : Int) (List.replicate j 1) (j : Int)) X := by
  intro e
  induction e with
  | zero => intro j hj; obtain rfl : j = n := by omega
            exact h _ rfl
  | succ e ih =>
    intro j hj
    have hin : (j : Int) < (n : Int) := by omega
    have hl : (List.replicate j (1 : Int)).length < 140737488355328 := by rw [List.length_replicate]; omega
    have hih := ih (j + 1) (by omega)
    have hws := PBits.wr_succ j (by omega)
    rw [List.replicate_succ'] at hih
    refine Ev.step (fun k => by rw [A1i.l0]) ?_
    simp only [if_pos hin, if_pos hl, hws]
    exact hih
theorem RDod_is (d : Int) : Ev (fun k => A1i.f k d) (dodL d) := by
 have ho := ones_le d
 have hs := size_le (ones d)
 have hsz := rsize_is (ones d) ho
 have hw : 0 ≤ IntKind.u64.wrap (d) ∧ IntKind.u64.wrap (d) < 18446744073709551616 := by rw [Ib.wrap_u64]; omega
 have hlow := PBits.Low_is (IntKind.u64.wrap d) ((size (ones d) : Nat) : Int) hw (by omega)
 rw [Int.toNat_natCast] at hlow
 have hdl : dodL d = List.replicate (ones d) 1 ++ (if ones d < 4 then [0] else []) ++ Bs.low (IntKind.u64.wrap d) (size (ones d)) := by rw [Ib.wrap_u64]; rfl
 unfold A1i.f
 refine Ev.bind (ROnes_is d) ?_
 refine RDod_l0 d (ones d) ho _ (fun acc hacc => ?_) (ones d) 0 (by omega)
 have hal : acc.length = ones d := by rw [hacc, List.length_replicate]
 rw [hdl, ← hacc]
 have hno : ¬ (((ones d : Nat) : Int) < ((ones d : Nat) : Int)) := by omega
 have hl : acc.length < 140737488355328 := by omega
 have hl2 : (acc ++ [0]).length + (Bs.low (IntKind.u64.wrap d) (size (ones d))).length < 140737488355328 := by rw [Bs.A07, List.length_append, List.length_singleton]; omega
 have hl3 : acc.length + (Bs.low (IntKind.u64.wrap d) (size (ones d))).length < 140737488355328 := by rw [Bs.A07]; omega
 refine Ev.step (fun k => by rw [A1i.l0]) ?_
 simp only [if_neg hno]
 by_cases c : ones d < 4
 ·have c' : ((ones d : Nat) : Int) < 4 := by omega
  simp only [if_pos c', if_pos c, if_pos hl, Option.bind_some, hsz]
  refine Ev.bind hlow ?_
  simp only [if_pos hl2]
  exact Ev.now _
 ·have c' : ¬ ((ones d : Nat) : Int) < 4 := by omega
  simp only [if_neg c', if_neg c, Option.bind_some, hsz, List.append_nil]
  refine Ev.bind hlow ?_
  simp only [if_pos hl3]
  exact Ev.now _
theorem sgn_cons (x : Int) (t : List Int) : sgn (x :: t) = if Bs.number (x :: t) < 2 ^ t.length then Bs.number (x :: t) else Bs.number (x :: t) - 2 ^ (t.length + 1) := by
 unfold sgn
 rw [List.length_cons, Nat.add_sub_cancel]
theorem wrap_hi (v : Int) (h : 9223372036854775808 ≤ v ∧ v < 18446744073709551616) : wrap64 v = v - 18446744073709551616 := by unfold wrap64; omega
theorem u64_id (v : Int) (h : 0 ≤ v ∧ v < 18446744073709551616) : IntKind.u64.wrap v = v := by rw [Ib.wrap_u64]; omega
theorem signed_is (L : List Int) (hL : Bs.Bits L) (h64 : L.length ≤ 60 ∨ L.length = 64) : Ev (fun k => A2k.f k L) (sgn L) := by
 have hr := Bs.A2s hL
 unfold A2k.f
 refine Ev.bind (PBits.Number_is L hL (by omega)) ?_
 cases L with
 | nil =>
  have c : ¬ (((([] : List Int).length : Nat) : Int) > 0) := by simp
  simp only [if_neg c]
  have hz : wrap64 (Bs.number []) = sgn [] := by decide +kernel
  rw [hz]
  exact Ev.now _
 | cons x t =>
  rw [sgn_cons]
  have hx := hL x (List.mem_cons_self)
  have htb : Bs.Bits t := fun z hz => hL z (List.mem_cons_of_mem _ hz)
  have ht := Bs.A2s htb
  have hn : Bs.number (x :: t) = x * 2 ^ t.length + Bs.number t := Bs.number_cons x t
  rw [List.length_cons] at h64 hr
  have c0 : (((x :: t).length : Nat) : Int) > 0 := by rw [List.length_cons]; omega
  have c0' : 0 < (((x :: t).length : Nat) : Int) := c0
  have hpp := Bs.pow_pos t.length
  have hps : (2 : Int) ^ (t.length + 1) = 2 * 2 ^ t.length := by rw [Int.pow_succ, Int.mul_comm]
  rw [hps] at hr ⊢
  have hrd : rd (x :: t) 0 = x := PBits.rd_at (x :: t) 0 (by simp)
  simp only [if_pos c0, if_pos c0', hrd]
  by_cases c64 : (((x :: t).length : Nat) : Int) < 64
  ·have hp : (2 : Int) ^ t.length ≤ 2 ^ 60 := PBits.pow_le (by rw [List.length_cons] at c64; omega)
   rw [show (2 : Int) ^ 60 = 1152921504606846976 from by decide] at hp
   simp only [if_pos c64]
   by_cases c1 : x = 1
   ·have hwl : wrap64 ((((x :: t).length : Nat) : Int) - 1) = ((t.length : Nat) : Int) := by rw [List.length_cons, PBits.w64 _ (by omega)]; omega
    have hge : 0 ≤ wrap64 ((((x :: t).length : Nat) : Int) - 1) := by rw [hwl]; omega
    have hlim : ([1] : List Int).length + t.length < 140737488355328 := by rw [List.length_singleton]; omega
    have hzb : Bs.Bits ([1] ++ List.replicate t.length (0 : Int)) := Bs.Bits.append (Bs.Bits.cons (.inr rfl) Bs.Bits.nil) (Bs.Bits.zeros _)
    have hzn : Bs.number ([1] ++ List.replicate t.length (0 : Int)) = 2 ^ t.length := by rw [Bs.A3n]; simp [Bs.number]
    have hzl : ([1] ++ List.replicate t.length (0 : Int)).length ≤ 64 := by rw [List.length_append, List.length_singleton, List.length_replicate]; omega
    have hnum := PBits.Number_is _ hzb hzl
    rw [hzn] at hnum
    simp only [if_pos c1, Option.bind_some, if_pos hge, hwl, Int.toNat_natCast, if_pos hlim]
    subst c1
    rw [Int.one_mul] at hn
    rw [hn] at hr ⊢
    have hno : ¬ (2 ^ t.length + Bs.number t < 2 ^ t.length) := by omega
    rw [if_neg hno]
    refine Ev.bind hnum ?_
    generalize hq : (2 : Int) ^ t.length = q at *
    generalize Bs.number t = u at *
    have h1 : wrap64 (q + u) = q + u := PBits.w64 _ (by omega)
    have h2 : IntKind.u64.wrap (2 * q) = 2 * q := u64_id _ (by omega)
    have h3 : wrap64 (2 * q) = 2 * q := PBits.w64 _ (by omega)
    have h4 : wrap64 (q + u - 2 * q) = q + u - 2 * q := PBits.w64 _ (by omega)
    simp only [h2, h3, h1, h4]
    exact Ev.now _
   ·have hx0 : x = 0 := by rcases hx with h | h; exact h; exact absurd h c1
    simp only [if_neg c1]
    subst hx0
    rw [Int.zero_mul, Int.zero_add] at hn
    rw [hn] at hr ⊢
    rw [if_pos ht.2, PBits.w64 _ (by omega)]
    exact Ev.now _
  ·have hl63 : t.length = 63 := by rw [List.length_cons] at c64; omega
   simp only [if_neg c64]
   rw [hl63] at hr ht hn hps ⊢
   rw [show (2 : Int) ^ 63 = 9223372036854775808 from by decide] at *
   generalize Bs.number (x :: t) = u at *
   by_cases c : u < 9223372036854775808
   ·rw [if_pos c, PBits.w64 _ (by omega)]
    exact Ev.now _
   ·rw [if_neg c, wrap_hi _ (by omega)]
    exact Ev.now _
theorem mn_head (o : Nat) (ho : o ≤ 4) : mn (wrap64 ((o : Int) + 1)) 4 = ((min (o + 1) 4 : Nat) : Int) := by
 rw [PBits.wr_succ o (by omega)]
 unfold mn
 split <;> omega
theorem starts_is (R D : List Int) : ∃ t : Bool, A2l.f R D = some t ∧ (R.take D.length = D → t = true) := by
 unfold A2l.f
 by_cases c : (R.length : Int) ≥ (D.length : Int)
 ·have hm : mn (R.length : Int) (D.length : Int) = (D.length : Int) := by unfold mn; split <;> omega
  have h0 : 0 ≤ (D.length : Int) := by omega
  have h1 : (D.length : Int) ≤ (R.length : Int) := c
  rw [if_pos c, hm, if_pos h0, if_pos h1, Int.toNat_natCast]
  refine ⟨_, rfl, fun h => ?_⟩
  rw [h]
  exact beq_self_eq_true _
 ·rw [if_neg c]
  refine ⟨_, rfl, fun h => ?_⟩
  have := congrArg List.length h
  rw [List.length_take] at this
  omega
theorem RGet_j1 (R : List Int) (hR : Bs.Bits R) (hl : R.length < 140737488355328) : Ev (fun k => A03.j1 k R ((lead 4 R : Nat) : Int)) (A3q R) := by
 have ho4 := lead_le 4 R
 unfold A3q
 have hdt := dodL_take R hR (lead 4 R) rfl
 generalize lead 4 R = o at *
 have hs64 := size_le o
 obtain ⟨h, hh⟩ : ∃ h, h = min (o + 1) 4 := ⟨_, rfl⟩
 have hh4 : h ≤ 4 := by omega
 have hb2 : h + size o < 140737488355328 := by omega
 have hszo : ∀ n, n = size o → n ≤ 60 ∨ n = 64 := fun n hn => by
  subst hn
  have : ∀ i : Fin 5, size i.val ≤ 60 ∨ size i.val = 64 := by decide
  exact this ⟨o, by omega⟩
 have hs0 := rsize_is o ho4
 have hmn := mn_head o ho4
 rw [← hh] at hmn hdt ⊢
 have hsi := fun v => size_inj (ones v) o (ones_le v) ho4
 rw [← hh] at hsi
 have htd : (R.take (h + size o)).drop h = (R.drop h).take (size o) := by rw [List.drop_take, Nat.add_sub_cancel_left]
 have hwn : wrap64 ((h : Int) + ((size o : Nat) : Int)) = ((h + size o : Nat) : Int) := PBits.wr_add h (size o) hb2
 clear hb2 hh ho4
 refine Ev.step (fun k => by rw [A03.j1, hs0, Option.bind_some, hmn, hwn]) ?_
 clear hwn hmn hs0
 by_cases c : R.length < h + size o
 ·have c' : (R.length : Int) < ((h + size o : Nat) : Int) := Int.ofNat_lt.2 c
  simp only [if_pos c', if_pos c]
  exact Ev.now _
 ·have c' : ¬ (R.length : Int) < ((h + size o : Nat) : Int) := fun h => c (Int.ofNat_lt.1 h)
  have c1 : (0 : Int) ≤ (h : Int) := Int.natCast_nonneg _
  have c2 : (h : Int) ≤ ((h + size o : Nat) : Int) := Int.ofNat_le.2 (Nat.le_add_right _ _)
  have cc : h + size o ≤ R.length := Nat.le_of_not_lt c
  have c3 : ((h + size o : Nat) : Int) ≤ (R.length : Int) := Int.ofNat_le.2 cc
  have hM : Bs.Bits ((R.drop h).take (size o)) := (hR.drop _).take _
  have hMl : ((R.drop h).take (size o)).length ≤ 60 ∨ ((R.drop h).take (size o)).length = 64 := hszo _ (by rw [List.length_take, List.length_drop, Nat.min_eq_left (Nat.le_sub_of_add_le (by rwa [Nat.add_comm] at cc))])
  simp only [if_neg c', if_neg c, if_pos c1, if_pos c2, if_pos c3, Int.toNat_natCast, htd]
  refine Ev.bind (signed_is _ hM hMl) ?_
  replace hdt := hdt cc
  generalize sgn ((R.drop h).take (size o)) = v at *
  have hDl := dodL_length v
  replace hsi := hsi v
  refine Ev.bind (RDod_is v) ?_
  obtain ⟨t, ht, htr⟩ := starts_is R (dodL v)
  simp only [ht, Option.bind_some]
  by_cases e : ones v = o
  ·have hd := hdt e
   have hdl : (dodL v).length = h + size o := by rw [hd, List.length_take, Nat.min_eq_left cc]
   have htt : t = true := htr (by rw [hdl, hd])
   have e' : ((dodL v).length : Int) = ((h + size o : Nat) : Int) := congrArg _ hdl
   simp only [htt, if_true, if_pos e]
   refine Ev.bind (RDod_is v) ?_
   simp only [if_pos e']
   exact Ev.now _
  ·have e' : ¬ ((dodL v).length : Int) = ((h + size o : Nat) : Int) := fun hc => e (hsi (hDl.symm.trans (Int.ofNat_inj.1 hc)))
   simp only [if_neg e]
   cases t with
   | false =>
    simp only [Bool.false_eq_true, if_false]
    exact Ev.now _
   | true =>
    simp only [if_true]
    refine Ev.bind (RDod_is v) ?_
    simp only [if_neg e']
    exact Ev.now _
theorem RGet_l0 (R : List Int) (hR : Bs.Bits R) (hl : R.length < 140737488355328) : ∀ (e j : Nat), j + e = lead 4 R → Ev (fun k => A03.l0 k R (j : Int)) (A3q R) := by
 have ho4 := lead_le 4 R
 have hoL := lead_len 4 R
 intro e
 induction e with
 | zero =>
  intro j hj
  have hj1 := RGet_j1 R hR hl
  have hst := lead_stop 4 R
  obtain rfl : j = lead 4 R := by omega
  generalize lead 4 R = o at *
  refine Ev.step (fun k => by rw [A03.l0]) ?_
  by_cases c : (o : Int) < (R.length : Int)
  ·have c' : o < R.length := by omega
   by_cases c4 : (o : Int) < 4
   ·have h0 : (0 : Int) ≤ (o : Int) := by omega
    have hne : ¬ rd R (o : Int) = 1 := by
     rw [PBits.rd_at R o c']
     exact hst c' (by omega)
    simp only [if_pos c, if_pos c4, if_pos h0, if_neg hne]
    exact hj1
   ·simp only [if_pos c, if_neg c4]
    exact hj1
  ·simp only [if_neg c]
   exact hj1
 | succ e ih =>
  intro j hj
  have hin : j < R.length := by omega
  have c : (j : Int) < (R.length : Int) := by omega
  have c4 : (j : Int) < 4 := by omega
  have h0 : (0 : Int) ≤ (j : Int) := by omega
  have he : rd R (j : Int) = 1 := by
   rw [PBits.rd_at R j hin]
   exact lead_one 4 R j hin (by omega)
  have hw := PBits.wr_succ j (by omega)
  have hih := ih (j + 1) (by omega)
  refine Ev.step (fun k => by rw [A03.l0]) ?_
  simp only [if_pos c, if_pos c4, if_pos h0, if_pos he, hw]
  exact hih
theorem RGet_is (R : List Int) (hR : Bs.Bits R) (hl : R.length < 140737488355328) : Ev (fun k => A03.f k R) (A3q R) :=
 RGet_l0 R hR hl (lead 4 R) 0 (by omega)
end Go.Proofs.YtodocfjbpkicgaaDoor.PDod
end
section
namespace Go.Proofs.YtodocfjbpkicgaaDoor.PBits
open Go Go.RowKit Go.Proofs.YtodocfjbpkicgaaDoor Go.Proofs.YtodocfjbpkicgaaDoor.All Go.Proofs.YtodocfjbpkicgaaDoorW.PrintWords Go.Proofs.YtodocfjbpkicgaaDoorW.PrintLast
set_option linter.unusedVariables false
set_option linter.unusedSimpArgs false
theorem join_byte {l : List Int} (hb : Bs.Bits l) (h : l.length % 8 ≠ 0) (c : Int) (hc : 0 ≤ c ∧ c < 256) :
    (Bs.pack l).set (l.length / 8) (Go.bits .or .u8 (rd (Bs.pack l) ((l.length / 8 : Nat) : Int)) (shr .u8 c ((l.length % 8 : Nat) : Int))) ++ [shl .u8 c ((8 - l.length % 8 : Nat) : Int)] = Bs.pack (l ++ Bs.low c 8) := by
  have hp := Bs.A3e l
  have hlt : l.length / 8 < (Bs.pack l).length := by omega
  have hby := Bs.pack_bytes hb _ (List.getElem_mem hlt)
  obtain ⟨t, ht⟩ := Bs.pack_last h
  have hg : (Bs.pack l).getD (l.length / 8) 0 = (Bs.pack l)[l.length / 8] := by simp [List.getD_eq_getElem?_getD, hlt]
  have hrd : rd (Bs.pack l) ((l.length / 8 : Nat) : Int) = t * 2 ^ (8 - l.length % 8) := by rw [rd_at _ _ hlt, ← hg, ht]
  rw [← hg, ht] at hby
  rw [Bs.pack_byte h c hc, hrd, ht]
  have hr : l.length % 8 < 8 := Nat.mod_lt _ (by decide)
  generalize l.length % 8 = r at h hby hr ⊢
  rw [shr_u8 _ _ (by omega), shl_u8 _ _ (by omega), or_u8_sum t _ _ (by omega) hby]
  have h3 := Bs.pow_pos r
  refine ⟨Int.ediv_nonneg hc.1 (Int.le_of_lt h3), Int.ediv_lt_of_lt_mul h3 ?_⟩
  rw [← Int.pow_add, show 8 - r + r = 8 from by omega]
  exact hc.2
theorem Join_l0 (l m : List Int) (hl : Bs.Bits l) (hm : Bs.Bits m) (h8 : l.length % 8 ≠ 0) (hlen : l.length + m.length + 16 < 140737488355328) : ∀ (d i : Nat), i + d = (Bs.pack m).length →
    Ev (fun k => A33.l0 k ((l.length % 8 : Nat) : Int) (Bs.pack m) ((Bs.pack m).length : Int) (i : Int) (Bs.pack (l ++ Bs.flat ((Bs.pack m).take i))) (l.length : Int) (Bs.pack m) (m.length : Int)) (Bs.pack (l ++ m), ((l.length + m.length : Nat) : Int)) := by
  have hpm := Bs.A3e m
  have hBm := Bs.pack_bytes hm
  intro d
  induction d with
  | zero =>
    intro i hi
    refine Ev.step (fun k => ?_) (Ev.now _)
    simp only [A33.l0]
    have hz := Bs.pack_zeros (hl.append hm) (8 * ((m.length + 7) / 8) - m.length)
    rw [List.append_assoc, ← Bs.flat_pack hm] at hz
    have hpl := Bs.A3e (l ++ Bs.flat (Bs.pack m))
    rw [List.length_append, Bs.A2n] at hpl
    rw [List.length_append] at hz
    have hno : ¬ ((i : Int) < ((Bs.pack m).length : Int)) := by omega
    have hle : (((l.length + m.length + 7) / 8 : Nat) : Int) ≤ ((Bs.pack (l ++ Bs.flat (Bs.pack m))).length : Int) := by omega
    have htot : l.length + m.length < 140737488355328 := by omega
    have hfull : (Bs.pack m).length ≤ i := by omega
    have hw1 := wr_add l.length m.length htot
    have hw2 := wr_bytes (l.length + m.length) htot
    rw [if_neg hno, List.take_of_length_le hfull, hw1, hw2, if_pos (Int.natCast_nonneg _), if_pos hle, Int.toNat_natCast, hz]
  | succ d ih =>
    intro i hi
    have hlt : i < (Bs.pack m).length := by omega
    have hti : ((Bs.pack m).take i).length = i := by rw [List.length_take]; omega
    have hcl : (l ++ Bs.flat ((Bs.pack m).take i)).length = l.length + 8 * i := by rw [List.length_append, Bs.A2n, hti]
    have hpl := Bs.A3e (l ++ Bs.flat ((Bs.pack m).take i))
    have hcb : Bs.Bits (l ++ Bs.flat ((Bs.pack m).take i)) := hl.append (Bs.flat_bits _)
    have hin : (i : Int) < ((Bs.pack m).length : Int) := by omega
    have hr8 : l.length % 8 = (l ++ Bs.flat ((Bs.pack m).take i)).length % 8 := by omega
    have hpi : (((l ++ Bs.flat ((Bs.pack m).take i)).length / 8 : Nat) : Int) < ((Bs.pack (l ++ Bs.flat ((Bs.pack m).take i))).length : Int) := by omega
    have hps : (Bs.pack (l ++ Bs.flat ((Bs.pack m).take i))).length < 140737488355328 := by omega
    have hp0 : 0 < (Bs.pack (l ++ Bs.flat ((Bs.pack m).take i))).length := by omega
    have hpe : (Bs.pack (l ++ Bs.flat ((Bs.pack m).take i))).length - 1 = (l ++ Bs.flat ((Bs.pack m).take i)).length / 8 := by omega
    have hi47 : i < 140737488355328 := by omega
    have hcr : (l ++ Bs.flat ((Bs.pack m).take i)).length % 8 ≠ 0 := by omega
    have hid : i + 1 + d = (Bs.pack m).length := by omega
    have hw1 := wr_succ i hi47
    have hw2 := wr_eight (l.length % 8) (Nat.le_of_lt (Nat.mod_lt _ (by decide)))
    have hw3 := wr_pred' _ hp0 hps
    rw [hpe] at hw3
    have hc := hBm _ (List.getElem_mem hlt)
    have := ih (i + 1) hid
    rw [List.take_add_one, List.getElem?_eq_getElem hlt, Option.toList_some, Bs.flat_append, show Bs.flat [(Bs.pack m)[i]] = Bs.low (Bs.pack m)[i] 8 from by simp [Bs.flat], ← List.append_assoc] at this
    rw [← join_byte hcb hcr _ hc] at this
    refine Ev.step (fun k => ?_) this
    simp only [A33.l0]
    rw [if_pos hin, if_pos (Int.natCast_nonneg _), if_pos hin, hw3, if_pos (Int.natCast_nonneg _), if_pos hpi, if_pos (Int.natCast_nonneg _)]
    simp only [Option.bind_some]
    rw [hw2, if_pos (Int.natCast_nonneg _), List.length_set, if_pos hps, rd_at _ _ hlt, hw1, Int.toNat_natCast, hr8]
theorem Join_is (l m : List Int) (hl : Bs.Bits l) (hm : Bs.Bits m) (hlen : l.length + m.length + 16 < 140737488355328) :
    Ev (fun k => A33.f k (Bs.pack l) (l.length : Int) (Bs.pack m) (m.length : Int)) (Bs.pack (l ++ m), ((l.length + m.length : Nat) : Int)) := by
  have hpl := Bs.A3e l
  have hpm := Bs.A3e m
  have hsm : (Bs.pack l).length + (Bs.pack m).length < 140737488355328 := by omega
  have hsl : (Bs.pack l).length < 140737488355328 := by omega
  have htot : l.length + m.length < 140737488355328 := by omega
  have hz1 : l.length % 8 = 0 → ((l.length % 8 : Nat) : Int) = 0 := by omega
  have hz2 : l.length % 8 ≠ 0 → ¬ ((l.length % 8 : Nat) : Int) = 0 := by omega
  have ht1 := tmod8 l.length
  have hw1 := wr_add l.length m.length htot
  unfold A33.f A18.f A20.f
  rw [ht1]
  by_cases h8 : l.length % 8 = 0
  · refine Ev.congr (fun k => ?_) (Ev.now _)
    have hs : sumTo [Bs.pack l, Bs.pack m] [Bs.pack l, Bs.pack m].length = (Bs.pack l).length + (Bs.pack m).length := by simp [sumTo]
    rw [if_pos (hz1 h8), hs, if_pos hsm]
    simp only [Option.bind_some, List.flatten_cons, List.flatten_nil, List.append_nil]
    rw [hw1, Bs.pack_mod8 h8]
  · refine Ev.congr (fun k => ?_) (Join_l0 l m hl hm h8 hlen (Bs.pack m).length 0 (Nat.zero_add _))
    rw [if_neg (hz2 h8), if_pos hsl]
    simp only [Option.bind_some, List.take_zero, Bs.flat_nil, List.append_nil]
    rfl
end Go.Proofs.YtodocfjbpkicgaaDoor.PBits
end
section
namespace Go.Proofs.YtodocfjbpkicgaaDoor.PXor
open Go Go.RowKit Go.Proofs.YtodocfjbpkicgaaDoor Go.Proofs.YtodocfjbpkicgaaDoor.All Go.Proofs.YtodocfjbpkicgaaDoorW.PrintWords Go.Proofs.YtodocfjbpkicgaaDoorW.PrintLast
set_option linter.unusedVariables false
set_option linter.unusedSimpArgs false
theorem low_drop (v : Int) (l n m : Nat) : ((Bs.low v (l + n + m)).take (l + n)).drop l = Bs.low (v / 2 ^ m) n := by
 rw [Bs.low_append m (l + n) v, List.take_append_of_le_length (Nat.le_of_eq (Bs.A07 ..).symm), List.take_of_length_le (Nat.le_of_eq (Bs.A07 ..)), Bs.low_append n l (v / 2 ^ m), List.drop_append_of_le_length (Nat.le_of_eq (Bs.A07 ..).symm), List.drop_of_length_le (Nat.le_of_eq (Bs.A07 ..)), List.nil_append]
theorem low_cut (d : Int) (l n : Nat) (h : l + n ≤ 64) : ((Bs.low d 64).take (l + n)).drop l = Bs.low (d / 2 ^ (64 - l - n)) n := by
 have := low_drop d l n (64 - l - n)
 rw [show l + n + (64 - l - n) = 64 from by omega] at this
 exact this
theorem low64_at (d : Int) (j : Nat) (h : j < 64) : rd (Bs.low d 64) (j : Int) = d / 2 ^ (63 - j) % 2 := by
 rw [PBits.rd_at _ _ (by rw [Bs.A07]; exact h), PBits.low_at]
theorem bit_before (d : Int) (hw : Win d) (h0 : 0 < d) (j : Nat) (h : j < LL d) : d / 2 ^ (63 - j) % 2 = 0 := by
 have h1 := hw.lt
 have h2 := hw.hi
 have h3 : (2 : Int) ^ (64 - LL d) ≤ 2 ^ (63 - j) := PBits.pow_le (by omega)
 rw [Int.ediv_eq_zero_of_lt (by omega) (by omega)]
 rfl
theorem bit_first (d : Int) (hw : Win d) : d / 2 ^ (63 - LL d) % 2 = 1 := by rw [hw.top]; rfl
theorem bit_last (d : Int) (hw : Win d) : d / 2 ^ (63 - (LL d + SS d - 1)) % 2 = 1 := by
 have h1 := hw.pos
 have h2 := hw.le
 rw [show 63 - (LL d + SS d - 1) = 64 - LL d - SS d from by omega]
 exact hw.odd
theorem bit_behind (d : Int) (hw : Win d) (j : Nat) (h : LL d + SS d ≤ j) (h64 : j < 64) : d / 2 ^ (63 - j) % 2 = 0 := by
 have h1 := hw.pos
 have h2 := hw.le
 have hm := hw.mul
 generalize d / 2 ^ (64 - LL d - SS d) = q at hm
 have e : 64 - LL d - SS d = (63 - j) + (j - (LL d + SS d)) + 1 := by omega
 rw [hm, e, Int.pow_add, Int.pow_add, show q * (2 ^ (63 - j) * 2 ^ (j - (LL d + SS d)) * 2 ^ 1) = (q * 2 ^ (j - (LL d + SS d)) * 2) * 2 ^ (63 - j) from by
  rw [show (2 : Int) ^ 1 = 2 from rfl, Int.mul_assoc (2 ^ (63 - j)), Int.mul_comm (2 ^ (63 - j)), ← Int.mul_assoc, ← Int.mul_assoc]]
 rw [Int.mul_ediv_cancel _ (Int.ne_of_gt (Bs.pow_pos _))]
 omega
def Sc (d : Int) (i : Nat) (f l : Int) : Prop :=
 (i ≤ LL d ∧ f = -1 ∧ l = -1) ∨ (LL d < i ∧ f = (LL d : Int) ∧ ∃ z : Nat, l = (z : Int) ∧ z < i ∧ d / 2 ^ (63 - z) % 2 = 1 ∧ ∀ j, z < j → j < i → d / 2 ^ (63 - j) % 2 = 0)
theorem Code_l0 (d : Int) (hw : Win d) (h0 : 0 < d) (v p : Int) (a b : Int) (R : List Int × Int × Int × Int)
    (hend : Ev (fun k => A0k.l0 k v (Bs.low d 64) (LL d : Int) ((LL d + SS d - 1 : Nat) : Int) 64 p a b) R) :
    ∀ (e i : Nat) (f l : Int), i + e = 64 → Sc d i f l → Ev (fun k => A0k.l0 k v (Bs.low d 64) f l (i : Int) p a b) R := by
  intro e
  have g1 := hw.lt
  have g2 := hw.pos
  have g3 := hw.le
  induction e with
  | zero =>
    intro i f l hi hs
    obtain rfl : i = 64 := by omega
    rcases hs with ⟨h, _, _⟩ | ⟨h1, rfl, z, rfl, hz1, hz2, hz3⟩
    · omega
    · obtain rfl : z = LL d + SS d - 1 := by
        rcases Nat.lt_trichotomy z (LL d + SS d - 1) with h | h | h
        · have := hz3 (LL d + SS d - 1) h (by omega)
          rw [bit_last d hw] at this
          omega
        · exact h
        · have := bit_behind d hw z (by omega) hz1
          omega
      exact hend
  | succ e ih =>
    intro i f l hi hs
    have hi1 : (i : Int) < 64 := by omega
    have hwr : wrap64 ((i : Int) + 1) = ((i + 1 : Nat) : Int) := by rw [PBits.w64 _ (by omega)]; omega
    have hlen : (i : Int) < ((Bs.low d 64).length : Int) := by rw [Bs.A07]; omega
    have hrd := low64_at d i (by omega)
    by_cases hb : d / 2 ^ (63 - i) % 2 = 1
    · have hge : LL d ≤ i := by
        apply Nat.le_of_not_lt
        intro hlt
        have := bit_before d hw h0 i hlt
        omega
      rcases hs with ⟨h, rfl, rfl⟩ | ⟨h1, rfl, z, rfl, hz1, hz2, hz3⟩
      · obtain rfl : i = LL d := by omega
        refine Ev.step (fun k => ?_) (ih (LL d + 1) (LL d : Int) (LL d : Int) (by omega) (.inr ⟨by omega, rfl, LL d, rfl, by omega, hb, fun j h1 h2 => by omega⟩))
        rw [A0k.l0, if_pos hi1, if_pos (Int.natCast_nonneg _), if_pos hlen, hrd, if_pos hb, if_pos (by decide), hwr]
      · refine Ev.step (fun k => ?_) (ih (i + 1) (LL d : Int) (i : Int) (by omega) (.inr ⟨by omega, rfl, i, rfl, by omega, hb, fun j h1 h2 => by omega⟩))
        rw [A0k.l0, if_pos hi1, if_pos (Int.natCast_nonneg _), if_pos hlen, hrd, if_pos hb, if_neg (by omega), hwr]
    · have hb0 : d / 2 ^ (63 - i) % 2 = 0 := by omega
      refine Ev.step (fun k => ?_) (ih (i + 1) f l (by omega) ?_)
      · rw [A0k.l0, if_pos hi1, if_pos (Int.natCast_nonneg _), if_pos hlen, hrd, if_neg hb, hwr]
      · rcases hs with ⟨h, h2, h3⟩ | ⟨h1, h2, z, h3, hz1, hz2, hz3⟩
        · refine .inl ⟨?_, h2, h3⟩
          have : i ≠ LL d := by
            rintro rfl
            exact hb (bit_first d hw)
          omega
        · refine .inr ⟨by omega, h2, z, h3, by omega, hz2, fun j h5 h6 => ?_⟩
          by_cases hj : j = i
          · subst hj; exact hb0
          · exact hz3 j h5 (by omega)
theorem Code_zero (v p a b : Int) (R : List Int × Int × Int × Int) (hend : Ev (fun k => A0k.l0 k v (Bs.low 0 64) (-1) (-1) 64 p a b) R) :
    ∀ (e i : Nat), i + e = 64 → Ev (fun k => A0k.l0 k v (Bs.low 0 64) (-1) (-1) (i : Int) p a b) R := by
  intro e
  induction e with
  | zero => intro i hi; obtain rfl : i = 64 := by omega
            exact hend
  | succ e ih =>
    intro i hi
    have hi1 : (i : Int) < 64 := by omega
    have hwr : wrap64 ((i : Int) + 1) = ((i + 1 : Nat) : Int) := by rw [PBits.w64 _ (by omega)]; omega
    have hlen : (i : Int) < ((Bs.low 0 64).length : Int) := by rw [Bs.A07]; omega
    refine Ev.step (fun k => ?_) (ih (i + 1) (by omega))
    rw [A0k.l0, if_pos hi1, if_pos (Int.natCast_nonneg _), if_pos hlen, low64_at 0 i (by omega), Int.zero_ediv, if_neg (by decide), hwr]
theorem lt47 (a b : List Int) (h : a.length + b.length ≤ 1000) : a.length + b.length < 140737488355328 := by omega
theorem RCode_j1 (D : List Int) (hD : D.length = 64) (L S l n : Nat) (hL : L < 64) (hS : 1 ≤ S) (hLS : L + S ≤ 64) (hln : l + n ≤ 64) (v p : Int) (b : Bool) :
    Ev (fun k => A0k.j1 k D (L : Int) ((L + S - 1 : Nat) : Int) b p (l : Int) (n : Int) v (l : Int) (n : Int))
      (if b = true then ([1, 0] ++ (D.take (l + n)).drop l, v, (l : Int), (n : Int)) else ([1, 1] ++ Bs.low (L : Int) 6 ++ Bs.low ((S : Int) - 1) 6 ++ (D.take (L + S)).drop L, v, (L : Int), (S : Int))) := by
  cases b
  · have u1 : IntKind.u64.wrap (L : Int) = (L : Int) := by rw [Ib.wrap_u64]; omega
    have w3 : wrap64 (wrap64 (((L + S - 1 : Nat) : Int) - (L : Int)) + 1) = (S : Int) := by rw [PBits.w64 (((L + S - 1 : Nat) : Int) - (L : Int)) (by omega), PBits.w64 _ (by omega)]; omega
    have u2 : IntKind.u64.wrap (wrap64 ((S : Int) - 1)) = (S : Int) - 1 := by rw [PBits.w64 _ (by omega), Ib.wrap_u64]; omega
    have w4 : wrap64 (((L + S - 1 : Nat) : Int) + 1) = ((L + S : Nat) : Int) := by rw [PBits.w64 _ (by omega)]; omega
    have e1 := PBits.Low_is (L : Int) 6 (by omega) (by decide)
    have e2 := PBits.Low_is ((S : Int) - 1) 6 (by omega) (by decide)
    have k6 : (6 : Int).toNat = 6 := rfl
    rw [k6] at e1 e2
    refine Ev.step (fun k => by rw [A0k.j1, if_neg (by decide), w3, u1, u2, w4, Option.bind_some]) (Ev.bind e1 ?_)
    refine Ev.congr (fun k => by simp only [Option.bind_some]; rw [if_pos (lt47 _ _ (by simp only [List.length_cons, List.length_nil, Bs.A07]; omega))]) ?_
    refine Ev.bind e2 ?_
    refine Ev.congr (fun k => ?_) (Ev.now _)
    rw [if_pos (lt47 _ _ (by simp only [List.length_append, List.length_cons, List.length_nil, Bs.A07]; omega)), if_pos (Int.natCast_nonneg _), if_pos (by omega), if_pos (by omega)]
    simp only [Int.toNat_natCast]
    rw [if_pos (lt47 _ _ (by simp only [List.length_append, List.length_cons, List.length_nil, Bs.A07, List.length_drop, List.length_take]; omega))]
    rfl
  · have w2 : wrap64 ((l : Int) + (n : Int)) = ((l + n : Nat) : Int) := by rw [PBits.w64 _ (by omega)]; omega
    rw [if_pos rfl]
    refine Ev.step (fun k => by rw [A0k.j1, if_pos rfl, Option.bind_some, if_pos (Int.natCast_nonneg _), w2, if_pos (by omega), if_pos (by omega), Option.bind_some, if_pos (lt47 _ _ (by simp only [List.length_cons, List.length_nil, List.length_drop, List.length_take]; omega))]) ?_
    simp only [Int.toNat_natCast]
    exact Ev.now _
theorem RCode_is (p v : Int) (l n : Nat) (hp : 0 ≤ p ∧ p < 18446744073709551616) (hv : 0 ≤ v ∧ v < 18446744073709551616) (hln : l + n ≤ 64) {d : Int} (hd : Go.bits .xor .u64 v p = d) :
    Ev (fun k => A0k.f k p (l : Int) (n : Int) v) (cb l n d, v, (cl l n d : Int), (cn l n d : Int)) := by
  have hr := xor_range v p hv hp
  rw [hd] at hr
  refine Ev.congr (fun k => by unfold A0k.f; rw [hd]) (Ev.bind (PBits.Low_is d 64 hr (by omega)) ?_)
  show Ev (fun k => A0k.l0 k v (Bs.low d 64) (-1) (-1) ((0 : Nat) : Int) p (l : Int) (n : Int)) _
  by_cases h0 : d = 0
  · subst h0
    refine Code_zero v p l n _ ?_ 64 0 (by omega)
    refine Ev.step (g := fun k => _) (fun k => by rw [A0k.l0, if_neg (by decide), if_pos (by decide)]) ?_
    unfold cb cl cn
    simp only [if_true]
    exact Ev.now _
  have hw := win d (by omega) hr.2
  have hs := SS_le d (by omega) hr.2
  have g1 := hw.lt
  have g2 := hw.pos
  have g3 := hw.le
  refine Code_l0 d hw (by omega) v p l n _ ?_ 64 0 (-1) (-1) (by omega) (.inl ⟨Nat.zero_le _, rfl, rfl⟩)
  have main : ∀ b : Bool, b = decide (0 < n ∧ l ≤ LL d ∧ LL d + SS d ≤ l + n) → Ev (fun k => A0k.j1 k (Bs.low d 64) (LL d : Int) ((LL d + SS d - 1 : Nat) : Int) b p (l : Int) (n : Int) v (l : Int) (n : Int)) (cb l n d, v, (cl l n d : Int), (cn l n d : Int)) := by
    intro b hb
    have h := RCode_j1 (Bs.low d 64) (Bs.A07 _ _) (LL d) (SS d) l n g1 g2 g3 hln v p b
    rw [low_cut d l n hln, low_cut d (LL d) (SS d) g3] at h
    unfold cb cl cn
    rw [if_neg h0, if_neg h0, if_neg h0]
    by_cases hc : 0 < n ∧ l ≤ LL d ∧ LL d + SS d ≤ l + n
    · rw [if_pos (by rw [hb]; exact decide_eq_true hc)] at h
      rw [if_pos hc, if_pos hc, if_pos hc]
      exact h
    · rw [if_neg (by rw [hb, decide_eq_false hc]; decide)] at h
      rw [if_neg hc, if_neg hc, if_neg hc]
      exact h
  have w2 : wrap64 ((l : Int) + (n : Int)) = ((l + n : Nat) : Int) := by rw [PBits.w64 _ (by omega)]; omega
  by_cases c1 : 0 < n
  · by_cases c2 : l ≤ LL d
    · have hm := main (decide (((LL d + SS d - 1 : Nat) : Int) < wrap64 ((l : Int) + (n : Int)))) ?_
      refine Ev.step (fun k => ?_) hm
      · rw [A0k.l0, if_neg (by decide), if_neg (by omega), if_pos (by omega), if_pos (by omega)]
      · rw [w2]
        congr 1
        exact propext ⟨fun h => ⟨c1, c2, by omega⟩, fun h => by omega⟩
    · refine Ev.step (g := fun k => _) (fun k => ?_) (main false ?_)
      · rw [A0k.l0, if_neg (by decide), if_neg (by omega), if_pos (by omega), if_neg (by omega)]
      · exact (decide_eq_false (by omega)).symm
  · refine Ev.step (g := fun k => _) (fun k => ?_) (main false ?_)
    · rw [A0k.l0, if_neg (by decide), if_neg (by omega), if_neg (by omega)]
    · exact (decide_eq_false (by omega)).symm
end Go.Proofs.YtodocfjbpkicgaaDoor.PXor
end
section
namespace Go.Proofs.YtodocfjbpkicgaaDoor.PKinds
open Go Go.RowKit Go.Proofs.YtodocfjbpkicgaaDoor Go.Proofs.YtodocfjbpkicgaaDoor.All Go.Proofs.YtodocfjbpkicgaaDoorW.PrintWords Go.Proofs.YtodocfjbpkicgaaDoorW.PrintLast
set_option linter.unusedVariables false
set_option linter.unusedSimpArgs false
def z8 : S8 := (0, 0, 0, 0, 0, 0, 0, 0)
def dt (t d T : Int) : Int := wrap64 (wrap64 (T - t) - d)
def dv (v e V : Int) : Int := wrap64 (IntKind.u64.wrap (IntKind.u64.wrap (V - v) - e))
abbrev dx (V xp : Int) : Int := Go.bits .xor .u64 V xp
def kp (kind n t d v e xp : Int) (xl xn : Nat) (T V : Int) : List Int × S8 × Int :=
 if ¬ (kind = 1 ∨ kind = 2) then ([], z8, 6)
 else if n = 0 then (Bs.low (IntKind.u64.wrap T) 64 ++ Bs.low V 64, aft kind n t d v e xp xl xn T V 0 0 0, 0)
 else if T ≤ t then ([], z8, 4)
 else if kind = 2 then (PDod.dodL (dt t d T) ++ PDod.dodL (dv v e V), aft kind n t d v e xp xl xn T V 0 0 0, 0)
 else (PDod.dodL (dt t d T) ++ PXor.cb xl xn (dx V xp), aft kind n t d v e xp xl xn T V V (PXor.cl xl xn (dx V xp)) (PXor.cn xl xn (dx V xp)), 0)
def pimp (r : List Int × S8 × Int) : List Int × Int × Int × Int × Int × Int × Int × Int × Int × Int × Option Int :=
 (Bs.pack r.1, (r.1.length : Int), r.2.1.1, r.2.1.2.1, r.2.1.2.2.1, r.2.1.2.2.2.1, r.2.1.2.2.2.2.1, r.2.1.2.2.2.2.2.1, r.2.1.2.2.2.2.2.2.1, r.2.1.2.2.2.2.2.2.2, if r.2.2 = 0 then none else some r.2.2)
theorem pimp_none (c : Int) : pimp ([], z8, c) = (([] : List Int), 0, 0, 0, 0, 0, 0, 0, 0, 0, if c = 0 then none else some c) := by
 simp only [pimp, z8, Bs.pack_nil, List.length_nil]
 rfl
theorem known_is (kind : Int) : kinds_known.f kind = some (decide (kind = 1 ∨ kind = 2)) := by
 unfold kinds_known.f
 by_cases c1 : kind = 1
 ·rw [if_pos c1, decide_eq_true (.inl c1)]
 ·rw [if_neg c1]
  by_cases c2 : kind = 2
  ·rw [beq_iff_eq.mpr c2, decide_eq_true (.inr c2)]
  ·rw [beq_eq_false_iff_ne.mpr c2, decide_eq_false (fun h => h.elim c1 c2)]
theorem dodL_len (v : Int) : (PDod.dodL v).length ≤ 68 := by
 have h1 := PDod.dodL_length v
 have h2 := PDod.size_le (PDod.ones v)
 omega
theorem jn (l m : List Int) (hl : Bs.Bits l) (hm : Bs.Bits m) (h : l.length + m.length ≤ 1000) : Ev (fun k => A33.f k (Bs.pack l) (l.length : Int) (Bs.pack m) (m.length : Int)) (Bs.pack (l ++ m), ((l ++ m).length : Int)) := by
 have := PBits.Join_is l m hl hm (by omega)
 rw [← List.length_append] at this
 exact this
theorem u64_range (T : Int) : 0 ≤ IntKind.u64.wrap T ∧ IntKind.u64.wrap T < 18446744073709551616 := by rw [Ib.wrap_u64]; omega
theorem Put_is (kind n t d v e xp : Int) (xl xn : Nat) (T V : Int) (hn : 0 ≤ n) (hV : 0 ≤ V ∧ V < 18446744073709551616) (hp : 0 ≤ xp ∧ xp < 18446744073709551616) (hx : xl + xn ≤ 64) :
    Ev (fun k => kinds_Put.f k kind n t d v e xp (xl : Int) (xn : Int) T V) (pimp (kp kind n t d v e xp xl xn T V)) := by
  unfold kinds_Put.f kp
  rw [known_is]
  simp only [Option.bind_some]
  by_cases c1 : kind = 1 ∨ kind = 2
  · have c1n : ¬ ¬ (kind = 1 ∨ kind = 2) := fun h => h c1
    rw [decide_eq_true c1, if_neg c1n]
    simp only [if_true]
    by_cases c2 : n = 0
    · have e1 := PXor.putk0 (IntKind.u64.wrap T) (u64_range T) 64 (Nat.le_refl _) (n := 64) rfl
      have e2 := PXor.putk (Bs.low (IntKind.u64.wrap T) 64) (Bs.low_bits _ _) (by rw [Bs.A07]; decide) V hV 64 (Nat.le_refl _) (n := 64) rfl
      have e3 := After_is kind n t d v e xp xl xn T V 0 0 0 hn
      simp only [if_pos c2]
      refine Ev.bind e1 (Ev.bind e2 (Ev.bind e3 ?_))
      exact Ev.now _
    simp only [if_neg c2]
    by_cases c3 : T ≤ t
    · simp only [if_pos c3]
      rw [pimp_none]
      exact Ev.now _
    simp only [if_neg c3]
    have e1 := PDod.Code_is (dt t d T)
    have b1 := PDod.dodL_bits (dt t d T)
    have n1 := dodL_len (dt t d T)
    refine Ev.bind e1 ?_
    by_cases c4 : kind = 2
    · have e2 := PDod.Code_is (dv v e V)
      have e3 := jn _ _ b1 (PDod.dodL_bits (dv v e V)) (by have := dodL_len (dv v e V); omega)
      have e4 := After_is kind n t d v e xp xl xn T V 0 0 0 hn
      simp only [if_pos c4]
      refine Ev.bind e2 (Ev.bind e3 (Ev.bind e4 ?_))
      exact Ev.now _
    · have e2 := PXor.Code_is xp V xl xn hp hV hx (d := dx V xp) rfl
      have hr := PXor.xor_range V xp hV hp
      have hc := PXor.cb_short xl xn (dx V xp) hx hr.1 hr.2
      have e3 := jn _ _ b1 (PXor.cb_bits xl xn (dx V xp)) (by omega)
      have e4 := After_is kind n t d v e xp xl xn T V V (PXor.cl xl xn (dx V xp)) (PXor.cn xl xn (dx V xp)) hn
      simp only [if_neg c4]
      refine Ev.bind e2 (Ev.bind e3 (Ev.bind e4 ?_))
      exact Ev.now _
  · rw [decide_eq_false c1, if_pos c1, pimp_none]
    exact Ev.congr (fun k => if_neg Bool.false_ne_true) (Ev.now _)
end Go.Proofs.YtodocfjbpkicgaaDoor.PKinds
end
section
namespace Go.Proofs.YtodocfjbpkicgaaDoor.PXor
open Go Go.RowKit Go.Proofs.YtodocfjbpkicgaaDoor Go.Proofs.YtodocfjbpkicgaaDoor.All Go.Proofs.YtodocfjbpkicgaaDoorW.PrintWords Go.Proofs.YtodocfjbpkicgaaDoorW.PrintLast
set_option linter.unusedVariables false
set_option linter.unusedSimpArgs false
theorem byte_inj {x y : Int} (hx : x = 0 ∨ x = 1) (hy : y = 0 ∨ y = 1) (h : UInt8.ofNat x.toNat = UInt8.ofNat y.toNat) : x = y := by
 rcases hx with rfl | rfl <;> rcases hy with rfl | rfl <;> first | rfl | exact absurd h (by decide)
theorem strs_inj : ∀ {a b : List Int}, Bs.Bits a → Bs.Bits b → (strOfNums a).toList = (strOfNums b).toList → a = b := by
 intro a
 induction a with
 | nil =>
  intro b ha hb h
  rw [Lib.strOfNums_toList, Lib.strOfNums_toList] at h
  cases b with
  | nil => rfl
  | cons y b => exact absurd h (by simp [Lib.bytesOf])
 | cons x a ih =>
  intro b ha hb h
  cases b with
  | nil => rw [Lib.strOfNums_toList, Lib.strOfNums_toList] at h; exact absurd h (by simp [Lib.bytesOf])
  | cons y b =>
   have h2 := h
   rw [Lib.strOfNums_toList, Lib.strOfNums_toList] at h2
   simp only [Lib.bytesOf, List.map_cons, List.cons.injEq] at h2
   have e1 : x = y := byte_inj (ha x (by simp)) (hb y (by simp)) h2.1
   have e2 := ih (b := b) (fun z hz => ha z (by simp [hz])) (fun z hz => hb z (by simp [hz])) (by rw [Lib.strOfNums_toList, Lib.strOfNums_toList]; exact h2.2)
   rw [e1, e2]
theorem zeros_bits (n : Nat) : Bs.Bits (List.replicate n (0 : Int)) := fun x hx => .inl (List.eq_of_mem_replicate hx)
theorem zeros_num (n : Nat) : Bs.number (List.replicate n (0 : Int)) = 0 := by
 have := Bs.A3n [] n
 rw [List.nil_append, Bs.number_nil, Int.zero_mul] at this
 exact this
theorem pad_num (b : List Int) (lead m : Nat) : Bs.number ((List.replicate lead 0 ++ b) ++ List.replicate m 0) = Bs.number b * 2 ^ m := by
 rw [Bs.A3n, Bs.A3w, zeros_num, Int.zero_mul, Int.zero_add]
theorem wadd3 (h s : Nat) (h14 : h ≤ 14) (hs : s ≤ 64) : wrap64 ((h : Int) + (s : Int)) = ((h + s : Nat) : Int) := by rw [PBits.w64 _ (by omega)]; omega
theorem RGet_j0 (p : Int) (hp : 0 ≤ p ∧ p < 18446744073709551616) (l n : Nat) (hln : l + n ≤ 64) (R : List Int) (hR : Bs.Bits R) (h lead size : Nat) (hs : size ≤ 64) (hld : lead ≤ 64) (h14 : h ≤ 14) :
    Ev (fun k => A0h.j0 k R (lead : Int) (size : Int) (h : Int) p (l : Int) (n : Int)) (bd p l n R h lead size) := by
  unfold bd
  by_cases c0 : size = 0
  · rw [if_pos (.inl c0)]
    subst c0
    refine Ev.step (fun k => by rw [A0h.j0, if_pos (by decide)]) ?_
    exact Ev.step (fun k => by rw [A0h.j1, if_pos rfl]) (Ev.now _)
  refine Ev.step (fun k => by rw [A0h.j0, if_neg (nz c0), wadd lead size hld hs]) ?_
  by_cases c1 : lead + size > 64
  · rw [if_pos (.inr c1), decide_eq_true (gtc c1)]
    exact Ev.step (fun k => by rw [A0h.j1, if_pos rfl]) (Ev.now _)
  have c1' : lead + size ≤ 64 := Nat.le_of_not_lt c1
  rw [if_neg (fun h => h.elim c0 c1), decide_eq_false (gtc' c1)]
  by_cases c2 : R.length < h + size
  · rw [if_pos c2]
    exact Ev.step (fun k => by rw [A0h.j1, if_neg Bool.false_ne_true, wadd3 h size h14 hs, if_pos (Int.ofNat_lt.mpr c2)]) (Ev.now _)
  have c2' : h + size ≤ R.length := Nat.le_of_not_lt c2
  rw [if_neg c2]
  have hxr := xv_range hR h lead size c2' c1'
  have hcut : (R.take (h + size)).drop h = (R.drop h).take size := by rw [List.drop_take, Nat.add_sub_cancel_left]
  have hblen : ((R.drop h).take size).length = size := cut_len R h size c2'
  have hbits : Bs.Bits ((List.replicate lead 0 ++ (R.drop h).take size) ++ List.replicate (64 - lead - size) 0) := ((zeros_bits lead).append (bits_take hR h size)).append (zeros_bits _)
  have hplen : ((List.replicate lead 0 ++ (R.drop h).take size) ++ List.replicate (64 - lead - size) (0 : Int)).length ≤ 64 := by
    rw [List.length_append, List.length_append, List.length_replicate, List.length_replicate, hblen]; omega
  have hN := PBits.Number_is _ hbits hplen
  rw [pad_num] at hN
  have hcode := RCode_is p (Go.bits .xor .u64 p (xv R h lead size)) l n hp (xor_range p _ hp hxr) hln (xor_back p _ hp hxr)
  have hle1 : lead ≤ 281474976710656 := Nat.le_trans hld (by decide)
  have hl1 : (List.replicate lead (0 : Int)).length + ((R.drop h).take size).length < 140737488355328 := by
    refine lt47 _ _ ?_
    rw [List.length_replicate, hblen]; omega
  have hl2 : (List.replicate lead (0 : Int) ++ (R.drop h).take size).length + (64 - lead - size) < 140737488355328 := by
    rw [List.length_append, List.length_replicate, hblen]; omega
  refine Ev.step (fun k => by
    rw [A0h.j1, if_neg Bool.false_ne_true, wadd3 h size h14 hs, if_neg (fun hh => c2 (Int.ofNat_lt.mp hh)), if_pos (Int.natCast_nonneg lead), wsub lead size c1']
    simp only [Int.toNat_natCast]
    rw [if_pos hle1, Option.bind_some, if_pos (Int.natCast_nonneg h), if_pos (Int.ofNat_le.mpr (Nat.le_add_right h size)), if_pos (Int.ofNat_le.mpr c2'), hcut, if_pos hl1, Option.bind_some, if_pos (Int.natCast_nonneg _), if_pos hl2]) (Ev.bind hN ?_)
  refine Ev.bind hcode ?_
  have hcb := cb_bits l n (xv R h lead size)
  show Ev (fun k => if ((cb l n (xv R h lead size)).length : Int) = ((h + size : Nat) : Int) then (if 0 ≤ ((h + size : Nat) : Int) then (if (strOfNums (cb l n (xv R h lead size))).toList = (strOfNums (R.take (h + size))).toList then some (Go.bits .xor .u64 p (xv R h lead size), Go.bits .xor .u64 p (xv R h lead size), (cl l n (xv R h lead size) : Int), (cn l n (xv R h lead size) : Int), ((cb l n (xv R h lead size)).length : Int), 0) else some (0, 0, 0, 0, 0, 3)) else none) else some (0, 0, 0, 0, 0, 3)) _
  by_cases e : cb l n (xv R h lead size) = R.take (h + size)
  · have elen : (cb l n (xv R h lead size)).length = h + size := by rw [e, List.length_take]; exact Nat.min_eq_left c2'
    rw [if_pos e]
    refine Ev.congr (fun k => ?_) (Ev.now _)
    rw [elen, if_pos rfl, if_pos (Int.natCast_nonneg _), if_pos (by rw [e])]
  · rw [if_neg e]
    refine Ev.congr (fun k => ?_) (Ev.now _)
    by_cases e1 : ((cb l n (xv R h lead size)).length : Int) = ((h + size : Nat) : Int)
    · rw [if_pos e1, if_pos (Int.natCast_nonneg _), if_neg (fun hh => e (strs_inj hcb (hR.take _) hh))]
    · rw [if_neg e1]
theorem RGet_is (p : Int) (hp : 0 ≤ p ∧ p < 18446744073709551616) (l n : Nat) (hln : l + n ≤ 64) (R : List Int) (hR : Bs.Bits R) :
    Ev (fun k => A0h.f k p (l : Int) (n : Int) R) (xg p l n R) := by
  unfold xg
  by_cases c0 : R.length = 0
  · rw [if_pos c0]
    exact Ev.congr (fun k => by unfold A0h.f; rw [if_pos (by rw [c0]; rfl)]) (Ev.now _)
  rw [if_neg c0]
  have p0 : 0 < (R.length : Int) := Int.ofNat_lt.mpr (Nat.pos_of_ne_zero c0)
  by_cases c1 : rd R 0 = 0
  · rw [if_pos c1]
    exact Ev.congr (fun k => by unfold A0h.f; rw [if_neg (nz c0), if_pos p0, if_pos c1]) (Ev.now _)
  rw [if_neg c1]
  by_cases c2 : R.length = 1
  · rw [if_pos c2]
    exact Ev.congr (fun k => by unfold A0h.f; rw [if_neg (nz c0), if_pos p0, if_neg c1, if_pos (by rw [c2]; rfl)]) (Ev.now _)
  rw [if_neg c2]
  have c2i : ¬ (R.length : Int) = 1 := fun hh => c2 (Int.ofNat.inj hh)
  have p1 : 1 < (R.length : Int) := by omega
  by_cases c3 : rd R 1 = 1
  · rw [if_pos c3]
    by_cases c4 : R.length < 14
    · rw [if_pos c4]
      exact Ev.congr (fun k => by unfold A0h.f; rw [if_neg (nz c0), if_pos p0, if_neg c1, if_neg c2i, if_pos p1, if_pos c3, if_pos (by omega)]) (Ev.now _)
    · rw [if_neg c4]
      have c4' : 14 ≤ R.length := Nat.le_of_not_lt c4
      have hl1 := ld_lt hR c4'
      have hs1 := sd_lt hR c4'
      have n1 := PBits.Number_is ((R.take 8).drop 2) ((hR.take 8).drop 2) (by rw [List.length_drop, List.length_take]; omega)
      have n2 := PBits.Number_is ((R.take 14).drop 8) ((hR.take 14).drop 8) (by rw [List.length_drop, List.length_take]; omega)
      have e1 : (R.take 8).drop 2 = (R.drop 2).take 6 := by rw [List.drop_take]
      have e2 : (R.take 14).drop 8 = (R.drop 8).take 6 := by rw [List.drop_take]
      rw [e1, ← hl1.1] at n1
      rw [e2, show Bs.number ((R.drop 8).take 6) = (sd R : Int) - 1 by rw [hs1.1]; exact (Int.add_sub_cancel _ _).symm] at n2
      refine Ev.congr (fun k => by unfold A0h.f; rw [if_neg (nz c0), if_pos p0, if_neg c1, if_neg c2i, if_pos p1, if_pos c3, if_neg (show ¬ (R.length : Int) < 14 by omega), if_pos (by decide), if_pos (by omega), e1]) (Ev.bind n1 ?_)
      refine Ev.congr (fun k => by rw [if_pos (by decide), if_pos (by omega), e2]) (Ev.bind n2 ?_)
      rw [wsm _ hl1.2, wsn _ hs1.2.2 hs1.2.1]
      exact RGet_j0 p hp l n hln R hR 14 (ld R) (sd R) hs1.2.1 (Nat.le_of_lt hl1.2) (by decide)
  · rw [if_neg c3]
    refine Ev.congr (fun k => by unfold A0h.f; rw [if_neg (nz c0), if_pos p0, if_neg c1, if_neg c2i, if_pos p1, if_neg c3]) ?_
    exact RGet_j0 p hp l n hln R hR 2 l n (Nat.le_trans (Nat.le_add_left _ _) hln) (Nat.le_trans (Nat.le_add_right _ _) hln) (by decide)
end Go.Proofs.YtodocfjbpkicgaaDoor.PXor
end
section
namespace Go.Proofs.YtodocfjbpkicgaaDoor.PKinds
open Go Go.RowKit Go.Proofs.YtodocfjbpkicgaaDoor Go.Proofs.YtodocfjbpkicgaaDoor.All Go.Proofs.YtodocfjbpkicgaaDoorW.PrintWords Go.Proofs.YtodocfjbpkicgaaDoorW.PrintLast
set_option linter.unusedVariables false
set_option linter.unusedSimpArgs false
abbrev O := Int × Int × S8 × Int × Int
def bad (c : Int) : O := (0, 0, z8, 0, c)
def kv (kind v e xp : Int) (xl xn : Nat) (R : List Int) : Int × Int × Int × Int × Int × Int :=
 if kind = 2 then (IntKind.u64.wrap (IntKind.u64.wrap (v + e) + IntKind.u64.wrap (PDod.A3q R).1), 0, 0, 0, (PDod.A3q R).2.1, (PDod.A3q R).2.2)
 else PXor.xg xp xl xn R
def fin (kind n t d v e xp : Int) (xl xn : Nat) (T m : Int) (W : Int × Int × Int × Int × Int × Int) : O :=
 if ¬ W.2.2.2.2.2 = 0 then bad W.2.2.2.2.2
 else if T ≤ t then bad 4
 else (T, W.1, aft kind n t d v e xp xl xn T W.1 W.2.1 W.2.2.1 W.2.2.2.1, wrap64 (m + W.2.2.2.2.1), 0)
def kg (kind n t d v e xp : Int) (xl xn : Nat) (R : List Int) : O :=
 if ¬ (kind = 1 ∨ kind = 2) then bad 6
 else if n = 0 then (if R.length < 128 then bad 2 else (wrap64 (Bs.number (R.take 64)), Bs.number ((R.drop 64).take 64), aft kind n t d v e xp xl xn (wrap64 (Bs.number (R.take 64))) (Bs.number ((R.drop 64).take 64)) 0 0 0, 128, 0))
 else if ¬ (PDod.A3q R).2.2 = 0 then bad (PDod.A3q R).2.2
 else fin kind n t d v e xp xl xn (wrap64 (wrap64 (t + d) + (PDod.A3q R).1)) (PDod.A3q R).2.1 (kv kind v e xp xl xn (R.drop (PDod.A3q R).2.1.toNat))
def gref (r : O) : Int × Int × Int × Int × Int × Int × Int × Int × Int × Int × Int × Int :=
 (r.1, r.2.1, r.2.2.1.1, r.2.2.1.2.1, r.2.2.1.2.2.1, r.2.2.1.2.2.2.1, r.2.2.1.2.2.2.2.1, r.2.2.1.2.2.2.2.2.1, r.2.2.1.2.2.2.2.2.2.1, r.2.2.1.2.2.2.2.2.2.2, r.2.2.2.1, r.2.2.2.2)
def gimp8 (r : O) : Int × Int × Int × Int × Int × Int × Int × Int × Int × Int × Int × Option Int :=
 (r.1, r.2.1, r.2.2.1.1, r.2.2.1.2.1, r.2.2.1.2.2.1, r.2.2.1.2.2.2.1, r.2.2.1.2.2.2.2.1, r.2.2.1.2.2.2.2.2.1, r.2.2.1.2.2.2.2.2.2.1, r.2.2.1.2.2.2.2.2.2.2, r.2.2.2.1, if r.2.2.2.2 = 0 then none else some r.2.2.2.2)
theorem gspec_fit (R : List Int) (hR : Bs.Bits R) (h : (PDod.A3q R).2.2 = 0) : ∃ m : Nat, (PDod.A3q R).2.1 = (m : Int) ∧ m ≤ R.length ∧ 1 ≤ R.length := by
 unfold PDod.A3q at h ⊢
 by_cases c : R.length < min (PDod.lead 4 R + 1) 4 + PDod.size (PDod.lead 4 R)
 ·rw [if_pos c] at h
  exact absurd h (by decide)
 rw [if_neg c] at h ⊢
 by_cases e : PDod.ones (PDod.sgn ((R.drop (min (PDod.lead 4 R + 1) 4)).take (PDod.size (PDod.lead 4 R)))) = PDod.lead 4 R
 ·rw [if_pos e]
  exact ⟨_, rfl, Nat.le_of_not_lt c, by omega⟩
 ·rw [if_neg e] at h
  exact absurd h (by decide)
theorem RFin_is (kind n t d v e xp : Int) (xl xn : Nat) (hn : 0 ≤ n) (T m : Int) (W : Int × Int × Int × Int × Int × Int) :
    Ev (fun k => A0e.j1 k kind m W.2.2.2.2.2 W.2.2.2.2.1 n t d v e xp (xl : Int) (xn : Int) T W.1 W.2.1 W.2.2.1 W.2.2.2.1) (gref (fin kind n t d v e xp xl xn T m W)) := by
  unfold fin
  by_cases c1 : W.2.2.2.2.2 = 0
  · have c1n : ¬ ¬ W.2.2.2.2.2 = 0 := fun h => h c1
    rw [if_neg c1n]
    by_cases c2 : T ≤ t
    · rw [if_pos c2]
      exact Ev.step (fun k => by rw [A0e.j1, if_pos c1, if_pos c2]; rfl) (Ev.now (gref (bad 4)))
    · rw [if_neg c2]
      refine Ev.step (fun k => by rw [A0e.j1, if_pos c1, if_neg c2]) (Ev.bind (RAfter_is kind n t d v e xp xl xn T W.1 W.2.1 W.2.2.1 W.2.2.2.1 hn) ?_)
      exact Ev.now _
  · rw [if_pos c1]
    exact Ev.step (fun k => by rw [A0e.j1, if_neg c1]; rfl) (Ev.now (gref (bad W.2.2.2.2.2)))
theorem RGet_is (kind n t d v e xp : Int) (xl xn : Nat) (hn : 0 ≤ n) (hp : 0 ≤ xp ∧ xp < 18446744073709551616) (hx : xl + xn ≤ 64) (R : List Int) (hR : Bs.Bits R) (hl : R.length < 70368744177664) :
    Ev (fun k => A0e.f k kind n t d v e xp (xl : Int) (xn : Int) R) (gref (kg kind n t d v e xp xl xn R)) := by
  have main : ∀ b : Bool, b = decide (¬ (kind = 1 ∨ kind = 2)) → Ev (fun k => A0e.j0 k kind R b n t d v e xp (xl : Int) (xn : Int)) (gref (kg kind n t d v e xp xl xn R)) := by
    intro b hb
    unfold kg
    by_cases c1 : kind = 1 ∨ kind = 2
    · have c1n : ¬ ¬ (kind = 1 ∨ kind = 2) := fun h => h c1
      rw [decide_eq_false c1n] at hb
      subst hb
      rw [if_neg c1n]
      by_cases c2 : n = 0
      · rw [if_pos c2]
        by_cases c3 : R.length < 128
        · rw [if_pos c3]
          exact Ev.step (fun k => by rw [A0e.j0, if_neg Bool.false_ne_true, if_pos c2, if_pos (show (R.length : Int) < 128 by omega)]; rfl) (Ev.now (gref (bad 2)))
        · rw [if_neg c3]
          have e1 := PBits.Number_is (R.take 64) (hR.take 64) (by rw [List.length_take]; omega)
          have e2 := PBits.Number_is ((R.drop 64).take 64) ((hR.drop 64).take 64) (by rw [List.length_take]; omega)
          have ec : (R.take 128).drop 64 = (R.drop 64).take 64 := by rw [List.drop_take]
          have e3 := RAfter_is kind n t d v e xp xl xn (wrap64 (Bs.number (R.take 64))) (Bs.number ((R.drop 64).take 64)) 0 0 0 hn
          refine Ev.step (fun k => by rw [A0e.j0, if_neg Bool.false_ne_true, if_pos c2, if_neg (show ¬ (R.length : Int) < 128 by omega), if_pos (show (64 : Int) ≤ (R.length : Int) by omega)]) (Ev.bind e1 ?_)
          refine Ev.congr (fun k => by rw [if_pos (by decide), if_pos (show (128 : Int) ≤ (R.length : Int) by omega), ec]) (Ev.bind e2 ?_)
          refine Ev.bind e3 ?_
          exact Ev.now _
      rw [if_neg c2]
      have g1 := PDod.RGet_is R hR (by omega)
      have hfit := gspec_fit R hR
      generalize PDod.A3q R = G at g1 hfit
      refine Ev.step (fun k => by rw [A0e.j0, if_neg Bool.false_ne_true, if_neg c2]) (Ev.bind g1 ?_)
      by_cases c3 : G.2.2 = 0
      · have c3n : ¬ ¬ G.2.2 = 0 := fun h => h c3
        rw [if_neg c3n]
        obtain ⟨m, hm1, hm2, _⟩ := hfit c3
        have i1 : (0 : Int) ≤ (m : Int) := Int.natCast_nonneg m
        have i2 : (m : Int) ≤ (R.length : Int) := Int.ofNat_le.mpr hm2
        have hd := List.length_drop (l := R) (i := m)
        rw [hm1, Int.toNat_natCast]
        refine Ev.congr (fun k => by rw [if_pos c3]) ?_
        unfold kv
        by_cases c4 : kind = 2
        · have g2 := PDod.RGet_is (R.drop m) (hR.drop m) (by omega)
          rw [if_pos c4]
          refine Ev.congr (fun k => by rw [if_pos c4, if_pos i1, if_pos i2]) (Ev.bind g2 ?_)
          rw [wrap_add3]
          exact RFin_is kind n t d v e xp xl xn hn _ _ (_, 0, 0, 0, _, _)
        · have g2 := PXor.RGet_is xp hp xl xn hx (R.drop m) (hR.drop m)
          rw [if_neg c4]
          refine Ev.congr (fun k => by rw [if_neg c4, if_pos i1, if_pos i2]) (Ev.bind g2 ?_)
          rw [wrap_add3]
          exact RFin_is kind n t d v e xp xl xn hn _ _ (PXor.xg xp xl xn (R.drop m))
      · rw [if_pos c3]
        exact Ev.congr (fun k => if_neg c3) (Ev.now (gref (bad G.2.2)))
    · rw [decide_eq_true c1] at hb
      subst hb
      rw [if_pos c1]
      exact Ev.step (fun k => by rw [A0e.j0, if_pos rfl]; rfl) (Ev.now (gref (bad 6)))
  unfold A0e.f
  by_cases c1 : kind = 1
  · simp only [if_pos c1]
    exact main false (decide_eq_false (fun h => h (.inl c1))).symm
  · simp only [if_neg c1]
    refine main _ ?_
    by_cases c2 : kind = 2
    · have hh : ¬ ¬ (kind = 1 ∨ kind = 2) := fun h => h (.inr c2)
      rw [bne_eq_false_iff_eq.mpr c2]
      exact (decide_eq_false hh).symm
    · have hh : ¬ (kind = 1 ∨ kind = 2) := fun h => h.elim c1 c2
      rw [bne_iff_ne.mpr c2]
      exact (decide_eq_true hh).symm
end Go.Proofs.YtodocfjbpkicgaaDoor.PKinds
end
