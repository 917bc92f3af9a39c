-- copied by a program of the session
import Derived.Test.YtodocfjbpkicgaaDoorKwAllx23
import Derived.Test.YtodocfjbpkicgaaDoorKwPDod
import Derived.Lib.ItoaNum
import Derived.Test.YtodocfjbpkicgaaDoorKwAllx24
import Derived.Test.YtodocfjbpkicgaaDoorKwAllx34
import Derived.Lib.Bytes
set_option linter.unusedSectionVars false
set_option linter.unusedSimpArgs false
set_option linter.unusedVariables false
section
namespace Go.Proofs.YtodocfjbpkicgaaDoor.PDod
open Go Go.RowKit Go.Proofs.YtodocfjbpkicgaaDoor Go.Proofs.YtodocfjbpkicgaaDoor.All Go.Zw Go.Zl
theorem Room_l0 (d : Int) (n : Nat) (hn : n ≤ 60) : ∀ (e j : Nat), j + e + 1 = n → Ev (fun k => A2d.l0 k d (n : Int) (2 ^ j) ((j + 1 : Nat) : Int)) (decide (-(2 ^ (n - 1)) ≤ d ∧ d < 2 ^ (n - 1))) := by
 intro e
 induction e with
 | zero =>
  intro j hj
  have hp : (2 : Int) ^ j ≤ 2 ^ 60 := PBits.pow_le (by omega)
  rw [show (2 : Int) ^ 60 = 1152921504606846976 from by decide] at hp
  have h0 := Bs.pow_pos j
  have hno : ¬ (((j + 1 : Nat) : Int) < (n : Int)) := by omega
  have hw1 : wrap64 (-(2 ^ j)) = -(2 ^ j) := PBits.w64 _ (by omega)
  have hw2 : wrap64 (2 ^ j - 1) = 2 ^ j - 1 := PBits.w64 _ (by omega)
  rw [show n - 1 = j from by omega]
  refine Ev.step (fun k => by rw [A2d.l0]) ?_
  simp only [if_neg hno, hw1, hw2]
  by_cases c : d ≥ -(2 ^ j)
  ·simp only [if_pos c]
   rw [show decide (d ≤ 2 ^ j - 1) = decide (-(2 ^ j) ≤ d ∧ d < 2 ^ j) from decide_eq_decide.2 (by omega)]
   exact Ev.now _
  ·simp only [if_neg c]
   rw [decide_eq_false (show ¬ (-(2 ^ j) ≤ d ∧ d < 2 ^ j) by omega)]
   exact Ev.now _
 | succ e ih =>
  intro j hj
  have hp : (2 : Int) ^ (j + 1) ≤ 2 ^ 60 := PBits.pow_le (by omega)
  rw [show (2 : Int) ^ 60 = 1152921504606846976 from by decide] at hp
  have h0 := Bs.pow_pos (j + 1)
  have hin : ((j + 1 : Nat) : Int) < (n : Int) := by omega
  have hih := ih (j + 1) (by omega)
  have hj47 : j + 1 < 140737488355328 := by omega
  have hw1 : wrap64 (2 * 2 ^ j) = 2 ^ (j + 1) := by
   rw [Int.pow_succ, Int.mul_comm] at hp h0 ⊢
   exact PBits.w64 _ (by omega)
  have hw2 := PBits.A3z (j + 1) hj47
  refine Ev.step (fun k => by rw [A2d.l0]) ?_
  simp only [if_pos hin, hw1, hw2]
  exact hih
theorem Room_is (d : Int) (n : Nat) (h0 : 0 < n) (hn : n ≤ 60) : Ev (fun k => A2d.f k d (n : Int)) (decide (-(2 ^ (n - 1)) ≤ d ∧ d < 2 ^ (n - 1))) :=
 Room_l0 d n hn (n - 1) 0 (by omega)
theorem ROnes_is (d : Int) : Ev (fun k => A1z.f k d) ((ones d : Nat) : Int) := by
 unfold A1z.f ones
 by_cases h0 : d = 0
 ·simp only [if_pos h0]; exact Ev.now _
 simp only [if_neg h0]
 have s4 : Ev (fun k => A1z.l0 k d 4) 4 := Ev.step (fun k => by rw [A1z.l0, if_neg (by decide)]) (Ev.now _)
 have s3 : Ev (fun k => A1z.l0 k d 3) (if -2048 ≤ d ∧ d < 2048 then 3 else 4) := by
  refine Ev.step (fun k => by rw [A1z.l0, if_pos (by decide), show A1o.f 3 = some 12 from by decide +kernel, Option.bind_some, show wrap64 (3 + 1) = 4 from by decide +kernel]) ?_
  refine Ev.bind (Room_is d 12 (by decide) (by decide)) ?_
  rw [show (2 : Int) ^ (12 - 1) = 2048 from by decide]
  by_cases c : -2048 ≤ d ∧ d < 2048
  ·simp only [decide_eq_true c, if_pos c, if_true]; exact Ev.now _
  ·simp only [decide_eq_false c, if_neg c, Bool.false_eq_true, if_false]; exact s4
 have s2 : Ev (fun k => A1z.l0 k d 2) (if -256 ≤ d ∧ d < 256 then 2 else if -2048 ≤ d ∧ d < 2048 then 3 else 4) := by
  refine Ev.step (fun k => by rw [A1z.l0, if_pos (by decide), show A1o.f 2 = some 9 from by decide +kernel, Option.bind_some, show wrap64 (2 + 1) = 3 from by decide +kernel]) ?_
  refine Ev.bind (Room_is d 9 (by decide) (by decide)) ?_
  rw [show (2 : Int) ^ (9 - 1) = 256 from by decide]
  by_cases c : -256 ≤ d ∧ d < 256
  ·simp only [decide_eq_true c, if_pos c, if_true]; exact Ev.now _
  ·simp only [decide_eq_false c, if_neg c, Bool.false_eq_true, if_false]; exact s3
 have s1 : Ev (fun k => A1z.l0 k d 1) (if -64 ≤ d ∧ d < 64 then 1 else if -256 ≤ d ∧ d < 256 then 2 else if -2048 ≤ d ∧ d < 2048 then 3 else 4) := by
  refine Ev.step (fun k => by rw [A1z.l0, if_pos (by decide), show A1o.f 1 = some 7 from by decide +kernel, Option.bind_some, show wrap64 (1 + 1) = 2 from by decide +kernel]) ?_
  refine Ev.bind (Room_is d 7 (by decide) (by decide)) ?_
  rw [show (2 : Int) ^ (7 - 1) = 64 from by decide]
  by_cases c : -64 ≤ d ∧ d < 64
  ·simp only [decide_eq_true c, if_pos c, if_true]; exact Ev.now _
  ·simp only [decide_eq_false c, if_neg c, Bool.false_eq_true, if_false]; exact s2
 have e : ((if -64 ≤ d ∧ d < 64 then 1 else if -256 ≤ d ∧ d < 256 then 2 else if -2048 ≤ d ∧ d < 2048 then 3 else 4 : Nat) : Int) = (if -64 ≤ d ∧ d < 64 then 1 else if -256 ≤ d ∧ d < 256 then 2 else if -2048 ≤ d ∧ d < 2048 then 3 else 4 : Int) := by
  (repeat' split) <;> rfl
 rw [e]
 exact s1
theorem rsize_is (o : Nat) (h : o ≤ 4) : A1o.f (o : Int) = some ((size o : Nat) : Int) := by
 have : ∀ i : Fin 5, A1o.f ((i.val : Nat) : Int) = some ((size i.val : Nat) : Int) := by decide +kernel
 exact this ⟨o, by omega⟩
theorem RDod_l0 (d : Int) (n : Nat) (hn : n ≤ 4) (X : List Int) (h : ∀ acc : List Int, acc = List.replicate n 1 → Ev (fun k => A1t.l0 k d (n : Int) acc (n : Int)) X) : ∀ (e j : Nat), j + e = n → Ev (fun k => A1t.l0 k d (n : Int) (List.replicate j 1) (j : Int)) X := by
  intro e
  induction e with
  | zero => intro j hj; obtain rfl : j = n := by omega
            exact h _ rfl
  | succ e ih =>
    intro j hj
    have hin : (j : Int) < (n : Int) := by omega
    have hl : (List.replicate j (1 : Int)).length < 140737488355328 := by rw [List.length_replicate]; omega
    have hih := ih (j + 1) (by omega)
    have hws := PBits.A3z j (by omega)
    rw [List.replicate_succ'] at hih
    refine Ev.step (fun k => by rw [A1t.l0]) ?_
    simp only [if_pos hin, if_pos hl, hws]
    exact hih
theorem RDod_is (d : Int) : Ev (fun k => A1t.f k d) (dodL d) := by
 have ho := ones_le d
 have hs := size_le (ones d)
 have hsz := rsize_is (ones d) ho
 have hw : 0 ≤ IntKind.u64.wrap (d) ∧ IntKind.u64.wrap (d) < 18446744073709551616 := by rw [Ib.wrap_u64]; omega
 have hlow := PBits.Low_is (IntKind.u64.wrap d) ((size (ones d) : Nat) : Int) hw (by omega)
 rw [Int.toNat_natCast] at hlow
 have hdl : dodL d = List.replicate (ones d) 1 ++ (if ones d < 4 then [0] else []) ++ Bs.low (IntKind.u64.wrap d) (size (ones d)) := by rw [Ib.wrap_u64]; rfl
 unfold A1t.f
 refine Ev.bind (ROnes_is d) ?_
 refine RDod_l0 d (ones d) ho _ (fun acc hacc => ?_) (ones d) 0 (by omega)
 have hal : acc.length = ones d := by rw [hacc, List.length_replicate]
 rw [hdl, ← hacc]
 have hno : ¬ (((ones d : Nat) : Int) < ((ones d : Nat) : Int)) := by omega
 have hl : acc.length < 140737488355328 := by omega
 have hl2 : (acc ++ [0]).length + (Bs.low (IntKind.u64.wrap d) (size (ones d))).length < 140737488355328 := by rw [Bs.A17, List.length_append, List.length_singleton]; omega
 have hl3 : acc.length + (Bs.low (IntKind.u64.wrap d) (size (ones d))).length < 140737488355328 := by rw [Bs.A17]; omega
 refine Ev.step (fun k => by rw [A1t.l0]) ?_
 simp only [if_neg hno]
 by_cases c : ones d < 4
 ·have c' : ((ones d : Nat) : Int) < 4 := by omega
  simp only [if_pos c', if_pos c, if_pos hl, Option.bind_some, hsz]
  refine Ev.bind hlow ?_
  simp only [if_pos hl2]
  exact Ev.now _
 ·have c' : ¬ ((ones d : Nat) : Int) < 4 := by omega
  simp only [if_neg c', if_neg c, Option.bind_some, hsz, List.append_nil]
  refine Ev.bind hlow ?_
  simp only [if_pos hl3]
  exact Ev.now _
theorem sgn_cons (x : Int) (t : List Int) : sgn (x :: t) = if Bs.number (x :: t) < 2 ^ t.length then Bs.number (x :: t) else Bs.number (x :: t) - 2 ^ (t.length + 1) := by
 unfold sgn
 rw [List.length_cons, Nat.add_sub_cancel]
theorem wrap_hi (v : Int) (h : 9223372036854775808 ≤ v ∧ v < 18446744073709551616) : wrap64 v = v - 18446744073709551616 := by unfold wrap64; omega
theorem u64_id (v : Int) (h : 0 ≤ v ∧ v < 18446744073709551616) : IntKind.u64.wrap v = v := by rw [Ib.wrap_u64]; omega
theorem signed_is (L : List Int) (hL : Bs.Bits L) (h64 : L.length ≤ 60 ∨ L.length = 64) : Ev (fun k => A2z.f k L) (sgn L) := by
 have hr := Bs.A3q hL
 unfold A2z.f
 refine Ev.bind (PBits.Number_is L hL (by omega)) ?_
 cases L with
 | nil =>
  have c : ¬ (((([] : List Int).length : Nat) : Int) > 0) := by simp
  simp only [if_neg c]
  have hz : wrap64 (Bs.number []) = sgn [] := by decide +kernel
  rw [hz]
  exact Ev.now _
 | cons x t =>
  rw [sgn_cons]
  have hx := hL x (List.mem_cons_self)
  have htb : Bs.Bits t := fun z hz => hL z (List.mem_cons_of_mem _ hz)
  have ht := Bs.A3q htb
  have hn : Bs.number (x :: t) = x * 2 ^ t.length + Bs.number t := Bs.number_cons x t
  rw [List.length_cons] at h64 hr
  have c0 : (((x :: t).length : Nat) : Int) > 0 := by rw [List.length_cons]; omega
  have c0' : 0 < (((x :: t).length : Nat) : Int) := c0
  have hpp := Bs.pow_pos t.length
  have hps : (2 : Int) ^ (t.length + 1) = 2 * 2 ^ t.length := by rw [Int.pow_succ, Int.mul_comm]
  rw [hps] at hr ⊢
  have hrd : rd (x :: t) 0 = x := PBits.rd_at (x :: t) 0 (by simp)
  simp only [if_pos c0, if_pos c0', hrd]
  by_cases c64 : (((x :: t).length : Nat) : Int) < 64
  ·have hp : (2 : Int) ^ t.length ≤ 2 ^ 60 := PBits.pow_le (by rw [List.length_cons] at c64; omega)
   rw [show (2 : Int) ^ 60 = 1152921504606846976 from by decide] at hp
   simp only [if_pos c64]
   by_cases c1 : x = 1
   ·have hwl : wrap64 ((((x :: t).length : Nat) : Int) - 1) = ((t.length : Nat) : Int) := by rw [List.length_cons, PBits.w64 _ (by omega)]; omega
    have hge : 0 ≤ wrap64 ((((x :: t).length : Nat) : Int) - 1) := by rw [hwl]; omega
    have hlim : ([1] : List Int).length + t.length < 140737488355328 := by rw [List.length_singleton]; omega
    have hzb : Bs.Bits ([1] ++ List.replicate t.length (0 : Int)) := Bs.Bits.append (Bs.Bits.cons (.inr rfl) Bs.Bits.nil) (Bs.Bits.zeros _)
    have hzn : Bs.number ([1] ++ List.replicate t.length (0 : Int)) = 2 ^ t.length := by rw [Bs.A38]; simp [Bs.number]
    have hzl : ([1] ++ List.replicate t.length (0 : Int)).length ≤ 64 := by rw [List.length_append, List.length_singleton, List.length_replicate]; omega
    have hnum := PBits.Number_is _ hzb hzl
    rw [hzn] at hnum
    simp only [if_pos c1, Option.bind_some, if_pos hge, hwl, Int.toNat_natCast, if_pos hlim]
    subst c1
    rw [Int.one_mul] at hn
    rw [hn] at hr ⊢
    have hno : ¬ (2 ^ t.length + Bs.number t < 2 ^ t.length) := by omega
    rw [if_neg hno]
    refine Ev.bind hnum ?_
    generalize hq : (2 : Int) ^ t.length = q at *
    generalize Bs.number t = u at *
    have h1 : wrap64 (q + u) = q + u := PBits.w64 _ (by omega)
    have h2 : IntKind.u64.wrap (2 * q) = 2 * q := u64_id _ (by omega)
    have h3 : wrap64 (2 * q) = 2 * q := PBits.w64 _ (by omega)
    have h4 : wrap64 (q + u - 2 * q) = q + u - 2 * q := PBits.w64 _ (by omega)
    simp only [h2, h3, h1, h4]
    exact Ev.now _
   ·have hx0 : x = 0 := by rcases hx with h | h; exact h; exact absurd h c1
    simp only [if_neg c1]
    subst hx0
    rw [Int.zero_mul, Int.zero_add] at hn
    rw [hn] at hr ⊢
    rw [if_pos ht.2, PBits.w64 _ (by omega)]
    exact Ev.now _
  ·have hl63 : t.length = 63 := by rw [List.length_cons] at c64; omega
   simp only [if_neg c64]
   rw [hl63] at hr ht hn hps ⊢
   rw [show (2 : Int) ^ 63 = 9223372036854775808 from by decide] at *
   generalize Bs.number (x :: t) = u at *
   by_cases c : u < 9223372036854775808
   ·rw [if_pos c, PBits.w64 _ (by omega)]
    exact Ev.now _
   ·rw [if_neg c, wrap_hi _ (by omega)]
    exact Ev.now _
theorem mn_head (o : Nat) (ho : o ≤ 4) : mn (wrap64 ((o : Int) + 1)) 4 = ((min (o + 1) 4 : Nat) : Int) := by
 rw [PBits.A3z o (by omega)]
 unfold mn
 split <;> omega
theorem starts_is (R D : List Int) : ∃ t : Bool, A20.f R D = some t ∧ (R.take D.length = D → t = true) := by
 unfold A20.f
 by_cases c : (R.length : Int) ≥ (D.length : Int)
 ·have hm : mn (R.length : Int) (D.length : Int) = (D.length : Int) := by unfold mn; split <;> omega
  have h0 : 0 ≤ (D.length : Int) := by omega
  have h1 : (D.length : Int) ≤ (R.length : Int) := c
  rw [if_pos c, hm, if_pos h0, if_pos h1, Int.toNat_natCast]
  refine ⟨_, rfl, fun h => ?_⟩
  rw [h]
  exact beq_self_eq_true _
 ·rw [if_neg c]
  refine ⟨_, rfl, fun h => ?_⟩
  have := congrArg List.length h
  rw [List.length_take] at this
  omega
theorem RGet_j1 (R : List Int) (hR : Bs.Bits R) (hl : R.length < 140737488355328) : Ev (fun k => A08.j1 k R ((lead 4 R : Nat) : Int)) (A24 R) := by
 have ho4 := lead_le 4 R
 unfold A24
 have hdt := dodL_take R hR (lead 4 R) rfl
 generalize lead 4 R = o at *
 have hs64 := size_le o
 obtain ⟨h, hh⟩ : ∃ h, h = min (o + 1) 4 := ⟨_, rfl⟩
 have hh4 : h ≤ 4 := by omega
 have hb2 : h + size o < 140737488355328 := by omega
 have hszo : ∀ n, n = size o → n ≤ 60 ∨ n = 64 := fun n hn => by
  subst hn
  have : ∀ i : Fin 5, size i.val ≤ 60 ∨ size i.val = 64 := by decide
  exact this ⟨o, by omega⟩
 have hs0 := rsize_is o ho4
 have hmn := mn_head o ho4
 rw [← hh] at hmn hdt ⊢
 have hsi := fun v => size_inj (ones v) o (ones_le v) ho4
 rw [← hh] at hsi
 have htd : (R.take (h + size o)).drop h = (R.drop h).take (size o) := by rw [List.drop_take, Nat.add_sub_cancel_left]
 have hwn : wrap64 ((h : Int) + ((size o : Nat) : Int)) = ((h + size o : Nat) : Int) := PBits.wr_add h (size o) hb2
 clear hb2 hh ho4
 refine Ev.step (fun k => by rw [A08.j1, hs0, Option.bind_some, hmn, hwn]) ?_
 clear hwn hmn hs0
 by_cases c : R.length < h + size o
 ·have c' : (R.length : Int) < ((h + size o : Nat) : Int) := Int.ofNat_lt.2 c
  simp only [if_pos c', if_pos c]
  exact Ev.now _
 ·have c' : ¬ (R.length : Int) < ((h + size o : Nat) : Int) := fun h => c (Int.ofNat_lt.1 h)
  have c1 : (0 : Int) ≤ (h : Int) := Int.natCast_nonneg _
  have c2 : (h : Int) ≤ ((h + size o : Nat) : Int) := Int.ofNat_le.2 (Nat.le_add_right _ _)
  have cc : h + size o ≤ R.length := Nat.le_of_not_lt c
  have c3 : ((h + size o : Nat) : Int) ≤ (R.length : Int) := Int.ofNat_le.2 cc
  have hM : Bs.Bits ((R.drop h).take (size o)) := (hR.drop _).take _
  have hMl : ((R.drop h).take (size o)).length ≤ 60 ∨ ((R.drop h).take (size o)).length = 64 := hszo _ (by rw [List.length_take, List.length_drop, Nat.min_eq_left (Nat.le_sub_of_add_le (by rwa [Nat.add_comm] at cc))])
  simp only [if_neg c', if_neg c, if_pos c1, if_pos c2, if_pos c3, Int.toNat_natCast, htd]
  refine Ev.bind (signed_is _ hM hMl) ?_
  replace hdt := hdt cc
  generalize sgn ((R.drop h).take (size o)) = v at *
  have hDl := dodL_length v
  replace hsi := hsi v
  refine Ev.bind (RDod_is v) ?_
  obtain ⟨t, ht, htr⟩ := starts_is R (dodL v)
  simp only [ht, Option.bind_some]
  by_cases e : ones v = o
  ·have hd := hdt e
   have hdl : (dodL v).length = h + size o := by rw [hd, List.length_take, Nat.min_eq_left cc]
   have htt : t = true := htr (by rw [hdl, hd])
   have e' : ((dodL v).length : Int) = ((h + size o : Nat) : Int) := congrArg _ hdl
   simp only [htt, if_true, if_pos e]
   refine Ev.bind (RDod_is v) ?_
   simp only [if_pos e']
   exact Ev.now _
  ·have e' : ¬ ((dodL v).length : Int) = ((h + size o : Nat) : Int) := fun hc => e (hsi (hDl.symm.trans (Int.ofNat_inj.1 hc)))
   simp only [if_neg e]
   cases t with
   | false =>
    simp only [Bool.false_eq_true, if_false]
    exact Ev.now _
   | true =>
    simp only [if_true]
    refine Ev.bind (RDod_is v) ?_
    simp only [if_neg e']
    exact Ev.now _
theorem RGet_l0 (R : List Int) (hR : Bs.Bits R) (hl : R.length < 140737488355328) : ∀ (e j : Nat), j + e = lead 4 R → Ev (fun k => A08.l0 k R (j : Int)) (A24 R) := by
 have ho4 := lead_le 4 R
 have hoL := lead_len 4 R
 intro e
 induction e with
 | zero =>
  intro j hj
  have hj1 := RGet_j1 R hR hl
  have hst := lead_stop 4 R
  obtain rfl : j = lead 4 R := by omega
  generalize lead 4 R = o at *
  refine Ev.step (fun k => by rw [A08.l0]) ?_
  by_cases c : (o : Int) < (R.length : Int)
  ·have c' : o < R.length := by omega
   by_cases c4 : (o : Int) < 4
   ·have h0 : (0 : Int) ≤ (o : Int) := by omega
    have hne : ¬ rd R (o : Int) = 1 := by
     rw [PBits.rd_at R o c']
     exact hst c' (by omega)
    simp only [if_pos c, if_pos c4, if_pos h0, if_neg hne]
    exact hj1
   ·simp only [if_pos c, if_neg c4]
    exact hj1
  ·simp only [if_neg c]
   exact hj1
 | succ e ih =>
  intro j hj
  have hin : j < R.length := by omega
  have c : (j : Int) < (R.length : Int) := by omega
  have c4 : (j : Int) < 4 := by omega
  have h0 : (0 : Int) ≤ (j : Int) := by omega
  have he : rd R (j : Int) = 1 := by
   rw [PBits.rd_at R j hin]
   exact lead_one 4 R j hin (by omega)
  have hw := PBits.A3z j (by omega)
  have hih := ih (j + 1) (by omega)
  refine Ev.step (fun k => by rw [A08.l0]) ?_
  simp only [if_pos c, if_pos c4, if_pos h0, if_pos he, hw]
  exact hih
theorem RGet_is (R : List Int) (hR : Bs.Bits R) (hl : R.length < 140737488355328) : Ev (fun k => A08.f k R) (A24 R) :=
 RGet_l0 R hR hl (lead 4 R) 0 (by omega)
end Go.Proofs.YtodocfjbpkicgaaDoor.PDod
end
section
namespace Go.Proofs.YtodocfjbpkicgaaDoor.PXor
open Go Go.RowKit Go.Proofs.YtodocfjbpkicgaaDoor Go.Proofs.YtodocfjbpkicgaaDoor.All Go.Zw Go.Zl
def LL (d : Int) : Nat := 64 - Lib.bitLen d.toNat
def SS (d : Int) : Nat := Lib.bitLen d.toNat - Lib.ctz 64 d.toNat
structure Win (d : Int) : Prop where
 lt : LL d < 64
 pos : 1 ≤ SS d
 le : LL d + SS d ≤ 64
 hi : d < 2 ^ (64 - LL d)
 top : d / 2 ^ (63 - LL d) = 1
 mul : d = (d / 2 ^ (64 - LL d - SS d)) * 2 ^ (64 - LL d - SS d)
 odd : d / 2 ^ (64 - LL d - SS d) % 2 = 1
theorem win (d : Int) (h0 : 0 < d) (h1 : d < 18446744073709551616) : Win d := by
 obtain ⟨x, rfl⟩ := Int.eq_ofNat_of_zero_le (Int.le_of_lt h0)
 have hx0 : x ≠ 0 := by omega
 have hx : x < 2 ^ 64 := by omega
 obtain ⟨b1, b2, b3⟩ := Lib.bitLenAux_bounds 64 x hx hx0
 have b4 := Lib.bitLen_le x 64 (by omega) hx
 obtain ⟨m, hm, hk⟩ := Lib.ctzFrom_spec 64 x (by omega) hx
 have e : Lib.ctz 64 x = Lib.ctzFrom 64 x := by simp [Lib.ctz, hx0]
 have en : Lib.bitLen x = Lib.bitLenAux 64 x := rfl
 have hlt : Lib.ctzFrom 64 x < Lib.bitLenAux 64 x := by
  apply Nat.lt_of_not_le
  intro hle
  have h2 : 2 ^ Lib.bitLenAux 64 x ≤ 2 ^ Lib.ctzFrom 64 x := Nat.pow_le_pow_right (by decide) hle
  have h3 : 2 ^ Lib.ctzFrom 64 x ≤ x := by
   conv => rhs; rw [hm]
   exact Nat.le_mul_of_pos_right _ (by omega)
  omega
 have eL : LL (x : Int) = 64 - Lib.bitLenAux 64 x := by unfold LL; rw [Int.toNat_natCast, en]
 have eS : SS (x : Int) = Lib.bitLenAux 64 x - Lib.ctzFrom 64 x := by unfold SS; rw [Int.toNat_natCast, en, e]
 rw [en] at b4
 generalize hn : Lib.bitLenAux 64 x = n at *
 generalize ht : Lib.ctzFrom 64 x = t at *
 have q1 : 64 - LL (x : Int) = n := by omega
 have q2 : 63 - LL (x : Int) = n - 1 := by omega
 have q3 : 64 - LL (x : Int) - SS (x : Int) = t := by omega
 have hp : 0 < 2 ^ t := Nat.two_pow_pos t
 have hd : x / 2 ^ t = 2 * m + 1 := by rw [hm, Nat.mul_div_cancel_left _ hp]
 have hcast : ∀ j : Nat, ((x : Int) / 2 ^ j) = ((x / 2 ^ j : Nat) : Int) := fun j => by simp
 refine ⟨by omega, by omega, by omega, ?_, ?_, ?_, ?_⟩
 ·rw [q1]; exact_mod_cast b3
 ·rw [q2, hcast]
  have : x / 2 ^ (n - 1) = 1 := by
   have h5 : 2 ^ n = 2 * 2 ^ (n - 1) := by
    conv => lhs; rw [show n = (n - 1) + 1 from by omega]
    rw [Nat.pow_succ]; omega
   exact Nat.div_eq_of_lt_le (by omega) (by omega)
  rw [this]; rfl
 ·rw [q3, hcast, hd]
  have : x = (2 * m + 1) * 2 ^ t := by rw [Nat.mul_comm]; exact hm
  exact_mod_cast this
 ·rw [q3, hcast, hd]; omega
def cb (l n : Nat) (d : Int) : List Int :=
 if d = 0 then [0]
 else if 0 < n ∧ l ≤ LL d ∧ LL d + SS d ≤ l + n then [1, 0] ++ Bs.low (d / 2 ^ (64 - l - n)) n
 else [1, 1] ++ Bs.low (LL d) 6 ++ Bs.low ((SS d : Int) - 1) 6 ++ Bs.low (d / 2 ^ (64 - LL d - SS d)) (SS d)
def cl (l n : Nat) (d : Int) : Nat := if d = 0 then l else if 0 < n ∧ l ≤ LL d ∧ LL d + SS d ≤ l + n then l else LL d
def cn (l n : Nat) (d : Int) : Nat := if d = 0 then n else if 0 < n ∧ l ≤ LL d ∧ LL d + SS d ≤ l + n then n else SS d
theorem cb_bits (l n : Nat) (d : Int) : Bs.Bits (cb l n d) := by
 have h : Bs.Bits [(1 : Int), 0] := .cons (.inr rfl) (.cons (.inl rfl) .nil)
 have h' : Bs.Bits [(1 : Int), 1] := .cons (.inr rfl) (.cons (.inr rfl) .nil)
 unfold cb
 split
 ·exact .cons (.inl rfl) .nil
 ·split
  ·exact h.append (Bs.low_bits _ _)
  ·exact ((h'.append (Bs.low_bits _ _)).append (Bs.low_bits _ _)).append (Bs.low_bits _ _)
theorem cb_length (l n : Nat) (d : Int) : (cb l n d).length = if d = 0 then 1 else if 0 < n ∧ l ≤ LL d ∧ LL d + SS d ≤ l + n then 2 + n else 14 + SS d := by
 unfold cb
 split
 ·rfl
 ·split
  ·simp only [List.length_append, List.length_cons, List.length_nil, Bs.A17]
  ·simp only [List.length_append, List.length_cons, List.length_nil, Bs.A17]
theorem cb_ok (l n : Nat) (d : Int) (h : l + n ≤ 64) (h0 : 0 ≤ d) (h1 : d < 18446744073709551616) : cl l n d + cn l n d ≤ 64 := by
 unfold cl cn
 by_cases hd : d = 0
 ·rw [if_pos hd, if_pos hd]; exact h
 ·rw [if_neg hd, if_neg hd]
  split
  ·exact h
  ·exact (win d (by omega) h1).le
theorem SS_le (d : Int) (h0 : 0 < d) (h1 : d < 18446744073709551616) : SS d ≤ 64 := by have := (win d h0 h1).le; omega
theorem cb_short (l n : Nat) (d : Int) (h : l + n ≤ 64) (h0 : 0 ≤ d) (h1 : d < 18446744073709551616) : 1 ≤ (cb l n d).length ∧ (cb l n d).length ≤ 78 := by
 rw [cb_length]
 by_cases hd : d = 0
 ·rw [if_pos hd]; omega
 ·rw [if_neg hd]
  have := SS_le d (by omega) h1
  split <;> omega
theorem xor_range (a b : Int) (ha : 0 ≤ a ∧ a < 18446744073709551616) (hb : 0 ≤ b ∧ b < 18446744073709551616) : 0 ≤ Go.bits .xor .u64 a b ∧ Go.bits .xor .u64 a b < 18446744073709551616 := by
 rw [Ib.xor_u64 a b ha hb]
 have := Nat.xor_lt_two_pow (x := a.toNat) (y := b.toNat) (n := 64) (by omega) (by omega)
 omega
theorem xor_back (p x : Int) (hp : 0 ≤ p ∧ p < 18446744073709551616) (hx : 0 ≤ x ∧ x < 18446744073709551616) : Go.bits .xor .u64 (Go.bits .xor .u64 p x) p = x := by
 have hr := xor_range p x hp hx
 rw [Ib.xor_u64 _ p hr hp, Ib.xor_u64 p x hp hx, Int.toNat_natCast, Nat.xor_comm p.toNat, Nat.xor_assoc, Nat.xor_self, Nat.xor_zero]
 omega
theorem xor_comm (a b : Int) (ha : 0 ≤ a ∧ a < 18446744073709551616) (hb : 0 ≤ b ∧ b < 18446744073709551616) : Go.bits .xor .u64 a b = Go.bits .xor .u64 b a := by
 rw [Ib.xor_u64 a b ha hb, Ib.xor_u64 b a hb ha, Nat.xor_comm]
theorem window_is (d : Int) (h0 : 0 < d) (h1 : d < 18446744073709551616) : xor_window.f d = some ((LL d : Int), (SS d : Int)) := by
 have hw := win d h0 h1
 have b4 : Lib.bitLen d.toNat ≤ 64 := Lib.bitLen_le d.toNat 64 (by omega) (by omega)
 have b5 := hw.lt
 have b6 := hw.pos
 unfold xor_window.f bits_LeadingZeros64.f bits_TrailingZeros64.f
 rw [if_pos (by omega)]
 simp only [Option.bind_some]
 rw [if_pos (by omega)]
 simp only [Option.bind_some]
 unfold LL SS at *
 have e1 : wrap64 (64 - (64 - (Lib.bitLen d.toNat : Int))) = (Lib.bitLen d.toNat : Int) := by rw [PBits.w64 _ (by omega)]; omega
 rw [e1, PBits.w64 _ (by omega)]
 congr 2
 ·omega
 ·omega
theorem shr_is (x : Int) (s : Nat) (h : s ≤ 64) : shr .u64 x (s : Int) = x / 2 ^ s := by
 unfold shr
 simp only [Int.toNat_natCast]
 rw [show min s IntKind.u64.bits = s from Nat.min_eq_left h]
theorem putk (l : List Int) (hl : Bs.Bits l) (hlen : l.length ≤ 1000) (v : Int) (hv : 0 ≤ v ∧ v < 18446744073709551616) (m : Nat) (hm : m ≤ 64) {n : Int} (hn : n = (m : Int)) :
    Ev (fun k => A1j.f k (Bs.pack l) (l.length : Int) v n) (Bs.pack (l ++ Bs.low v m), ((l ++ Bs.low v m).length : Int)) := by
  have h := PBits.Put_is l hl (by omega) v hv n
  rw [if_neg (by omega)] at h
  subst hn
  rw [Int.toNat_natCast] at h
  rw [List.length_append, Bs.A17]
  exact h
theorem putk0 (v : Int) (hv : 0 ≤ v ∧ v < 18446744073709551616) (m : Nat) (hm : m ≤ 64) {n : Int} (hn : n = (m : Int)) :
    Ev (fun k => A1j.f k [] 0 v n) (Bs.pack (Bs.low v m), ((Bs.low v m).length : Int)) := by
  have := putk [] .nil (by simp) v hv m hm hn
  simp only [List.nil_append, Bs.pack_nil] at this
  exact this
theorem div_range (d : Int) (h0 : 0 ≤ d) (h1 : d < 18446744073709551616) (s : Nat) : 0 ≤ d / 2 ^ s ∧ d / 2 ^ s < 18446744073709551616 := by
 have hp : (0 : Int) < 2 ^ s := Bs.pow_pos s
 refine ⟨Int.ediv_nonneg h0 (Int.le_of_lt hp), Int.lt_of_le_of_lt (Int.ediv_le_self _ h0) h1⟩
theorem Code_is (p v : Int) (l n : Nat) (hp : 0 ≤ p ∧ p < 18446744073709551616) (hv : 0 ≤ v ∧ v < 18446744073709551616) (hln : l + n ≤ 64) {d : Int} (hd : Go.bits .xor .u64 v p = d) :
    Ev (fun k => A13.f k p (l : Int) (n : Int) v) (Bs.pack (cb l n d), ((cb l n d).length : Int), v, (cl l n d : Int), (cn l n d : Int)) := by
  have hr := xor_range v p hv hp
  rw [hd] at hr
  by_cases h0 : d = 0
  · subst h0
    have := putk0 0 (by omega) 1 (by omega) (n := 1) rfl
    refine Ev.congr (fun k => by unfold A13.f; rw [hd, if_pos rfl]) (Ev.bind this ?_)
    unfold cb cl cn
    simp only [if_true]
    exact Ev.now _
  have hw := win d (by omega) hr.2
  have hs := SS_le d (by omega) hr.2
  have g1 := hw.lt
  have g2 := hw.pos
  have g3 := hw.le
  have ew := window_is d (by omega) hr.2
  have main : ∀ b : Bool, b = decide (0 < n ∧ l ≤ LL d ∧ LL d + SS d ≤ l + n) → Ev (fun k => A13.j0 k d (LL d : Int) (SS d : Int) b v (l : Int) (n : Int)) (Bs.pack (cb l n d), ((cb l n d).length : Int), v, (cl l n d : Int), (cn l n d : Int)) := by
    intro b hb
    by_cases hc : 0 < n ∧ l ≤ LL d ∧ LL d + SS d ≤ l + n
    · have hb' : b = true := by rw [hb]; exact decide_eq_true hc
      subst hb'
      have e64 : wrap64 (wrap64 (64 - (l : Int)) - (n : Int)) = ((64 - l - n : Nat) : Int) := by rw [PBits.w64 (64 - (l : Int)) (by omega), PBits.w64 _ (by omega)]; omega
      have hput := putk0 2 (by omega) 2 (by omega) (n := 2) rfl
      have l2 : Bs.low 2 2 = [1, 0] := by decide
      rw [l2] at hput
      have hput2 := putk [1, 0] (.cons (.inr rfl) (.cons (.inl rfl) .nil)) (by simp) (d / 2 ^ (64 - l - n)) (div_range d hr.1 hr.2 _) n (by omega) (n := (n : Int)) rfl
      refine Ev.step (fun k => by rw [A13.j0, if_pos rfl, e64]) (Ev.bind hput ?_)
      refine Ev.congr (fun k => by rw [if_pos (Int.natCast_nonneg _), shr_is _ _ (by omega)]) (Ev.bind hput2 ?_)
      unfold cb cl cn
      rw [if_neg h0, if_neg h0, if_neg h0, if_pos hc, if_pos hc, if_pos hc]
      exact Ev.now _
    · have hb' : b = false := by rw [hb]; exact decide_eq_false hc
      subst hb'
      have e64 : wrap64 (wrap64 (64 - (LL d : Int)) - (SS d : Int)) = ((64 - LL d - SS d : Nat) : Int) := by rw [PBits.w64 (64 - (LL d : Int)) (by omega), PBits.w64 _ (by omega)]; omega
      have u1 : IntKind.u64.wrap ((LL d : Int)) = (LL d : Int) := by rw [Ib.wrap_u64]; omega
      have u2 : IntKind.u64.wrap (wrap64 ((SS d : Int) - 1)) = (SS d : Int) - 1 := by rw [PBits.w64 _ (by omega), Ib.wrap_u64]; omega
      have hput := putk0 3 (by omega) 2 (by omega) (n := 2) rfl
      have l2 : Bs.low 3 2 = [1, 1] := by decide
      rw [l2] at hput
      have b1 : Bs.Bits [(1 : Int), 1] := .cons (.inr rfl) (.cons (.inr rfl) .nil)
      have hput2 := putk [1, 1] b1 (by simp) (LL d : Int) (by omega) 6 (by omega) (n := 6) rfl
      have b2 := b1.append (Bs.low_bits 6 (LL d : Int))
      have hput3 := putk _ b2 (by simp [Bs.A17]) ((SS d : Int) - 1) (by omega) 6 (by omega) (n := 6) rfl
      have b3 := b2.append (Bs.low_bits 6 ((SS d : Int) - 1))
      have hput4 := putk _ b3 (by simp [Bs.A17]) (d / 2 ^ (64 - LL d - SS d)) (div_range d hr.1 hr.2 _) (SS d) (by omega) (n := (SS d : Int)) rfl
      refine Ev.step (fun k => by rw [A13.j0, if_neg (by decide), e64, u1, u2]) (Ev.bind hput ?_)
      refine Ev.bind hput2 ?_
      refine Ev.bind hput3 ?_
      refine Ev.congr (fun k => by rw [if_pos (Int.natCast_nonneg _), shr_is _ _ (by omega)]) (Ev.bind hput4 ?_)
      unfold cb cl cn
      rw [if_neg h0, if_neg h0, if_neg h0, if_neg hc, if_neg hc, if_neg hc]
      exact Ev.now _
  have w1 : wrap64 ((LL d : Int) + (SS d : Int)) = ((LL d + SS d : Nat) : Int) := by rw [PBits.w64 _ (by omega)]; omega
  have w2 : wrap64 ((l : Int) + (n : Int)) = ((l + n : Nat) : Int) := by rw [PBits.w64 _ (by omega)]; omega
  by_cases c1 : 0 < n
  · by_cases c2 : l ≤ LL d
    · refine Ev.congr (fun k => ?_) (main (decide (wrap64 ((LL d : Int) + (SS d : Int)) ≤ wrap64 ((l : Int) + (n : Int)))) ?_)
      · unfold A13.f
        rw [hd, if_neg h0, ew]
        simp only [Option.bind_some]
        rw [if_pos (by omega), if_pos (by omega)]
      · rw [w1, w2]
        congr 1
        exact propext ⟨fun h => ⟨c1, c2, by omega⟩, fun h => by omega⟩
    · refine Ev.congr (fun k => ?_) (main false ?_)
      · unfold A13.f
        rw [hd, if_neg h0, ew]
        simp only [Option.bind_some]
        rw [if_pos (by omega), if_neg (by omega)]
      · exact (decide_eq_false (by omega)).symm
  · refine Ev.congr (fun k => ?_) (main false ?_)
    · unfold A13.f
      rw [hd, if_neg h0, ew]
      simp only [Option.bind_some]
      rw [if_neg (by omega)]
    · exact (decide_eq_false (by omega)).symm
theorem low_drop (v : Int) (l n m : Nat) : ((Bs.low v (l + n + m)).take (l + n)).drop l = Bs.low (v / 2 ^ m) n := by
 rw [Bs.low_append m (l + n) v, List.take_append_of_le_length (Nat.le_of_eq (Bs.A17 ..).symm), List.take_of_length_le (Nat.le_of_eq (Bs.A17 ..)), Bs.low_append n l (v / 2 ^ m), List.drop_append_of_le_length (Nat.le_of_eq (Bs.A17 ..).symm), List.drop_of_length_le (Nat.le_of_eq (Bs.A17 ..)), List.nil_append]
theorem low_cut (d : Int) (l n : Nat) (h : l + n ≤ 64) : ((Bs.low d 64).take (l + n)).drop l = Bs.low (d / 2 ^ (64 - l - n)) n := by
 have := low_drop d l n (64 - l - n)
 rw [show l + n + (64 - l - n) = 64 from by omega] at this
 exact this
theorem low64_at (d : Int) (j : Nat) (h : j < 64) : rd (Bs.low d 64) (j : Int) = d / 2 ^ (63 - j) % 2 := by
 rw [PBits.rd_at _ _ (by rw [Bs.A17]; exact h), PBits.low_at]
theorem bit_before (d : Int) (hw : Win d) (h0 : 0 < d) (j : Nat) (h : j < LL d) : d / 2 ^ (63 - j) % 2 = 0 := by
 have h1 := hw.lt
 have h2 := hw.hi
 have h3 : (2 : Int) ^ (64 - LL d) ≤ 2 ^ (63 - j) := PBits.pow_le (by omega)
 rw [Int.ediv_eq_zero_of_lt (by omega) (by omega)]
 rfl
theorem bit_first (d : Int) (hw : Win d) : d / 2 ^ (63 - LL d) % 2 = 1 := by rw [hw.top]; rfl
theorem bit_last (d : Int) (hw : Win d) : d / 2 ^ (63 - (LL d + SS d - 1)) % 2 = 1 := by
 have h1 := hw.pos
 have h2 := hw.le
 rw [show 63 - (LL d + SS d - 1) = 64 - LL d - SS d from by omega]
 exact hw.odd
theorem bit_behind (d : Int) (hw : Win d) (j : Nat) (h : LL d + SS d ≤ j) (h64 : j < 64) : d / 2 ^ (63 - j) % 2 = 0 := by
 have h1 := hw.pos
 have h2 := hw.le
 have hm := hw.mul
 generalize d / 2 ^ (64 - LL d - SS d) = q at hm
 have e : 64 - LL d - SS d = (63 - j) + (j - (LL d + SS d)) + 1 := by omega
 rw [hm, e, Int.pow_add, Int.pow_add, show q * (2 ^ (63 - j) * 2 ^ (j - (LL d + SS d)) * 2 ^ 1) = (q * 2 ^ (j - (LL d + SS d)) * 2) * 2 ^ (63 - j) from by
  rw [show (2 : Int) ^ 1 = 2 from rfl, Int.mul_assoc (2 ^ (63 - j)), Int.mul_comm (2 ^ (63 - j)), ← Int.mul_assoc, ← Int.mul_assoc]]
 rw [Int.mul_ediv_cancel _ (Int.ne_of_gt (Bs.pow_pos _))]
 omega
def Sc (d : Int) (i : Nat) (f l : Int) : Prop :=
 (i ≤ LL d ∧ f = -1 ∧ l = -1) ∨ (LL d < i ∧ f = (LL d : Int) ∧ ∃ z : Nat, l = (z : Int) ∧ z < i ∧ d / 2 ^ (63 - z) % 2 = 1 ∧ ∀ j, z < j → j < i → d / 2 ^ (63 - j) % 2 = 0)
theorem Code_l0 (d : Int) (hw : Win d) (h0 : 0 < d) (v p : Int) (a b : Int) (R : List Int × Int × Int × Int)
    (hend : Ev (fun k => A0o.l0 k v (Bs.low d 64) (LL d : Int) ((LL d + SS d - 1 : Nat) : Int) 64 p a b) R) :
    ∀ (e i : Nat) (f l : Int), i + e = 64 → Sc d i f l → Ev (fun k => A0o.l0 k v (Bs.low d 64) f l (i : Int) p a b) R := by
  intro e
  have g1 := hw.lt
  have g2 := hw.pos
  have g3 := hw.le
  induction e with
  | zero =>
    intro i f l hi hs
    obtain rfl : i = 64 := by omega
    rcases hs with ⟨h, _, _⟩ | ⟨h1, rfl, z, rfl, hz1, hz2, hz3⟩
    · omega
    · obtain rfl : z = LL d + SS d - 1 := by
        rcases Nat.lt_trichotomy z (LL d + SS d - 1) with h | h | h
        · have := hz3 (LL d + SS d - 1) h (by omega)
          rw [bit_last d hw] at this
          omega
        · exact h
        · have := bit_behind d hw z (by omega) hz1
          omega
      exact hend
  | succ e ih =>
    intro i f l hi hs
    have hi1 : (i : Int) < 64 := by omega
    have hwr : wrap64 ((i : Int) + 1) = ((i + 1 : Nat) : Int) := by rw [PBits.w64 _ (by omega)]; omega
    have hlen : (i : Int) < ((Bs.low d 64).length : Int) := by rw [Bs.A17]; omega
    have hrd := low64_at d i (by omega)
    by_cases hb : d / 2 ^ (63 - i) % 2 = 1
    · have hge : LL d ≤ i := by
        apply Nat.le_of_not_lt
        intro hlt
        have := bit_before d hw h0 i hlt
        omega
      rcases hs with ⟨h, rfl, rfl⟩ | ⟨h1, rfl, z, rfl, hz1, hz2, hz3⟩
      · obtain rfl : i = LL d := by omega
        refine Ev.step (fun k => ?_) (ih (LL d + 1) (LL d : Int) (LL d : Int) (by omega) (.inr ⟨by omega, rfl, LL d, rfl, by omega, hb, fun j h1 h2 => by omega⟩))
        rw [A0o.l0, if_pos hi1, if_pos (Int.natCast_nonneg _), if_pos hlen, hrd, if_pos hb, if_pos (by decide), hwr]
      · refine Ev.step (fun k => ?_) (ih (i + 1) (LL d : Int) (i : Int) (by omega) (.inr ⟨by omega, rfl, i, rfl, by omega, hb, fun j h1 h2 => by omega⟩))
        rw [A0o.l0, if_pos hi1, if_pos (Int.natCast_nonneg _), if_pos hlen, hrd, if_pos hb, if_neg (by omega), hwr]
    · have hb0 : d / 2 ^ (63 - i) % 2 = 0 := by omega
      refine Ev.step (fun k => ?_) (ih (i + 1) f l (by omega) ?_)
      · rw [A0o.l0, if_pos hi1, if_pos (Int.natCast_nonneg _), if_pos hlen, hrd, if_neg hb, hwr]
      · rcases hs with ⟨h, h2, h3⟩ | ⟨h1, h2, z, h3, hz1, hz2, hz3⟩
        · refine .inl ⟨?_, h2, h3⟩
          have : i ≠ LL d := by
            rintro rfl
            exact hb (bit_first d hw)
          omega
        · refine .inr ⟨by omega, h2, z, h3, by omega, hz2, fun j h5 h6 => ?_⟩
          by_cases hj : j = i
          · subst hj; exact hb0
          · exact hz3 j h5 (by omega)
theorem Code_zero (v p a b : Int) (R : List Int × Int × Int × Int) (hend : Ev (fun k => A0o.l0 k v (Bs.low 0 64) (-1) (-1) 64 p a b) R) :
    ∀ (e i : Nat), i + e = 64 → Ev (fun k => A0o.l0 k v (Bs.low 0 64) (-1) (-1) (i : Int) p a b) R := by
  intro e
  induction e with
  | zero => intro i hi; obtain rfl : i = 64 := by omega
            exact hend
  | succ e ih =>
    intro i hi
    have hi1 : (i : Int) < 64 := by omega
    have hwr : wrap64 ((i : Int) + 1) = ((i + 1 : Nat) : Int) := by rw [PBits.w64 _ (by omega)]; omega
    have hlen : (i : Int) < ((Bs.low 0 64).length : Int) := by rw [Bs.A17]; omega
    refine Ev.step (fun k => ?_) (ih (i + 1) (by omega))
    rw [A0o.l0, if_pos hi1, if_pos (Int.natCast_nonneg _), if_pos hlen, low64_at 0 i (by omega), Int.zero_ediv, if_neg (by decide), hwr]
theorem lt47 (a b : List Int) (h : a.length + b.length ≤ 1000) : a.length + b.length < 140737488355328 := by omega
theorem RCode_j1 (D : List Int) (hD : D.length = 64) (L S l n : Nat) (hL : L < 64) (hS : 1 ≤ S) (hLS : L + S ≤ 64) (hln : l + n ≤ 64) (v p : Int) (b : Bool) :
    Ev (fun k => A0o.j1 k D (L : Int) ((L + S - 1 : Nat) : Int) b p (l : Int) (n : Int) v (l : Int) (n : Int))
      (if b = true then ([1, 0] ++ (D.take (l + n)).drop l, v, (l : Int), (n : Int)) else ([1, 1] ++ Bs.low (L : Int) 6 ++ Bs.low ((S : Int) - 1) 6 ++ (D.take (L + S)).drop L, v, (L : Int), (S : Int))) := by
  cases b
  · have u1 : IntKind.u64.wrap (L : Int) = (L : Int) := by rw [Ib.wrap_u64]; omega
    have w3 : wrap64 (wrap64 (((L + S - 1 : Nat) : Int) - (L : Int)) + 1) = (S : Int) := by rw [PBits.w64 (((L + S - 1 : Nat) : Int) - (L : Int)) (by omega), PBits.w64 _ (by omega)]; omega
    have u2 : IntKind.u64.wrap (wrap64 ((S : Int) - 1)) = (S : Int) - 1 := by rw [PBits.w64 _ (by omega), Ib.wrap_u64]; omega
    have w4 : wrap64 (((L + S - 1 : Nat) : Int) + 1) = ((L + S : Nat) : Int) := by rw [PBits.w64 _ (by omega)]; omega
    have e1 := PBits.Low_is (L : Int) 6 (by omega) (by decide)
    have e2 := PBits.Low_is ((S : Int) - 1) 6 (by omega) (by decide)
    have k6 : (6 : Int).toNat = 6 := rfl
    rw [k6] at e1 e2
    refine Ev.step (fun k => by rw [A0o.j1, if_neg (by decide), w3, u1, u2, w4, Option.bind_some]) (Ev.bind e1 ?_)
    refine Ev.congr (fun k => by simp only [Option.bind_some]; rw [if_pos (lt47 _ _ (by simp only [List.length_cons, List.length_nil, Bs.A17]; omega))]) ?_
    refine Ev.bind e2 ?_
    refine Ev.congr (fun k => ?_) (Ev.now _)
    rw [if_pos (lt47 _ _ (by simp only [List.length_append, List.length_cons, List.length_nil, Bs.A17]; omega)), if_pos (Int.natCast_nonneg _), if_pos (by omega), if_pos (by omega)]
    simp only [Int.toNat_natCast]
    rw [if_pos (lt47 _ _ (by simp only [List.length_append, List.length_cons, List.length_nil, Bs.A17, List.length_drop, List.length_take]; omega))]
    rfl
  · have w2 : wrap64 ((l : Int) + (n : Int)) = ((l + n : Nat) : Int) := by rw [PBits.w64 _ (by omega)]; omega
    rw [if_pos rfl]
    refine Ev.step (fun k => by rw [A0o.j1, if_pos rfl, Option.bind_some, if_pos (Int.natCast_nonneg _), w2, if_pos (by omega), if_pos (by omega), Option.bind_some, if_pos (lt47 _ _ (by simp only [List.length_cons, List.length_nil, List.length_drop, List.length_take]; omega))]) ?_
    simp only [Int.toNat_natCast]
    exact Ev.now _
theorem RCode_is (p v : Int) (l n : Nat) (hp : 0 ≤ p ∧ p < 18446744073709551616) (hv : 0 ≤ v ∧ v < 18446744073709551616) (hln : l + n ≤ 64) {d : Int} (hd : Go.bits .xor .u64 v p = d) :
    Ev (fun k => A0o.f k p (l : Int) (n : Int) v) (cb l n d, v, (cl l n d : Int), (cn l n d : Int)) := by
  have hr := xor_range v p hv hp
  rw [hd] at hr
  refine Ev.congr (fun k => by unfold A0o.f; rw [hd]) (Ev.bind (PBits.Low_is d 64 hr (by omega)) ?_)
  show Ev (fun k => A0o.l0 k v (Bs.low d 64) (-1) (-1) ((0 : Nat) : Int) p (l : Int) (n : Int)) _
  by_cases h0 : d = 0
  · subst h0
    refine Code_zero v p l n _ ?_ 64 0 (by omega)
    refine Ev.step (g := fun k => _) (fun k => by rw [A0o.l0, if_neg (by decide), if_pos (by decide)]) ?_
    unfold cb cl cn
    simp only [if_true]
    exact Ev.now _
  have hw := win d (by omega) hr.2
  have hs := SS_le d (by omega) hr.2
  have g1 := hw.lt
  have g2 := hw.pos
  have g3 := hw.le
  refine Code_l0 d hw (by omega) v p l n _ ?_ 64 0 (-1) (-1) (by omega) (.inl ⟨Nat.zero_le _, rfl, rfl⟩)
  have main : ∀ b : Bool, b = decide (0 < n ∧ l ≤ LL d ∧ LL d + SS d ≤ l + n) → Ev (fun k => A0o.j1 k (Bs.low d 64) (LL d : Int) ((LL d + SS d - 1 : Nat) : Int) b p (l : Int) (n : Int) v (l : Int) (n : Int)) (cb l n d, v, (cl l n d : Int), (cn l n d : Int)) := by
    intro b hb
    have h := RCode_j1 (Bs.low d 64) (Bs.A17 _ _) (LL d) (SS d) l n g1 g2 g3 hln v p b
    rw [low_cut d l n hln, low_cut d (LL d) (SS d) g3] at h
    unfold cb cl cn
    rw [if_neg h0, if_neg h0, if_neg h0]
    by_cases hc : 0 < n ∧ l ≤ LL d ∧ LL d + SS d ≤ l + n
    · rw [if_pos (by rw [hb]; exact decide_eq_true hc)] at h
      rw [if_pos hc, if_pos hc, if_pos hc]
      exact h
    · rw [if_neg (by rw [hb, decide_eq_false hc]; decide)] at h
      rw [if_neg hc, if_neg hc, if_neg hc]
      exact h
  have w2 : wrap64 ((l : Int) + (n : Int)) = ((l + n : Nat) : Int) := by rw [PBits.w64 _ (by omega)]; omega
  by_cases c1 : 0 < n
  · by_cases c2 : l ≤ LL d
    · have hm := main (decide (((LL d + SS d - 1 : Nat) : Int) < wrap64 ((l : Int) + (n : Int)))) ?_
      refine Ev.step (fun k => ?_) hm
      · rw [A0o.l0, if_neg (by decide), if_neg (by omega), if_pos (by omega), if_pos (by omega)]
      · rw [w2]
        congr 1
        exact propext ⟨fun h => ⟨c1, c2, by omega⟩, fun h => by omega⟩
    · refine Ev.step (g := fun k => _) (fun k => ?_) (main false ?_)
      · rw [A0o.l0, if_neg (by decide), if_neg (by omega), if_pos (by omega), if_neg (by omega)]
      · exact (decide_eq_false (by omega)).symm
  · refine Ev.step (g := fun k => _) (fun k => ?_) (main false ?_)
    · rw [A0o.l0, if_neg (by decide), if_neg (by omega), if_neg (by omega)]
    · exact (decide_eq_false (by omega)).symm
end Go.Proofs.YtodocfjbpkicgaaDoor.PXor
end
section
namespace Go.Proofs.YtodocfjbpkicgaaDoor.PKinds
open Go Go.RowKit Go.Proofs.YtodocfjbpkicgaaDoor Go.Proofs.YtodocfjbpkicgaaDoor.All Go.Zw Go.Zl
def z8 : S8 := (0, 0, 0, 0, 0, 0, 0, 0)
theorem known_is (kind : Int) : A32.f kind = some (decide (kind = 1 ∨ kind = 2)) := by
 unfold A32.f
 by_cases c1 : kind = 1
 ·rw [if_pos c1, decide_eq_true (.inl c1)]
 ·rw [if_neg c1]
  by_cases c2 : kind = 2
  ·rw [beq_iff_eq.mpr c2, decide_eq_true (.inr c2)]
  ·rw [beq_eq_false_iff_ne.mpr c2, decide_eq_false (fun h => h.elim c1 c2)]
theorem u64_range (T : Int) : 0 ≤ IntKind.u64.wrap T ∧ IntKind.u64.wrap T < 18446744073709551616 := by rw [Ib.wrap_u64]; omega
end Go.Proofs.YtodocfjbpkicgaaDoor.PKinds
end
section
namespace Go.Proofs.YtodocfjbpkicgaaDoor.PXor
open Go Go.RowKit Go.Proofs.YtodocfjbpkicgaaDoor Go.Proofs.YtodocfjbpkicgaaDoor.All Go.Zw Go.Zl
def xv (R : List Int) (h lead size : Nat) : Int := Bs.number ((R.drop h).take size) * 2 ^ (64 - lead - size)
abbrev G := Int × Int × Int × Int × Int × Int
def bd (p : Int) (l n : Nat) (R : List Int) (h lead size : Nat) : G :=
 if size = 0 ∨ lead + size > 64 then (0, 0, 0, 0, 0, 3)
 else if R.length < h + size then (0, 0, 0, 0, 0, 2)
 else if cb l n (xv R h lead size) = R.take (h + size) then
  (Go.bits .xor .u64 p (xv R h lead size), Go.bits .xor .u64 p (xv R h lead size), (cl l n (xv R h lead size) : Int), (cn l n (xv R h lead size) : Int), ((h + size : Nat) : Int), 0)
 else (0, 0, 0, 0, 0, 3)
def ld (R : List Int) : Nat := (Bs.number ((R.drop 2).take 6)).toNat
def sd (R : List Int) : Nat := (Bs.number ((R.drop 8).take 6)).toNat + 1
def xg (p : Int) (l n : Nat) (R : List Int) : G :=
 if R.length = 0 then (0, 0, 0, 0, 0, 2)
 else if rd R 0 = 0 then (p, p, (l : Int), (n : Int), 1, 0)
 else if R.length = 1 then (0, 0, 0, 0, 0, 2)
 else if rd R 1 = 1 then (if R.length < 14 then (0, 0, 0, 0, 0, 2) else bd p l n R 14 (ld R) (sd R))
 else bd p l n R 2 l n
def gi (g : G) : Int × Int × Int × Int × Int × Option Int := (g.1, g.2.1, g.2.2.1, g.2.2.2.1, g.2.2.2.2.1, if g.2.2.2.2.2 = 0 then none else some g.2.2.2.2.2)
theorem bits_take {R : List Int} (hR : Bs.Bits R) (h m : Nat) : Bs.Bits ((R.drop h).take m) := (hR.drop h).take m
theorem cut_len (R : List Int) (h m : Nat) (hh : h + m ≤ R.length) : ((R.drop h).take m).length = m := by rw [List.length_take, List.length_drop]; omega
theorem num_range {R : List Int} (hR : Bs.Bits R) (h m : Nat) (hh : h + m ≤ R.length) : 0 ≤ Bs.number ((R.drop h).take m) ∧ Bs.number ((R.drop h).take m) < 2 ^ m := by
 have := Bs.A3q (bits_take hR h m)
 rw [cut_len R h m hh] at this
 exact this
theorem pow_mul (a b : Nat) : (2 : Int) ^ (a + b) = 2 ^ a * 2 ^ b := Int.pow_add ..
theorem xv_range {R : List Int} (hR : Bs.Bits R) (h lead size : Nat) (hh : h + size ≤ R.length) (hs : lead + size ≤ 64) : 0 ≤ xv R h lead size ∧ xv R h lead size < 18446744073709551616 := by
 have hn := num_range hR h size hh
 unfold xv
 have hp := Bs.pow_pos (64 - lead - size)
 refine ⟨Int.mul_nonneg hn.1 (Int.le_of_lt hp), ?_⟩
 have h1 : Bs.number ((R.drop h).take size) * 2 ^ (64 - lead - size) < 2 ^ size * 2 ^ (64 - lead - size) := Int.mul_lt_mul_of_pos_right hn.2 hp
 rw [← pow_mul] at h1
 have h2 : (2 : Int) ^ (size + (64 - lead - size)) ≤ 2 ^ 64 := PBits.pow_le (by omega)
 have h3 : (2 : Int) ^ 64 = 18446744073709551616 := by decide
 omega
theorem ld_lt {R : List Int} (hR : Bs.Bits R) (h : 14 ≤ R.length) : (ld R : Int) = Bs.number ((R.drop 2).take 6) ∧ ld R < 64 := by
 have := num_range hR 2 6 (by omega)
 unfold ld
 omega
theorem sd_lt {R : List Int} (hR : Bs.Bits R) (h : 14 ≤ R.length) : (sd R : Int) = Bs.number ((R.drop 8).take 6) + 1 ∧ sd R ≤ 64 ∧ 1 ≤ sd R := by
 have := num_range hR 8 6 (by omega)
 unfold sd
 omega
theorem split14 (R : List Int) (size : Nat) (h : 14 + size ≤ R.length) : R.take (14 + size) = R.take 2 ++ (R.drop 2).take 6 ++ (R.drop 8).take 6 ++ (R.drop 14).take size := by
 have e : ∀ a b : Nat, R.take (a + b) = R.take a ++ (R.drop a).take b := fun a b => List.take_add ..
 rw [e 14 size, show (14 : Nat) = 8 + 6 from rfl, e 8 6, show (8 : Nat) = 2 + 6 from rfl, e 2 6]
theorem split2 (R : List Int) (size : Nat) : R.take (2 + size) = R.take 2 ++ (R.drop 2).take size := List.take_add ..
theorem take_two (R : List Int) (h : 2 ≤ R.length) : R.take 2 = [rd R 0, rd R 1] := by
 match R, h with
 | a :: b :: R, _ => rfl
theorem low_of_num {R : List Int} (hR : Bs.Bits R) (h m : Nat) (hh : h + m ≤ R.length) {v : Int} (hv : v = Bs.number ((R.drop h).take m)) : Bs.low v m = (R.drop h).take m := by
 have := Bs.low_number (bits_take hR h m)
 rw [cut_len R h m hh] at this
 rw [hv]
 exact this
theorem xv_body {R : List Int} (hR : Bs.Bits R) (h lead size : Nat) (hh : h + size ≤ R.length) : Bs.low (xv R h lead size / 2 ^ (64 - lead - size)) size = (R.drop h).take size := by
 unfold xv
 rw [Int.mul_ediv_cancel _ (Int.ne_of_gt (Bs.pow_pos _))]
 exact low_of_num hR h size hh rfl
theorem full {R : List Int} (hR : Bs.Bits R) (l n h lead size : Nat) (hh : h + size ≤ R.length) (hs : lead + size ≤ 64) (h0 : 0 < size) (hln : l + n ≤ 64) (hr0 : rd R 0 = 1)
    (hk : (h = 2 ∧ lead = l ∧ size = n ∧ rd R 1 = 0) ∨ (h = 14 ∧ lead = ld R ∧ size = sd R ∧ rd R 1 = 1))
    (hN : (cb l n (xv R h lead size)).length = h + size) (he : R.take (min (h + size) 64) = (cb l n (xv R h lead size)).take (min (h + size) 64)) : cb l n (xv R h lead size) = R.take (h + size) := by
  have hx := xv_range hR h lead size hh hs
  have hbody := xv_body hR h lead size hh
  have h2 : 2 ≤ R.length := by omega
  have t2 : R.take 2 = (cb l n (xv R h lead size)).take 2 := by
    have := congrArg (List.take 2) he
    rw [List.take_take, List.take_take, Nat.min_eq_left (by omega)] at this
    exact this
  rw [take_two R h2, hr0] at t2
  generalize hX : xv R h lead size = x at *
  unfold cb at hN he t2 ⊢
  by_cases c0 : x = 0
  · rw [if_pos c0] at hN
    simp at hN
    omega
  rw [if_neg c0] at hN he t2 ⊢
  have hw := win x (by omega) hx.2
  have g1 := hw.lt
  have g2 := hw.pos
  have g3 := hw.le
  by_cases c1 : 0 < n ∧ l ≤ LL x ∧ LL x + SS x ≤ l + n
  · rw [if_pos c1] at hN he t2 ⊢
    have e1 : rd R 1 = 0 := by simpa using t2
    rcases hk with ⟨rfl, rfl, rfl, _⟩ | ⟨_, _, _, h1⟩
    · rw [hbody, split2, take_two R h2, hr0, e1]
    · omega
  · rw [if_neg c1] at hN he t2 ⊢
    have e1 : rd R 1 = 1 := by simpa using t2
    rcases hk with ⟨_, _, _, h1⟩ | ⟨rfl, rfl, rfl, _⟩
    · omega
    have hl14 : 14 ≤ R.length := by omega
    have t14 : R.take 14 = [1, 1] ++ Bs.low (LL x : Int) 6 ++ Bs.low ((SS x : Int) - 1) 6 := by
      have := congrArg (List.take 14) he
      rw [List.take_take, List.take_take, Nat.min_eq_left (by omega)] at this
      rw [this, List.take_append_of_le_length (by simp [Bs.A17]), List.take_of_length_le (by simp [Bs.A17])]
    have hR14 : R.take 14 = R.take 2 ++ (R.drop 2).take 6 ++ (R.drop 8).take 6 := by
      have := split14 R 0 (by omega)
      simpa using this
    rw [hR14, take_two R h2, hr0, e1] at t14
    obtain ⟨p1, q2⟩ := List.append_inj t14 (by simp only [List.length_append, List.length_cons, List.length_nil, cut_len R 2 6 (by omega), Bs.A17])
    have q1 : (R.drop 2).take 6 = Bs.low (LL x : Int) 6 := List.append_cancel_left p1
    have hl := ld_lt hR hl14
    have hsd := sd_lt hR hl14
    rw [q1, Bs.number_low] at hl
    rw [q2, Bs.number_low] at hsd
    have k6 : (2 : Int) ^ 6 = 64 := by decide
    rw [k6] at hl hsd
    have eL : ld R = LL x := by omega
    have eS : sd R = SS x := by omega
    rw [eL, eS] at hbody
    rw [split14 R (sd R) hh, take_two R h2, hr0, e1, q1, q2, eS, hbody]
theorem take_k (b : List Int) (hb : Bs.Bytes b) (hl : 8 * b.length < 140737488355328) (a n : Int) (ok : Bool) :
    Ev (fun k => A1q.f k b a ok n) ((PBits.tk (Bs.flat b) a n).1, b, wrap64 (a + n), ok && (PBits.tk (Bs.flat b) a n).2) := by
  refine Ev.bind (PBits.Take_is b hb hl a n) ?_
  cases ok
  · exact Ev.now _
  · exact Ev.now _
theorem tk_yes (L : List Int) (A c n : Nat) (hn : n ≤ 64) (hA : A ≤ L.length) (h : c + n ≤ (L.drop A).length) : PBits.tk L ((A + c : Nat) : Int) (n : Int) = (Bs.number (((L.drop A).drop c).take n), true) := by
 rw [List.length_drop] at h
 rw [PBits.tk_yes (by omega), Int.toNat_natCast, Int.toNat_natCast, List.drop_drop]
theorem tk_no (L : List Int) (A c n : Nat) (hn : n ≤ 64) (hA : A ≤ L.length) (h : (L.drop A).length < c + n) : PBits.tk L ((A + c : Nat) : Int) (n : Int) = (0, false) := by
 rw [List.length_drop] at h
 exact PBits.tk_no (by omega)
theorem wr_at (A c n : Nat) (h : A + c + n < 140737488355328) : wrap64 (((A + c : Nat) : Int) + (n : Int)) = ((A + (c + n) : Nat) : Int) := by rw [PBits.w64 _ (by omega)]; omega
theorem wrk (A : Nat) (hA : A < 70368744177664) (c n : Nat) (h : c + n ≤ 1000) : wrap64 (((A + c : Nat) : Int) + (n : Int)) = ((A + (c + n) : Nat) : Int) := wr_at A c n (by omega)
theorem nz {x : Nat} (h : ¬ x = 0) : ¬ ((x : Int) = 0) := by omega
theorem gtc {x : Nat} (h : x > 64) : ((x : Nat) : Int) > 64 := by omega
theorem gtc' {x : Nat} (h : ¬ x > 64) : ¬ ((x : Nat) : Int) > 64 := by omega
theorem wadd (a c : Nat) (h : a ≤ 64) (h' : c ≤ 64) : wrap64 ((a : Int) + (c : Int)) = ((a + c : Nat) : Int) := by rw [PBits.w64 _ (by omega)]; omega
theorem wsub (a c : Nat) (h : a + c ≤ 64) : wrap64 (wrap64 (64 - (a : Int)) - (c : Int)) = ((64 - a - c : Nat) : Int) := by rw [PBits.w64 (64 - (a : Int)) (by omega), PBits.w64 _ (by omega)]; omega
theorem shl_u64 (x : Int) (s : Nat) (h : s ≤ 64) (h0 : 0 ≤ x * 2 ^ s ∧ x * 2 ^ s < 18446744073709551616) : shl .u64 x (s : Int) = x * 2 ^ s := by
 unfold shl
 simp only [Int.toNat_natCast]
 rw [show min s IntKind.u64.bits = s from Nat.min_eq_left h, Ib.wrap_u64]
 exact Int.emod_eq_of_lt h0.1 h0.2
theorem shl_xv (R : List Int) (h lead size : Nat) (hs : lead + size ≤ 64) (hx : 0 ≤ xv R h lead size ∧ xv R h lead size < 18446744073709551616) : shl .u64 (Bs.number ((R.drop h).take size)) ((64 - lead - size : Nat) : Int) = xv R h lead size := shl_u64 _ _ (Nat.le_trans (Nat.sub_le _ _) (Nat.sub_le _ _)) hx
theorem wsm (x : Nat) (h : x < 64) : wrap64 (x : Int) = (x : Int) := PBits.w64 _ (by omega)
theorem wsn (x : Nat) (h1 : 1 ≤ x) (h : x ≤ 64) : wrap64 (wrap64 ((x : Int) - 1) + 1) = (x : Int) := by rw [PBits.w64 ((x : Int) - 1) (by omega), PBits.w64 _ (by omega)]; omega
theorem number_one (x : Int) : Bs.number [x] = x := by simp [Bs.number]
theorem num1' (R : List Int) (c : Nat) (hc : c < R.length) : Bs.number ((R.drop c).take 1) = rd R (c : Int) := by
 rw [PBits.rd_at _ _ hc, List.drop_eq_getElem_cons hc]
 rw [show (R[c] :: R.drop (c + 1)).take 1 = [R[c]] from rfl]
 exact number_one _
theorem num1 (R : List Int) (hc : 0 < R.length) : Bs.number (R.take 1) = rd R 0 := num1' R 0 hc
theorem bit01 {R : List Int} (hR : Bs.Bits R) (c : Nat) (hc : c < R.length) : rd R (c : Int) = 0 ∨ rd R (c : Int) = 1 := by
 rw [PBits.rd_at _ _ hc]
 exact hR _ (List.getElem_mem hc)
theorem take1 (R : List Int) (h : 0 < R.length) (h0 : rd R 0 = 0) : R.take 1 = [0] := by
 match R, h with
 | a :: R, _ =>
  have : a = 0 := h0
  rw [this]; rfl
section
variable (b : List Int) (hb : Bs.Bytes b) (hl : 8 * b.length < 70368744177664) (p : Int) (hp : 0 ≤ p ∧ p < 18446744073709551616) (l n : Nat) (hln : l + n ≤ 64) (A : Nat) (hA : A ≤ (Bs.flat b).length)
theorem Get_j4 (A' x y1 y2 : Int) (b' : List Int) (a' : Int) (q : Bool) (C : List Int) (m x0 x1 x2 : Int) : Ev (fun k => A05.j4 k A' x y1 y2 b' a' q C m x0 x1 x2) (if m = wrap64 (a' - A') ∧ y1 = y2 then (x, x0, x1, x2, m, none) else (0, 0, 0, 0, 0, some 3)) := by
 by_cases h1 : m = wrap64 (a' - A')
 ·by_cases h2 : y1 = y2
  ·rw [if_pos ⟨h1, h2⟩]
   exact Ev.step (fun k => by rw [A05.j4, if_pos h1, if_pos h2]) (Ev.now _)
  ·rw [if_neg (fun h => h2 h.2)]
   have e : ∀ k, A05.j4 (k + 1) A' x y1 y2 b' a' q C m x0 x1 x2 = some (0, 0, 0, 0, 0, some 3) := fun k => by rw [A05.j4, if_pos h1, if_neg h2]; rfl
   exact Ev.step (fun k => e k) (Ev.now _)
 ·rw [if_neg (fun h => h1 h.1)]
  have e : ∀ k, A05.j4 (k + 1) A' x y1 y2 b' a' q C m x0 x1 x2 = some (0, 0, 0, 0, 0, some 3) := fun k => by rw [A05.j4, if_neg h1]; rfl
  exact Ev.step (fun k => e k) (Ev.now _)
include hb hl hp hln hA
theorem Get_j3 (x : Int) (hx : 0 ≤ x ∧ x < 18446744073709551616) (c : Nat) (h1 : 1 ≤ c) (hc : c ≤ ((Bs.flat b).drop A).length) :
    Ev (fun k => A05.j3 k b (A : Int) x p (l : Int) (n : Int) b ((A + c : Nat) : Int) true)
      (if (cb l n x).length = c ∧ ((Bs.flat b).drop A).take (min c 64) = (cb l n x).take (min c 64) then (Go.bits .xor .u64 p x, Go.bits .xor .u64 p x, (cl l n x : Int), (cn l n x : Int), (c : Int), none) else (0, 0, 0, 0, 0, some 3)) := by
  have hfl := Bs.A3d b
  have hfb := Bs.flat_bits b
  have hdl := List.length_drop (l := Bs.flat b) (i := A)
  have hxr := xor_range p x hp hx
  have hcode := Code_is p (Go.bits .xor .u64 p x) l n hp hxr hln (xor_back p x hp hx)
  have hN := cb_short l n x hln hx.1 hx.2
  have hcb := cb_bits l n x
  have hpl := Bs.pack_length (cb l n x)
  generalize hK : cb l n x = C at *
  have hm : mn (C.length : Int) 64 = ((min C.length 64 : Nat) : Int) := by unfold mn; split <;> omega
  refine Ev.step (fun k => by rw [A05.j3, if_pos rfl]) (Ev.bind hcode ?_)
  have ht1 := PBits.Take_is b hb (by omega) (A : Int) ((min C.length 64 : Nat) : Int)
  have ht2 := PBits.Take_is (Bs.pack C) (Bs.pack_bytes hcb) (by omega) 0 ((min C.length 64 : Nat) : Int)
  refine Ev.congr (fun k => by rw [hm]) (Ev.bind ht1 (Ev.bind ht2 ?_))
  have hw : wrap64 (((A + c : Nat) : Int) - (A : Int)) = (c : Int) := by rw [PBits.w64 _ (by omega)]; omega
  have hwant : PBits.tk (Bs.flat (Bs.pack C)) 0 ((min C.length 64 : Nat) : Int) = (Bs.number (C.take (min C.length 64)), true) := by
    have hfp := Bs.flat_pack hcb
    have hlen : (Bs.flat (Bs.pack C)).length = 8 * ((C.length + 7) / 8) := by rw [Bs.A3d, hpl]
    rw [PBits.tk_yes (by omega)]
    simp only [Int.toNat_natCast, Int.toNat_zero, List.drop_zero]
    rw [hfp, List.take_append_of_le_length (by omega)]
  rw [hwant]
  by_cases e : C.length = c
  · subst e
    have hraw := tk_yes (Bs.flat b) A 0 (min C.length 64) (by omega) hA (by omega)
    rw [Nat.add_zero, List.drop_zero] at hraw
    rw [hraw]
    have h := Get_j4 (A : Int) (Go.bits .xor .u64 p x) (Bs.number (((Bs.flat b).drop A).take (min C.length 64))) (Bs.number (C.take (min C.length 64))) b ((A + C.length : Nat) : Int) true (Bs.pack C) (C.length : Int) (Go.bits .xor .u64 p x) (cl l n x : Int) (cn l n x : Int)
    rw [hw] at h
    by_cases e2 : ((Bs.flat b).drop A).take (min C.length 64) = C.take (min C.length 64)
    · have e3 : C.length = C.length ∧ ((Bs.flat b).drop A).take (min C.length 64) = C.take (min C.length 64) := ⟨rfl, e2⟩
      rw [if_pos e3]
      rw [if_pos ⟨rfl, by rw [e2]⟩] at h
      exact h
    · have e3 : ¬ (C.length = C.length ∧ ((Bs.flat b).drop A).take (min C.length 64) = C.take (min C.length 64)) := fun h => e2 h.2
      rw [if_neg e3]
      rw [if_neg] at h
      · exact h
      · intro h
        refine e2 (Bs.number_inj ((hfb.drop A).take _) (hcb.take _) ?_ h.2)
        rw [List.length_take, List.length_take]
        omega
  · have e3 : ¬ (C.length = c ∧ ((Bs.flat b).drop A).take (min c 64) = C.take (min c 64)) := fun h => e h.1
    rw [if_neg e3]
    have h := Get_j4 (A : Int) (Go.bits .xor .u64 p x) (PBits.tk (Bs.flat b) (A : Int) ((min C.length 64 : Nat) : Int)).1 (Bs.number (C.take (min C.length 64))) b ((A + c : Nat) : Int) true (Bs.pack C) (C.length : Int) (Go.bits .xor .u64 p x) (cl l n x : Int) (cn l n x : Int)
    rw [hw, if_neg (fun hh => by have := hh.1; omega)] at h
    exact h
theorem Get_fail (k : Nat) (x : Int) (b' : List Int) (a' : Int) : A05.j3 (k + 1) b (A : Int) x p (l : Int) (n : Int) b' a' false = some (gi (0, 0, 0, 0, 0, 2)) := by
 rw [A05.j3, if_neg (by decide)]
 rfl
theorem Get_fail3 (k : Nat) (x y : Int) (b' : List Int) (a' : Int) (q : Bool) (z : Int) : A05.j2 (k + 1) b (A : Int) x y true z (l : Int) (n : Int) b' a' q = some (gi (0, 0, 0, 0, 0, 3)) := by
 rw [A05.j2, if_pos rfl]
 rfl
theorem Get_j1 (hA47 : A < 70368744177664) (hb8 : 8 * b.length < 140737488355328) (hRb : Bs.Bits ((Bs.flat b).drop A)) (h lead size : Nat) (hs : size ≤ 64) (hld : lead ≤ 64) (hh : h ≤ ((Bs.flat b).drop A).length) (h2 : 2 ≤ h) (h14 : h ≤ 14) (hr0 : rd ((Bs.flat b).drop A) 0 = 1)
    (hk : (h = 2 ∧ lead = l ∧ size = n ∧ rd ((Bs.flat b).drop A) 1 = 0) ∨ (h = 14 ∧ lead = ld ((Bs.flat b).drop A) ∧ size = sd ((Bs.flat b).drop A) ∧ rd ((Bs.flat b).drop A) 1 = 1)) (z : Bool) :
    Ev (fun k => A05.j1 k b (A : Int) (lead : Int) (size : Int) z p (l : Int) (n : Int) b ((A + h : Nat) : Int) true) (gi (bd p l n ((Bs.flat b).drop A) h lead size)) := by
  unfold bd
  by_cases c0 : size = 0
  · rw [if_pos (.inl c0)]
    subst c0
    refine Ev.step (fun k => by rw [A05.j1, if_pos (by decide)]) ?_
    exact Ev.step (g := fun k => _) (fun k => Get_fail3 b hb hl p hp l n hln A hA k _ _ _ _ _ _) (Ev.now (gi (0, 0, 0, 0, 0, 3)))
  refine Ev.step (fun k => by rw [A05.j1, if_neg (nz c0), wadd lead size hld hs]) ?_
  by_cases c1 : lead + size > 64
  · rw [if_pos (.inr c1), decide_eq_true (gtc c1)]
    exact Ev.step (g := fun k => _) (fun k => Get_fail3 b hb hl p hp l n hln A hA k _ _ _ _ _ _) (Ev.now (gi (0, 0, 0, 0, 0, 3)))
  have c1' : lead + size ≤ 64 := Nat.le_of_not_lt c1
  rw [if_neg (fun h => h.elim c0 c1), decide_eq_false (gtc' c1)]
  have ht := take_k b hb hb8 ((A + h : Nat) : Int) (size : Int) true
  refine Ev.step (fun k => by rw [A05.j2, if_neg Bool.false_ne_true, wsub lead size c1']) (Ev.bind ht ?_)
  refine Ev.congr (fun k => by rw [if_pos (Int.natCast_nonneg _)]) ?_
  by_cases c2 : ((Bs.flat b).drop A).length < h + size
  · rw [if_pos c2, tk_no (Bs.flat b) A h size hs hA c2]
    exact Ev.step (g := fun k => _) (fun k => Get_fail b hb hl p hp l n hln A hA k _ _ _) (Ev.now _)
  have c2' : h + size ≤ ((Bs.flat b).drop A).length := Nat.le_of_not_lt c2
  rw [if_neg c2, tk_yes (Bs.flat b) A h size hs hA c2', wrk A hA47 h size (Nat.le_trans (Nat.add_le_add h14 hs) (by decide))]
  have hxr := xv_range hRb h lead size c2' c1'
  simp only [Bool.and_true]
  rw [shl_xv _ _ _ _ c1' hxr]
  have h3 := Get_j3 b hb hl p hp l n hln A hA _ hxr (h + size) (Nat.le_trans (Nat.le_trans (by decide) h2) (Nat.le_add_right _ _)) c2'
  by_cases e : cb l n (xv ((Bs.flat b).drop A) h lead size) = ((Bs.flat b).drop A).take (h + size)
  · rw [if_pos e]
    rw [e] at h3
    have e3 : (((Bs.flat b).drop A).take (h + size)).length = h + size ∧ ((Bs.flat b).drop A).take (min (h + size) 64) = (((Bs.flat b).drop A).take (h + size)).take (min (h + size) 64) := by
      refine ⟨by rw [List.length_take]; exact Nat.min_eq_left c2', by rw [List.take_take, Nat.min_eq_left (Nat.min_le_left _ _)]⟩
    rw [if_pos e3] at h3
    exact h3
  · rw [if_neg e]
    rw [if_neg (fun hc => e (full hRb l n h lead size c2' c1' (Nat.pos_of_ne_zero c0) hln hr0 hk hc.1 hc.2))] at h3
    exact h3
theorem Get_11 (hA47 : A < 70368744177664) (hb8 : 8 * b.length < 140737488355328) (hRb : Bs.Bits ((Bs.flat b).drop A)) (z : Bool) (hr0 : rd ((Bs.flat b).drop A) 0 = 1) (hr1 : rd ((Bs.flat b).drop A) 1 = 1) (h2 : 2 ≤ ((Bs.flat b).drop A).length) :
    Ev (fun k => (A1q.f k b ((A + 2 : Nat) : Int) true 6).bind fun bt171 => (A1q.f k bt171.2.1 bt171.2.2.1 bt171.2.2.2 6).bind fun bt175 => if bt175.2.2.2 = true then (A05.j1 k b (A : Int) (wrap64 (bt171.1)) (wrap64 ((wrap64 (bt175.1)) + 1)) z p (l : Int) (n : Int) bt175.2.1 bt175.2.2.1 bt175.2.2.2) else ((A3a.f 2).bind fun bt179 => (some (bt179.1, bt179.2.1, bt179.2.2.1, bt179.2.2.2.1, bt179.2.2.2.2.1, bt179.2.2.2.2.2))))
      (gi (if ((Bs.flat b).drop A).length < 14 then (0, 0, 0, 0, 0, 2) else bd p l n ((Bs.flat b).drop A) 14 (ld ((Bs.flat b).drop A)) (sd ((Bs.flat b).drop A)))) := by
  have t3 := take_k b hb hb8 ((A + 2 : Nat) : Int) 6 true
  rw [show wrap64 (((A + 2 : Nat) : Int) + 6) = ((A + 8 : Nat) : Int) from wrk A hA47 2 6 (by decide)] at t3
  refine Ev.bind t3 ?_
  have t4 := take_k b hb hb8 ((A + 8 : Nat) : Int) 6 (true && (PBits.tk (Bs.flat b) ((A + 2 : Nat) : Int) 6).2)
  rw [show wrap64 (((A + 8 : Nat) : Int) + 6) = ((A + 14 : Nat) : Int) from wrk A hA47 8 6 (by decide)] at t4
  refine Ev.bind t4 ?_
  by_cases c4 : ((Bs.flat b).drop A).length < 14
  · rw [if_pos c4]
    have hno := tk_no (Bs.flat b) A 8 6 (by decide) hA c4
    rw [show PBits.tk (Bs.flat b) ((A + 8 : Nat) : Int) 6 = (0, false) from hno]
    simp only [Bool.and_false]
    exact Ev.congr (fun k => if_neg (by simp)) (Ev.now _)
  rw [if_neg c4]
  have c4' : 14 ≤ ((Bs.flat b).drop A).length := Nat.le_of_not_lt c4
  have hy2 := tk_yes (Bs.flat b) A 2 6 (by decide) hA (Nat.le_trans (by decide) c4')
  have hy3 := tk_yes (Bs.flat b) A 8 6 (by decide) hA c4'
  rw [show PBits.tk (Bs.flat b) ((A + 2 : Nat) : Int) 6 = _ from hy2, show PBits.tk (Bs.flat b) ((A + 8 : Nat) : Int) 6 = _ from hy3]
  have hl1 := ld_lt hRb c4'
  have hs1 := sd_lt hRb c4'
  have h3 := Get_j1 b hb hl p hp l n hln A hA hA47 hb8 hRb 14 (ld ((Bs.flat b).drop A)) (sd ((Bs.flat b).drop A)) hs1.2.1 (Nat.le_of_lt hl1.2) c4' (by decide) (by decide) hr0 (.inr ⟨rfl, rfl, rfl, hr1⟩) z
  rw [← hl1.1]
  have e8 : Bs.number ((((Bs.flat b).drop A).drop 8).take 6) = (sd ((Bs.flat b).drop A) : Int) - 1 := by rw [hs1.1]; exact (Int.add_sub_cancel _ _).symm
  rw [e8]
  refine Ev.congr (fun k => ?_) h3
  simp only [Bool.and_true, if_true]
  rw [wsm _ hl1.2, wsn _ hs1.2.2 hs1.2.1]
theorem Get_in (hA47 : A < 70368744177664) (hb8 : 8 * b.length < 140737488355328) (hRb : Bs.Bits ((Bs.flat b).drop A)) : Ev (fun k => A05.j0 k b (A : Int) false p (l : Int) (n : Int)) (gi (xg p l n ((Bs.flat b).drop A))) := by
 have t1 := take_k b hb hb8 (A : Int) 1 true
 rw [show wrap64 ((A : Int) + 1) = ((A + 1 : Nat) : Int) from wrk A hA47 0 1 (by decide)] at t1
 refine Ev.step (fun k => by rw [A05.j0, if_neg (by decide)]) (Ev.bind t1 ?_)
 unfold xg
 by_cases c0 : ((Bs.flat b).drop A).length = 0
 ·rw [if_pos c0]
  have := tk_no (Bs.flat b) A 0 1 (by decide) hA (by rw [c0]; decide)
  rw [show PBits.tk (Bs.flat b) (A : Int) 1 = (0, false) from this]
  refine Ev.congr (fun k => if_neg (by simp)) ?_
  exact Ev.step (g := fun k => _) (fun k => Get_fail b hb hl p hp l n hln A hA k _ _ _) (Ev.now _)
 rw [if_neg c0]
 have c0' : 1 ≤ ((Bs.flat b).drop A).length := Nat.pos_of_ne_zero c0
 have hy := tk_yes (Bs.flat b) A 0 1 (by decide) hA c0'
 rw [List.drop_zero, num1 _ c0'] at hy
 rw [show PBits.tk (Bs.flat b) (A : Int) 1 = (rd ((Bs.flat b).drop A) 0, true) from hy]
 simp only [Bool.and_true]
 by_cases c1 : rd ((Bs.flat b).drop A) 0 = 0
 ·rw [if_pos c1]
  refine Ev.congr (fun k => if_neg (by rw [c1]; decide)) ?_
  have h3 := Get_j3 b hb hl p hp l n hln A hA 0 (by decide) 1 (Nat.le_refl _) c0'
  have hcz : cb l n 0 = [0] := by unfold cb; rw [if_pos rfl]
  have ht : ((Bs.flat b).drop A).take 1 = [0] := take1 _ c0' c1
  have e1 : cl l n 0 = l := by unfold cl; rw [if_pos rfl]
  have e2 : cn l n 0 = n := by unfold cn; rw [if_pos rfl]
  rw [hcz, Ib.xor_u64_zero p hp, e1, e2] at h3
  have e3 : ([0] : List Int).length = 1 ∧ ((Bs.flat b).drop A).take (min 1 64) = ([0] : List Int).take (min 1 64) := ⟨rfl, ht⟩
  rw [if_pos e3] at h3
  exact h3
 rw [if_neg c1]
 have r0 : rd ((Bs.flat b).drop A) 0 = 1 := (bit01 hRb 0 c0').resolve_left c1
 have t2 := take_k b hb hb8 ((A + 1 : Nat) : Int) 1 true
 rw [show wrap64 (((A + 1 : Nat) : Int) + 1) = ((A + 2 : Nat) : Int) from wrk A hA47 1 1 (by decide)] at t2
 refine Ev.congr (fun k => if_pos r0) (Ev.bind t2 ?_)
 by_cases c2 : ((Bs.flat b).drop A).length = 1
 ·rw [if_pos c2]
  have := tk_no (Bs.flat b) A 1 1 (by decide) hA (by rw [c2]; decide)
  rw [show PBits.tk (Bs.flat b) ((A + 1 : Nat) : Int) 1 = (0, false) from this]
  exact Ev.congr (fun k => if_neg (by simp)) (Ev.now _)
 rw [if_neg c2]
 have c2' : 2 ≤ ((Bs.flat b).drop A).length := Nat.lt_of_le_of_ne c0' (Ne.symm c2)
 have hy1 := tk_yes (Bs.flat b) A 1 1 (by decide) hA c2'
 rw [num1' _ 1 c2'] at hy1
 rw [show PBits.tk (Bs.flat b) ((A + 1 : Nat) : Int) 1 = (rd ((Bs.flat b).drop A) 1, true) from hy1]
 simp only [Bool.and_true, if_true]
 by_cases c3 : rd ((Bs.flat b).drop A) 1 = 1
 ·rw [if_pos c3]
  refine Ev.congr (fun k => if_pos c3) ?_
  exact Get_11 b hb hl p hp l n hln A hA hA47 hb8 hRb _ r0 c3 c2'
 ·rw [if_neg c3]
  have r1 : rd ((Bs.flat b).drop A) 1 = 0 := (bit01 hRb 1 c2').resolve_right c3
  refine Ev.congr (fun k => if_neg c3) ?_
  exact Get_j1 b hb hl p hp l n hln A hA hA47 hb8 hRb 2 l n (Nat.le_trans (Nat.le_add_left _ _) hln) (Nat.le_trans (Nat.le_add_right _ _) hln) c2' (by decide) (by decide) r0 (.inl ⟨rfl, rfl, rfl, r1⟩) _
end
theorem xg_nil (p : Int) (l n : Nat) : xg p l n [] = (0, 0, 0, 0, 0, 2) := by unfold xg; exact if_pos rfl
theorem Get_is (b : List Int) (hb : Bs.Bytes b) (hl : 8 * b.length < 70368744177664) (p : Int) (hp : 0 ≤ p ∧ p < 18446744073709551616) (l n : Nat) (hln : l + n ≤ 64) (a : Int) :
    Ev (fun k => A05.f k p (l : Int) (n : Int) b a) (gi (xg p l n (PDod.restL (Bs.flat b) a))) := by
  have hfl := Bs.A3d b
  have w8 : wrap64 (8 * (b.length : Int)) = 8 * (b.length : Int) := PBits.w64 _ (by omega)
  unfold PDod.restL
  by_cases c1 : a < 0
  · rw [if_pos (.inl c1), xg_nil]
    refine Ev.congr (fun k => by unfold A05.f; rw [if_pos c1]) ?_
    exact Ev.step (g := fun k => _) (fun k => by rw [A05.j0, if_pos rfl]; rfl) (Ev.now (gi (0, 0, 0, 0, 0, 2)))
  by_cases c2 : a > ((Bs.flat b).length : Int)
  · rw [if_pos (.inr c2), xg_nil]
    refine Ev.congr (fun k => by unfold A05.f; rw [if_neg c1, w8, decide_eq_true (by omega)]) ?_
    exact Ev.step (g := fun k => _) (fun k => by rw [A05.j0, if_pos rfl]; rfl) (Ev.now (gi (0, 0, 0, 0, 0, 2)))
  rw [if_neg (by omega)]
  have h := Get_in b hb hl p hp l n hln a.toNat (by omega) (by omega) (by omega) ((Bs.flat_bits b).drop a.toNat)
  rw [show ((a.toNat : Nat) : Int) = a from by omega] at h
  refine Ev.congr (fun k => by unfold A05.f; rw [if_neg c1, w8, decide_eq_false (by omega)]) h
end Go.Proofs.YtodocfjbpkicgaaDoor.PXor
end
