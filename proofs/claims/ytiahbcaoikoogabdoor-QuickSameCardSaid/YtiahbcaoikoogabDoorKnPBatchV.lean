-- copied by a program of the session
import Derived.Test.YtiahbcaoikoogabDoorKnAllx26
import Derived.Test.YtiahbcaoikoogabDoorKnPXorBack
section
namespace Go.Proofs.YtiahbcaoikoogabDoor.PFill
open Go Go.RowKit Go.Proofs.YtiahbcaoikoogabDoor Go.Proofs.YtiahbcaoikoogabDoor.All Go.Proofs.YtiahbcaoikoogabDoorW.PrintWords Go.Proofs.YtiahbcaoikoogabDoorW.PrintLast
set_option linter.unusedVariables false
set_option linter.unusedSimpArgs false
theorem two64 : (2 : Int) ^ 64 = 18446744073709551616 := by decide
theorem pow_split (a b : Nat) : (2 : Int) ^ (a + b) = 2 ^ a * 2 ^ b := Int.pow_add ..
theorem shl_u64 (x : Int) (s : Nat) (h : s ≤ 64) : shl .u64 x (s : Int) = x * 2 ^ s % 18446744073709551616 := by
 unfold shl
 rw [Int.toNat_natCast, show IntKind.u64.bits = 64 from rfl, Nat.min_eq_left h, Ib.wrap_u64]
theorem shr_u64 (x : Int) (s : Nat) (h : s ≤ 64) : shr .u64 x (s : Int) = x / 2 ^ s := by
 unfold shr
 rw [Int.toNat_natCast, show IntKind.u64.bits = 64 from rfl, Nat.min_eq_left h]
theorem or_u64_sum (t y : Int) (s : Nat) (hs : s ≤ 64) (h : 0 ≤ t * 2 ^ s ∧ t * 2 ^ s < 18446744073709551616) (hy : 0 ≤ y ∧ y < 2 ^ s) : Go.bits .or .u64 (t * 2 ^ s) y = t * 2 ^ s + y := by
 have h1 : (2 : Int) ^ s ≤ 2 ^ 64 := PBits.pow_le hs
 have h2 := two64
 have h3 := Bs.pow_pos s
 have h4 : (0 : Int) ≤ t := by
  refine Decidable.byContradiction fun h5 => ?_
  have := Int.mul_le_mul_of_nonneg_right (show t ≤ -1 by omega) (Int.le_of_lt h3)
  omega
 rw [Ib.or_u64 _ _ h (by omega)]
 obtain ⟨m, rfl⟩ := Int.eq_ofNat_of_zero_le h4
 obtain ⟨z, rfl⟩ := Int.eq_ofNat_of_zero_le hy.1
 have h6 : ((m : Int) * 2 ^ s) = ((2 ^ s * m : Nat) : Int) := by push_cast; rw [Int.mul_comm]
 have h7 : z < 2 ^ s := by have := hy.2; exact_mod_cast this
 rw [h6, Int.toNat_natCast, Int.toNat_natCast, ← Nat.two_pow_add_eq_or_of_lt h7 m]
 push_cast
 rfl
theorem tmod_8 (n : Nat) : Int.tmod (n : Int) 8 = ((n % 8 : Nat) : Int) := by rw [PBits.tmod_nat _ (Int.natCast_nonneg n)]; omega
def top (W : List Int) : Int := Bs.number W * 2 ^ (64 - W.length)
theorem top_range {W : List Int} (hW : Bs.Bits W) (h : W.length ≤ 64) : 0 ≤ top W ∧ top W < 18446744073709551616 := by
 have hr := Bs.A3c hW
 unfold top
 have h3 := Bs.pow_pos (64 - W.length)
 have e : (2 : Int) ^ W.length * 2 ^ (64 - W.length) = 18446744073709551616 := by rw [← pow_split, Nat.add_sub_cancel' h, two64]
 refine ⟨Int.mul_nonneg hr.1 (Int.le_of_lt h3), ?_⟩
 rw [← e]
 exact Int.mul_lt_mul_of_pos_right hr.2 h3
theorem number_cut (W : List Int) (n : Nat) : Bs.number W = Bs.number (W.take n) * 2 ^ (W.length - n) + Bs.number (W.drop n) := by
 have h := Bs.A3v (W.take n) (W.drop n)
 rw [List.take_append_drop, List.length_drop] at h
 exact h
theorem top_shl {W : List Int} (hW : Bs.Bits W) (h : W.length ≤ 64) (n : Nat) (hn : n ≤ W.length) : top W * 2 ^ n % 18446744073709551616 = top (W.drop n) := by
 have hd := top_range (hW.drop n) (by rw [List.length_drop]; omega)
 have e : top W * 2 ^ n = Bs.number (W.take n) * 18446744073709551616 + top (W.drop n) := by
  unfold top
  rw [number_cut W n, List.length_drop, Int.add_mul, Int.add_mul, show 64 - (W.length - n) = 64 - W.length + n from by omega, pow_split (64 - W.length) n, Int.mul_assoc (Bs.number (W.drop n))]
  congr 1
  rw [Int.mul_assoc, Int.mul_assoc, ← pow_split, ← pow_split, show W.length - n + (64 - W.length + n) = 64 from by omega, two64]
 rw [e, Int.mul_add_emod_self_right, Int.emod_eq_of_lt hd.1 hd.2]
theorem top_shr {W : List Int} (hW : Bs.Bits W) (h : W.length ≤ 64) (n : Nat) (hn : n ≤ 64) : top W / 2 ^ (64 - n) = Bs.number ((W ++ List.replicate n 0).take n) := by
 have hp := Bs.pow_pos (64 - n)
 by_cases c : n ≤ W.length
 ·rw [List.take_append_of_le_length c]
  have hr := Bs.A3c (hW.drop n)
  have e : top W = Bs.number (W.drop n) * 2 ^ (64 - W.length) + 2 ^ (64 - n) * Bs.number (W.take n) := by
   unfold top
   rw [number_cut W n, Int.add_mul, Int.mul_assoc, ← pow_split, show W.length - n + (64 - W.length) = 64 - n from by omega, Int.add_comm, Int.mul_comm (2 ^ (64 - n))]
  have hb : 0 ≤ Bs.number (W.drop n) * 2 ^ (64 - W.length) ∧ Bs.number (W.drop n) * 2 ^ (64 - W.length) < 2 ^ (64 - n) := by
   have h3 := Bs.pow_pos (64 - W.length)
   refine ⟨Int.mul_nonneg hr.1 (Int.le_of_lt h3), ?_⟩
   rw [show 64 - n = (W.drop n).length + (64 - W.length) from by rw [List.length_drop]; omega, pow_split]
   exact Int.mul_lt_mul_of_pos_right hr.2 h3
  rw [e, Int.add_mul_ediv_left _ _ (Int.ne_of_gt hp), Int.ediv_eq_zero_of_lt hb.1 hb.2, Int.zero_add]
 ·have e : (W ++ List.replicate n (0 : Int)).take n = W ++ List.replicate (n - W.length) 0 := by
   rw [List.take_append, List.take_of_length_le (by omega), List.take_replicate, Nat.min_eq_left (by omega)]
  have e2 : top W = Bs.number W * 2 ^ (n - W.length) * 2 ^ (64 - n) := by
   unfold top
   rw [Int.mul_assoc, ← pow_split, show n - W.length + (64 - n) = 64 - W.length from by omega]
  rw [e, Bs.A33, e2, Int.mul_ediv_cancel _ (Int.ne_of_gt hp)]
def Inv (R b : List Int) (u h : Int) : Prop := ∃ W : List Int, Bs.Bits W ∧ W.length ≤ 64 ∧ h = (W.length : Int) ∧ u = top W ∧ R = W ++ Bs.flat b ∧ Bs.Bytes b ∧ 8 * b.length < 70368744177664
theorem Inv.bits {R b : List Int} {u h : Int} (hI : Inv R b u h) : Bs.Bits R := by
 obtain ⟨W, hW, h64, hh, hu, hR, hb, hl⟩ := hI
 rw [hR]
 exact hW.append (Bs.flat_bits b)
theorem Inv.len {R b : List Int} {u h : Int} (hI : Inv R b u h) : R.length < 140737488355328 := by
 obtain ⟨W, hW, h64, hh, hu, hR, hb, hl⟩ := hI
 rw [hR, List.length_append, Bs.A2k]
 omega
theorem New_is (b : List Int) (hb : Bs.Bytes b) (hl : 8 * b.length < 70368744177664) : Inv (Bs.flat b) b 0 0 :=
 ⟨[], Bs.Bits.nil, by simp, rfl, by decide, rfl, hb, hl⟩
theorem Left_is {R b : List Int} {u h : Int} (hI : Inv R b u h) : A16.f b u h = some ((R.length : Int), b, u, h) := by
 obtain ⟨W, hW, h64, hh, hu, hR, hb, hl⟩ := hI
 have e : R.length = W.length + 8 * b.length := by rw [hR, List.length_append, Bs.A2k]
 have e1 : wrap64 (8 * (b.length : Int)) = ((8 * b.length : Nat) : Int) := by rw [PBits.w64 _ (by omega)]; omega
 have e2 : wrap64 ((W.length : Int) + ((8 * b.length : Nat) : Int)) = (R.length : Int) := by rw [e, PBits.w64 _ (by omega)]; omega
 unfold A16.f
 rw [hh, e1, e2]
theorem refill_l0 : ∀ (f : Nat) (R b : List Int) (u h : Int), b.length = f → Inv R b u h →
    ∃ b' u' h', Ev (fun k => A0v.l0 k b u h) (b', u', h') ∧ Inv R b' u' h' ∧ (b' = [] ∨ 56 < h') := by
  intro f
  induction f with
  | zero =>
    intro R b u h hf hI
    have hb : b = [] := List.eq_nil_of_length_eq_zero hf
    subst hb
    refine ⟨[], u, h, ?_, hI, .inl rfl⟩
    have hn : ¬ ((([] : List Int).length : Int) > 0) := by simp
    refine Ev.step (fun k => by rw [A0v.l0]) ?_
    by_cases c : h ≤ 56
    · simp only [if_pos c, if_neg hn]
      exact Ev.now _
    · simp only [if_neg c]
      exact Ev.now _
  | succ f ih =>
    intro R b u h hf hI
    by_cases c : h ≤ 56
    · have hI0 := hI
      obtain ⟨W, hW, h64, hh, hu, hR, hb, hl⟩ := hI
      cases b with
      | nil => simp at hf
      | cons x t =>
        have hx := hb x (List.mem_cons_self)
        have hw : W.length ≤ 56 := by omega
        have ht : Bs.Bytes t := fun z hz => hb z (List.mem_cons_of_mem _ hz)
        have c0 : (((x :: t).length : Nat) : Int) > 0 := by rw [List.length_cons]; omega
        have c1 : (1 : Int) ≤ (((x :: t).length : Nat) : Int) := c0
        have hrd : rd (x :: t) 0 = x := PBits.rd_at (x :: t) 0 (by simp)
        have e56 : wrap64 (56 - h) = ((56 - W.length : Nat) : Int) := by rw [hh, PBits.w64 _ (by omega)]; omega
        have ge0 : (0 : Int) ≤ ((56 - W.length : Nat) : Int) := Int.natCast_nonneg _
        have e8 : wrap64 (h + 8) = ((W ++ Bs.low x 8).length : Int) := by rw [hh, PBits.w64 _ (by omega), List.length_append, Bs.A1o]; omega
        have hxu : IntKind.u64.wrap x = x := by rw [Ib.wrap_u64]; omega
        have hpw : x * 2 ^ (56 - W.length) < 2 ^ (64 - W.length) := by
          rw [show 64 - W.length = 8 + (56 - W.length) from by omega, pow_split]
          exact Int.mul_lt_mul_of_pos_right hx.2 (Bs.pow_pos _)
        have hp0 : 0 ≤ x * 2 ^ (56 - W.length) := Int.mul_nonneg hx.1 (Int.le_of_lt (Bs.pow_pos _))
        have hple : (2 : Int) ^ (64 - W.length) ≤ 2 ^ 64 := PBits.pow_le (by omega)
        have hsh : shl .u64 x ((56 - W.length : Nat) : Int) = x * 2 ^ (56 - W.length) := by
          rw [shl_u64 _ _ (by omega), Int.emod_eq_of_lt hp0 (Int.lt_of_lt_of_le hpw (by rw [two64] at hple; exact hple))]
        have hor : Go.bits .or .u64 u (x * 2 ^ (56 - W.length)) = top (W ++ Bs.low x 8) := by
          rw [hu]
          have htr := top_range hW h64
          unfold top at htr ⊢
          rw [or_u64_sum _ _ (64 - W.length) (by omega) htr ⟨hp0, hpw⟩, Bs.A3v, Bs.A32, Bs.A1o, List.length_append, Bs.A1o, show x % 2 ^ 8 = x from Int.emod_eq_of_lt hx.1 hx.2, Int.add_mul, Int.mul_assoc, ← pow_split, show 8 + (64 - (W.length + 8)) = 64 - W.length from by omega, show 64 - (W.length + 8) = 56 - W.length from by omega]
        have hI2 : Inv R t (top (W ++ Bs.low x 8)) ((W ++ Bs.low x 8).length : Int) := by
          refine ⟨W ++ Bs.low x 8, hW.append (Bs.A3z _ _), by rw [List.length_append, Bs.A1o]; omega, rfl, rfl, ?_, ht, by rw [List.length_cons] at hl; omega⟩
          rw [hR, Bs.A3t, List.append_assoc]
        obtain ⟨b', u', h', hE, hI', hend⟩ := ih R t _ _ (by rw [List.length_cons] at hf; omega) hI2
        refine ⟨b', u', h', ?_, hI', hend⟩
        refine Ev.step (fun k => by rw [A0v.l0]) ?_
        simp only [if_pos c, if_pos c0, if_pos c1, e56, if_pos ge0, hrd, hxu, hsh, hor, e8, List.drop_succ_cons, List.drop_zero]
        exact hE
    · refine ⟨b, u, h, ?_, hI, .inr (by omega)⟩
      refine Ev.step (fun k => by rw [A0v.l0]) ?_
      simp only [if_neg c]
      exact Ev.now _
theorem refill_is {R b : List Int} {u h : Int} (hI : Inv R b u h) : ∃ b' u' h', Ev (fun k => A0v.f k b u h) (b', u', h') ∧ Inv R b' u' h' ∧ (b' = [] ∨ 56 < h') :=
 refill_l0 b.length R b u h rfl hI
def pk (R : List Int) (n : Int) : Int := if n < 1 ∨ n > 56 then 0 else Bs.number ((R ++ List.replicate n.toNat 0).take n.toNat)
theorem Peek_is {R b : List Int} {u h : Int} (hI : Inv R b u h) (n : Int) :
    ∃ b' u' h', Ev (fun k => A01.f k b u h n) (pk R n, b', u', h') ∧ Inv R b' u' h' ∧ (1 ≤ n → n ≤ 56 → n ≤ (R.length : Int) → n ≤ h') := by
  by_cases c1 : n < 1
  · refine ⟨b, u, h, ?_, hI, fun h1 => by omega⟩
    unfold A01.f pk
    rw [if_pos (Or.inl c1)]
    simp only [if_pos c1]
    exact Ev.now _
  by_cases c2 : n > 56
  · refine ⟨b, u, h, ?_, hI, fun _ h2 => by omega⟩
    unfold A01.f pk
    rw [if_pos (Or.inr c2)]
    simp only [if_neg c1, if_pos c2]
    exact Ev.now _
  obtain ⟨b', u', h', hE, hI', hend⟩ := refill_is hI
  have hI2 := hI'
  obtain ⟨W, hW, h64, hh, hu, hR, hb, hl⟩ := hI'
  obtain ⟨m, rfl⟩ : ∃ m : Nat, n = (m : Int) := ⟨n.toNat, by omega⟩
  have hm : m ≤ 64 := by omega
  refine ⟨b', u', h', ?_, hI2, fun _ _ h3 => ?_⟩
  · have e : wrap64 (64 - (m : Int)) = ((64 - m : Nat) : Int) := by rw [PBits.w64 _ (by omega)]; omega
    have ge0 : (0 : Int) ≤ ((64 - m : Nat) : Int) := Int.natCast_nonneg _
    have hv : shr .u64 u' ((64 - m : Nat) : Int) = pk R (m : Int) := by
      unfold pk
      rw [if_neg (fun hc => hc.elim c1 c2), hu, shr_u64 _ _ (by omega), top_shr hW h64 m hm, Int.toNat_natCast, hR]
      congr 1
      by_cases c : m ≤ W.length
      · rw [List.take_append_of_le_length c, List.append_assoc, List.take_append_of_le_length c]
      · rcases hend with hend | hend
        · rw [hend, Bs.flat_nil, List.append_nil]
        · omega
    unfold A01.f
    simp only [if_neg c1, if_neg c2]
    refine Ev.bind hE ?_
    simp only [e, if_pos ge0, hv]
    exact Ev.now _
  · rcases hend with hend | hend
    · rw [hR, hend, Bs.flat_nil, List.append_nil, ← hh] at h3
      exact h3
    · omega
theorem drop_is {R b : List Int} {u h : Int} (hI : Inv R b u h) (n : Nat) (hn : (n : Int) ≤ h) : ∃ u' h', A1r.f b u h (n : Int) = some (b, u', h') ∧ Inv (R.drop n) b u' h' ∧ h' = h - (n : Int) := by
 obtain ⟨W, hW, h64, hh, hu, hR, hb, hl⟩ := hI
 have hnW : n ≤ W.length := by omega
 have e : wrap64 (h - (n : Int)) = ((W.drop n).length : Int) := by rw [hh, PBits.w64 _ (by omega), List.length_drop]; omega
 refine ⟨top (W.drop n), ((W.drop n).length : Int), ?_, ⟨W.drop n, hW.drop n, by rw [List.length_drop]; omega, rfl, rfl, ?_, hb, hl⟩, by rw [List.length_drop, hh]; omega⟩
 ·unfold A1r.f
  rw [if_pos (Int.natCast_nonneg n), e, hu, shl_u64 _ _ (by omega), top_shl hW h64 n hnW]
 ·rw [hR, List.drop_append_of_le_length hnW]
theorem Skip_is {R b : List Int} {u h : Int} (hI : Inv R b u h) (n : Int) (hn : n < 9223372036854775808) :
    ∃ b' u' h', Ev (fun k => A0z.f k b u h n) (decide (0 ≤ n ∧ n ≤ (R.length : Int)), b', u', h') ∧ Inv (if 0 ≤ n ∧ n ≤ (R.length : Int) then R.drop n.toNat else R) b' u' h' := by
  have hout : ∀ x, x = true → Ev (fun k => A0z.j0 k n x b u h) (false, b, u, h) := by
    intro x hx
    subst hx
    refine Ev.step (fun k => by rw [A0z.j0]) ?_
    simp only [if_true]
    exact Ev.now _
  by_cases c1 : n < 0
  · have hno : ¬ (0 ≤ n ∧ n ≤ (R.length : Int)) := by omega
    rw [if_neg hno, decide_eq_false hno]
    refine ⟨b, u, h, ?_, hI⟩
    unfold A0z.f
    simp only [if_pos c1]
    exact hout _ rfl
  have hL := Left_is hI
  by_cases c2 : n > (R.length : Int)
  · have hno : ¬ (0 ≤ n ∧ n ≤ (R.length : Int)) := by omega
    rw [if_neg hno, decide_eq_false hno]
    refine ⟨b, u, h, ?_, hI⟩
    unfold A0z.f
    simp only [if_neg c1, hL, Option.bind_some]
    exact hout _ (decide_eq_true c2)
  have hyes : 0 ≤ n ∧ n ≤ (R.length : Int) := by omega
  rw [if_pos hyes, decide_eq_true hyes]
  obtain ⟨m, rfl⟩ : ∃ m : Nat, n = (m : Int) := ⟨n.toNat, by omega⟩
  rw [Int.toNat_natCast]
  have hbegin : ∀ r, Ev (fun k => A0z.j0 k (m : Int) false b u h) r → Ev (fun k => A0z.f k b u h (m : Int)) r := by
    intro r hr
    unfold A0z.f
    simp only [if_neg c1, hL, Option.bind_some, decide_eq_false c2]
    exact hr
  by_cases c3 : (m : Int) > h
  · have hI0 := hI
    obtain ⟨W, hW, h64, hh, hu, hR, hb, hl⟩ := hI
    have hRl : R.length = W.length + 8 * b.length := by rw [hR, List.length_append, Bs.A2k]
    obtain ⟨u1, h1, hd1, hI1, hh1⟩ := drop_is hI0 W.length (by omega)
    have hR1 : R.drop W.length = Bs.flat b := by rw [hR, List.drop_left]
    rw [hR1] at hI1
    obtain ⟨q, hq⟩ : ∃ q, q = (m - W.length) / 8 := ⟨_, rfl⟩
    obtain ⟨s, hs⟩ : ∃ s, s = (m - W.length) % 8 := ⟨_, rfl⟩
    have hqs : m = W.length + 8 * q + s := by omega
    have hs8 : s < 8 := by omega
    have hqb : q ≤ b.length := by omega
    have bd1 : m - W.length < 9223372036854775808 := by omega
    have bd2 : -9223372036854775808 ≤ (m : Int) - (W.length : Int) ∧ (m : Int) - (W.length : Int) < 9223372036854775808 := by omega
    have bd3 : (m : Int) - (W.length : Int) = ((m - W.length : Nat) : Int) := by omega
    have g0 : (0 : Int) ≤ (q : Int) := Int.natCast_nonneg _
    have g1 : (q : Int) ≤ (b.length : Int) := Int.ofNat_le.2 hqb
    obtain ⟨W1, hW1, h164, hh1', hu1, hR1', hb1, hl1⟩ := hI1
    have hW1n : W1 = [] := List.eq_nil_of_length_eq_zero (by omega)
    have hI2 : Inv (Bs.flat (b.drop q)) (b.drop q) u1 h1 := ⟨W1, hW1, h164, hh1', hu1, by rw [hW1n]; rfl, hb.drop q, by rw [List.length_drop]; omega⟩
    obtain ⟨b3, u3, h3, hE3, hI3, hend⟩ := refill_is hI2
    have hfl : (Bs.flat (b.drop q)).length = 8 * (b.length - q) := by rw [Bs.A2k, List.length_drop]
    have hs3 : (s : Int) ≤ h3 := by
      rcases hend with hend | hend
      · obtain ⟨W3, hW3, h364, hh3, hu3, hR3, hb3, hl3⟩ := hI3
        rw [hend, Bs.flat_nil, List.append_nil] at hR3
        rw [hR3] at hfl
        omega
      · omega
    obtain ⟨u4, h4, hd4, hI4, hh4⟩ := drop_is hI3 s hs3
    have e0 : wrap64 ((m : Int) - h) = ((m - W.length : Nat) : Int) := by rw [hh, PBits.w64 _ bd2, bd3]
    have e1 : wrap64 (Int.tdiv ((m - W.length : Nat) : Int) 8) = (q : Int) := by rw [PBits.at_byte _ bd1, hq]
    have e2 : Int.tmod ((m - W.length : Nat) : Int) 8 = (s : Int) := by rw [tmod_8, hs]
    refine ⟨b3, u4, h4, ?_, ?_⟩
    · refine hbegin _ ?_
      have hd1' : A1r.f b u h h = some (b, u1, h1) := by rw [← hh] at hd1; exact hd1
      refine Ev.step (fun k => by rw [A0z.j0]) ?_
      simp only [Bool.false_eq_true, if_false, if_pos c3, hd1', Option.bind_some, e0, e1, e2, if_pos g0, if_pos g1, Int.toNat_natCast]
      refine Ev.bind hE3 ?_
      simp only [hd4, Option.bind_some]
      exact Ev.now _
    · have : R.drop m = (Bs.flat (b.drop q)).drop s := by
        rw [← Bs.flat_drop, List.drop_drop, ← hR1, List.drop_drop, hqs, Nat.add_assoc]
      rw [this]
      exact hI4
  · obtain ⟨u1, h1, hd1, hI1, hh1⟩ := drop_is hI m (by omega)
    refine ⟨b, u1, h1, ?_, hI1⟩
    refine hbegin _ ?_
    refine Ev.step (fun k => by rw [A0z.j0]) ?_
    simp only [Bool.false_eq_true, if_false, if_neg c3, hd1, Option.bind_some]
    exact Ev.now _
theorem pk_in (R : List Int) (m : Nat) (h0 : m ≤ 56) (h1 : m ≤ R.length) : pk R (m : Int) = Bs.number (R.take m) := by
 unfold pk
 by_cases c : m = 0
 ·subst c; rfl
 ·rw [if_neg (by omega), Int.toNat_natCast, List.take_append_of_le_length h1]
theorem look_drop {R b : List Int} {u h : Int} (hI : Inv R b u h) (m : Nat) (h0 : m ≤ 56) (h1 : m ≤ R.length) :
    ∃ b1 u1 h1 u2 h2, Ev (fun k => A01.f k b u h (m : Int)) (Bs.number (R.take m), b1, u1, h1) ∧ A1r.f b1 u1 h1 (m : Int) = some (b1, u2, h2) ∧ Inv (R.drop m) b1 u2 h2 := by
  obtain ⟨b1, u1, h1', hE, hI1, hle⟩ := Peek_is hI (m : Int)
  rw [pk_in R m h0 h1] at hE
  have hm : (m : Int) ≤ h1' := by
    by_cases c : m = 0
    · obtain ⟨W, hW, h64, hh, hu, hR, hb, hl⟩ := hI1
      omega
    · exact hle (by omega) (by omega) (by omega)
  obtain ⟨u2, h2, hd, hI2, _⟩ := drop_is hI1 m hm
  exact ⟨b1, u1, h1', u2, h2, hE, hd, hI2⟩
def rdv (R : List Int) (n : Int) : Int × Bool := if n < 0 ∨ n > 64 ∨ n > (R.length : Int) then (0, false) else (Bs.number (R.take n.toNat), true)
def rdR (R : List Int) (n : Int) : List Int := if n < 0 ∨ n > 64 ∨ n > (R.length : Int) then R else R.drop n.toNat
theorem Read_is {R b : List Int} {u h : Int} (hI : Inv R b u h) (n : Int) :
    ∃ b' u' h', Ev (fun k => A0j.f k b u h n) ((rdv R n).1, (rdv R n).2, b', u', h') ∧ Inv (rdR R n) b' u' h' := by
  have hout : ∀ x, x = true → Ev (fun k => A0j.j0 k n x b u h) (0, false, b, u, h) := by
    intro x hx
    subst hx
    refine Ev.step (fun k => by rw [A0j.j0]) ?_
    simp only [if_true]
    exact Ev.now _
  have hL := Left_is hI
  by_cases c1 : n < 0
  · have hno : n < 0 ∨ n > 64 ∨ n > (R.length : Int) := .inl c1
    rw [show rdv R n = (0, false) from if_pos hno, show rdR R n = R from if_pos hno]
    refine ⟨b, u, h, ?_, hI⟩
    unfold A0j.f
    simp only [if_pos c1]
    exact hout _ rfl
  by_cases c2 : n > 64
  · have hno : n < 0 ∨ n > 64 ∨ n > (R.length : Int) := .inr (.inl c2)
    rw [show rdv R n = (0, false) from if_pos hno, show rdR R n = R from if_pos hno]
    refine ⟨b, u, h, ?_, hI⟩
    unfold A0j.f
    simp only [if_neg c1, if_pos c2]
    exact hout _ rfl
  by_cases c3 : n > (R.length : Int)
  · have hno : n < 0 ∨ n > 64 ∨ n > (R.length : Int) := .inr (.inr c3)
    rw [show rdv R n = (0, false) from if_pos hno, show rdR R n = R from if_pos hno]
    refine ⟨b, u, h, ?_, hI⟩
    unfold A0j.f
    simp only [if_neg c1, if_neg c2, hL, Option.bind_some]
    exact hout _ (decide_eq_true c3)
  have hno : ¬ (n < 0 ∨ n > 64 ∨ n > (R.length : Int)) := fun hc => hc.elim c1 fun hc => hc.elim c2 c3
  rw [show rdv R n = (Bs.number (R.take n.toNat), true) from if_neg hno, show rdR R n = R.drop n.toNat from if_neg hno]
  have hbits := hI.bits
  obtain ⟨m, rfl⟩ : ∃ m : Nat, n = (m : Int) := ⟨n.toNat, by omega⟩
  rw [Int.toNat_natCast]
  have hbegin : ∀ r, Ev (fun k => A0j.j0 k (m : Int) false b u h) r → Ev (fun k => A0j.f k b u h (m : Int)) r := by
    intro r hr
    unfold A0j.f
    simp only [if_neg c1, if_neg c2, hL, Option.bind_some, decide_eq_false c3]
    exact hr
  have hmR : m ≤ R.length := by omega
  have hm64 : m ≤ 64 := by omega
  by_cases c4 : (m : Int) ≤ 56
  · obtain ⟨b1, u1, h1, u2, h2, hE, hd, hI2⟩ := look_drop hI m (by omega) hmR
    refine ⟨b1, u2, h2, ?_, hI2⟩
    refine hbegin _ ?_
    refine Ev.step (fun k => by rw [A0j.j0]) ?_
    simp only [Bool.false_eq_true, if_false, if_pos c4]
    refine Ev.bind hE ?_
    simp only [hd, Option.bind_some]
    exact Ev.now _
  · obtain ⟨s, hs⟩ : ∃ s, s = m - 32 := ⟨_, rfl⟩
    have hms : m = 32 + s := by omega
    have hs32 : s ≤ 32 := by omega
    obtain ⟨b1, u1, h1, u2, h2, hE, hd, hI2⟩ := look_drop hI 32 (by omega) (by omega)
    obtain ⟨b3, u3, h3, u4, h4, hE2, hd2, hI4⟩ := look_drop hI2 s (by omega) (by rw [List.length_drop]; omega)
    have g0 : (0 : Int) ≤ (s : Int) := Int.natCast_nonneg _
    have hb1 : -9223372036854775808 ≤ (m : Int) - 32 ∧ (m : Int) - 32 < 9223372036854775808 := by omega
    have hb2 : (m : Int) - 32 = (s : Int) := by omega
    have hs64 : s ≤ 64 := by omega
    have hA := Bs.A3c (hbits.take 32)
    have hB := Bs.A3c ((hbits.drop 32).take s)
    have lA : (R.take 32).length = 32 := by rw [List.length_take]; omega
    have lB : ((R.drop 32).take s).length = s := by rw [List.length_take, List.length_drop]; omega
    have hn : Bs.number (R.take m) = Bs.number (R.take 32) * 2 ^ s + Bs.number ((R.drop 32).take s) := by rw [hms, List.take_add, Bs.A3v, lB]
    rw [lA] at hA
    rw [lB] at hB
    have hps := Bs.pow_pos s
    have hle : (2 : Int) ^ s ≤ 2 ^ 32 := PBits.pow_le hs32
    have hq0 : 0 ≤ Bs.number (R.take 32) * 2 ^ s := Int.mul_nonneg hA.1 (Int.le_of_lt hps)
    have hq1 : Bs.number (R.take 32) * 2 ^ s < 18446744073709551616 := by
      have h1 := Int.mul_lt_mul_of_pos_right hA.2 hps
      have h2 := Int.mul_le_mul_of_nonneg_left hle (show (0 : Int) ≤ 2 ^ 32 by decide)
      rw [show (2 : Int) ^ 32 * 2 ^ 32 = 18446744073709551616 from by decide] at h2
      omega
    have hsh : shl .u64 (Bs.number (R.take 32)) (s : Int) = Bs.number (R.take 32) * 2 ^ s := by rw [shl_u64 _ _ hs64, Int.emod_eq_of_lt hq0 hq1]
    have hor : Go.bits .or .u64 (shl .u64 (Bs.number (R.take 32)) (s : Int)) (Bs.number ((R.drop 32).take s)) = Bs.number (R.take m) := by
      rw [hsh, or_u64_sum _ _ s hs64 ⟨hq0, hq1⟩ hB, hn]
    have hdd : (R.drop 32).drop s = R.drop m := by rw [List.drop_drop, hms]
    rw [hdd] at hI4
    have e : wrap64 ((m : Int) - 32) = (s : Int) := by rw [PBits.w64 _ hb1, hb2]
    refine ⟨b3, u4, h4, ?_, hI4⟩
    refine hbegin _ ?_
    refine Ev.step (fun k => by rw [A0j.j0]) ?_
    have hE' : Ev (fun k => A01.f k b u h 32) (Bs.number (R.take 32), b1, u1, h1) := hE
    have hd' : A1r.f b1 u1 h1 32 = some (b1, u2, h2) := hd
    simp only [Bool.false_eq_true, if_false, if_neg c4, e]
    refine Ev.bind hE' ?_
    simp only [hd', Option.bind_some]
    refine Ev.bind hE2 ?_
    simp only [hd2, Option.bind_some, if_pos g0, hor]
    exact Ev.now _
end Go.Proofs.YtiahbcaoikoogabDoor.PFill
end
section
namespace Go.Proofs.YtiahbcaoikoogabDoor.PBatch
open Go Go.RowKit Go.Proofs.YtiahbcaoikoogabDoor Go.Proofs.YtiahbcaoikoogabDoor.All Go.Proofs.YtiahbcaoikoogabDoorW.PrintWords Go.Proofs.YtiahbcaoikoogabDoorW.PrintLast Go.Proofs.YtiahbcaoikoogabDoor.PXor
set_option linter.unusedVariables false
set_option linter.unusedSimpArgs false
theorem top2 (c d : Int) (T : List Int) (h : Bs.Bits (c :: d :: T)) : rd (Bs.pack (c :: d :: T)) 0 / 64 = 2 * c + d := by
 rw [Bs.pack_ne (by simp)]
 have e : (c :: d :: T).take 8 ++ List.replicate (8 - (c :: d :: T).length) 0 = c :: d :: (T.take 6 ++ List.replicate (6 - T.length) 0) := by
  simp only [List.length_cons, List.take_succ_cons, List.cons_append]
  congr 4
  omega
 rw [e, Bs.number_cons, Bs.number_cons]
 have hT : Bs.Bits (T.take 6 ++ List.replicate (6 - T.length) 0) := by
  have h1 : Bs.Bits T := fun x hx => h x (by simp [hx])
  exact (h1.take 6).append (Bs.Bits.zeros _)
 have hl : (T.take 6 ++ List.replicate (6 - T.length) (0 : Int)).length = 6 := by rw [List.length_append, List.length_take, List.length_replicate]; omega
 have hr := Bs.A3c hT
 rw [List.length_cons, hl] at *
 generalize Bs.number (T.take 6 ++ List.replicate (6 - T.length) 0) = m at *
 have k6 : (2 : Int) ^ 6 = 64 := by decide
 have k7 : (2 : Int) ^ (6 + 1) = 128 := by decide
 rw [k6] at hr ⊢
 rw [k7]
 show (c * 128 + (d * 64 + m)) / 64 = 2 * c + d
 omega
theorem pack_pos (l : List Int) (h : 1 ≤ l.length) : 0 < ((Bs.pack l).length : Int) := by rw [Bs.A3a]; omega
theorem new_iff {R : List Int} (hR : Bs.Bits R) (l n : Nat) (hln : l + n ≤ 64) (hh : 14 + sd R ≤ R.length) (hs : ld R + sd R ≤ 64) (r0 : rd R 0 = 1) (r1 : rd R 1 = 1) :
    cb l n (xv R 14 (ld R) (sd R)) = R.take (14 + sd R) ↔ ((cb l n (xv R 14 (ld R) (sd R))).length = 14 + sd R ∧ cl l n (xv R 14 (ld R) (sd R)) = ld R ∧ cn l n (xv R 14 (ld R) (sd R)) = sd R ∧ rd (Bs.pack (cb l n (xv R 14 (ld R) (sd R)))) 0 / 64 = 3) := by
  have hx := xv_range hR 14 (ld R) (sd R) hh hs
  have hbody := xv_body hR 14 (ld R) (sd R) hh
  have h14 : 14 ≤ R.length := by omega
  have hl := ld_lt hR h14
  have hsd := sd_lt hR h14
  have t2 := take_two R (by omega)
  rw [r0, r1] at t2
  have hsp := split14 R (sd R) hh
  rw [t2] at hsp
  generalize hX : xv R 14 (ld R) (sd R) = x at *
  have htop : ∀ (T : List Int), Bs.Bits ([1, 1] ++ T) → rd (Bs.pack ([1, 1] ++ T)) 0 / 64 = 3 := fun T hT => top2 1 1 T hT
  have htop0 : ∀ (T : List Int), Bs.Bits ([1, 0] ++ T) → rd (Bs.pack ([1, 0] ++ T)) 0 / 64 = 2 := fun T hT => top2 1 0 T hT
  have hcb := cb_bits l n x
  unfold cb cl cn at *
  by_cases c0 : x = 0
  · rw [if_pos c0] at hcb ⊢
    constructor
    · intro h
      have := congrArg List.length h
      rw [List.length_take] at this
      simp at this
      omega
    · intro h
      have := h.1
      simp at this
      omega
  rw [if_neg c0] at hcb ⊢
  rw [if_neg c0, if_neg c0]
  have hw := win x (by omega) hx.2
  have g3 := hw.le
  have g2 := hw.pos
  have g1 := hw.lt
  by_cases c1 : 0 < n ∧ l ≤ LL x ∧ LL x + SS x ≤ l + n
  · rw [if_pos c1] at hcb ⊢
    rw [if_pos c1, if_pos c1]
    constructor
    · intro h
      rw [hsp] at h
      have h2 := congrArg (List.take 2) h
      simp at h2
    · intro h
      have h4 := h.2.2.2
      rw [htop0 _ hcb] at h4
      exact absurd h4 (by decide)
  · rw [if_neg c1] at hcb ⊢
    rw [if_neg c1, if_neg c1]
    have k6 : (2 : Int) ^ 6 = 64 := by decide
    constructor
    · intro h
      have hlen := congrArg List.length h
      have ht : rd (Bs.pack ([1, 1] ++ Bs.low (LL x : Int) 6 ++ Bs.low ((SS x : Int) - 1) 6 ++ Bs.low (x / 2 ^ (64 - LL x - SS x)) (SS x))) 0 / 64 = 3 := by
        have := htop (Bs.low (LL x : Int) 6 ++ Bs.low ((SS x : Int) - 1) 6 ++ Bs.low (x / 2 ^ (64 - LL x - SS x)) (SS x)) (by rw [← List.append_assoc, ← List.append_assoc]; exact hcb)
        rw [List.append_assoc, List.append_assoc, ← List.append_assoc (Bs.low (LL x : Int) 6)]
        exact this
      have hlen' : ([1, 1] ++ Bs.low (LL x : Int) 6 ++ Bs.low ((SS x : Int) - 1) 6 ++ Bs.low (x / 2 ^ (64 - LL x - SS x)) (SS x)).length = 14 + SS x := by
        simp only [List.length_append, Bs.A1o, List.length_cons, List.length_nil]
      rw [hlen', List.length_take, Nat.min_eq_left hh] at hlen
      rw [hsp] at h
      obtain ⟨q, _⟩ := List.append_inj h (by simp only [List.length_append, Bs.A1o, cut_len R 2 6 (by omega), cut_len R 8 6 (by omega)])
      obtain ⟨q, _⟩ := List.append_inj q (by simp only [List.length_append, Bs.A1o, cut_len R 2 6 (by omega)])
      have q1 := List.append_cancel_left q
      have hl1 := hl.1
      rw [← q1, Bs.A32, k6] at hl1
      exact ⟨by rw [hlen', hlen], by omega, by omega, ht⟩
    · intro ⟨_, e1, e2, _⟩
      rw [e1, e2, hbody, hsp]
      have q1 := low_of_num hR 2 6 (by omega) hl.1
      have q2 : Bs.low ((sd R : Int) - 1) 6 = (R.drop 8).take 6 := low_of_num hR 8 6 (by omega) (by omega)
      rw [q1, q2]
theorem old_iff {R : List Int} (hR : Bs.Bits R) (l n : Nat) (hln : l + n ≤ 64) (h0 : 0 < n) (hh : 2 + n ≤ R.length) (r0 : rd R 0 = 1) (r1 : rd R 1 = 0) :
    cb l n (xv R 2 l n) = R.take (2 + n) ↔ ((cb l n (xv R 2 l n)).length = 2 + n ∧ ¬ rd (Bs.pack (cb l n (xv R 2 l n))) 0 / 64 = 3) := by
  have hx := xv_range hR 2 l n hh hln
  have hbody := xv_body hR 2 l n hh
  have t2 := take_two R (by omega)
  rw [r0, r1] at t2
  have hsp := split2 R n
  rw [t2] at hsp
  generalize hX : xv R 2 l n = x at *
  have htop : ∀ (T : List Int), Bs.Bits ([1, 1] ++ T) → rd (Bs.pack ([1, 1] ++ T)) 0 / 64 = 3 := fun T hT => top2 1 1 T hT
  have htop0 : ∀ (T : List Int), Bs.Bits ([1, 0] ++ T) → rd (Bs.pack ([1, 0] ++ T)) 0 / 64 = 2 := fun T hT => top2 1 0 T hT
  have hcb := cb_bits l n x
  unfold cb at *
  by_cases c0 : x = 0
  · rw [if_pos c0] at hcb ⊢
    constructor
    · intro h
      have := congrArg List.length h
      rw [List.length_take] at this
      simp at this
      omega
    · intro h
      have := h.1
      simp at this
      omega
  rw [if_neg c0] at hcb ⊢
  by_cases c1 : 0 < n ∧ l ≤ LL x ∧ LL x + SS x ≤ l + n
  · rw [if_pos c1] at hcb ⊢
    constructor
    · intro h
      refine ⟨by simp only [List.length_append, Bs.A1o, List.length_cons, List.length_nil], ?_⟩
      rw [htop0 _ hcb]
      decide
    · intro h
      rw [hbody, hsp]
  · rw [if_neg c1] at hcb ⊢
    have ht : rd (Bs.pack ([1, 1] ++ Bs.low (LL x : Int) 6 ++ Bs.low ((SS x : Int) - 1) 6 ++ Bs.low (x / 2 ^ (64 - LL x - SS x)) (SS x))) 0 / 64 = 3 := by
      have := htop (Bs.low (LL x : Int) 6 ++ Bs.low ((SS x : Int) - 1) 6 ++ Bs.low (x / 2 ^ (64 - LL x - SS x)) (SS x)) (by rw [← List.append_assoc, ← List.append_assoc]; exact hcb)
      rw [List.append_assoc, List.append_assoc, ← List.append_assoc (Bs.low (LL x : Int) 6)]
      exact this
    constructor
    · intro h
      rw [hsp] at h
      have h2 := congrArg (List.take 2) h
      simp at h2
    · intro h
      exact absurd ht h.2
end Go.Proofs.YtiahbcaoikoogabDoor.PBatch
end
