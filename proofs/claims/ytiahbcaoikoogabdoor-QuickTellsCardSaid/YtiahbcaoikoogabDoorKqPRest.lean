-- copied by a program of the session
import Derived.Test.YtiahbcaoikoogabDoorKqPBits
import Derived.Lib.ItoaNum
section
namespace Go.Proofs.YtiahbcaoikoogabDoor.PBits
open Go Go.RowKit Go.Proofs.YtiahbcaoikoogabDoor Go.Proofs.YtiahbcaoikoogabDoor.All Go.Proofs.YtiahbcaoikoogabDoorW.PrintWords Go.Proofs.YtiahbcaoikoogabDoorW.PrintLast
set_option linter.unusedVariables false
set_option linter.unusedSimpArgs false
theorem wr_succ (i : Nat) (h : i < 140737488355328) : wrap64 ((i : Int) + 1) = ((i + 1 : Nat) : Int) := by rw [w64 _ (by omega)]; omega
theorem wr_pred (m : Nat) (h : m < 140737488355328) : wrap64 ((m : Int) - 1) = (m : Int) - 1 := w64 _ (by omega)
theorem wr_pred' (m : Nat) (h0 : 0 < m) (h : m < 140737488355328) : wrap64 ((m : Int) - 1) = ((m - 1 : Nat) : Int) := by rw [w64 _ (by omega)]; omega
theorem wr_add (i j : Nat) (h : i + j < 140737488355328) : wrap64 ((i : Int) + (j : Int)) = ((i + j : Nat) : Int) := by rw [w64 _ (by omega)]; omega
theorem wr_eight (r : Nat) (h : r ≤ 8) : wrap64 (8 - (r : Int)) = ((8 - r : Nat) : Int) := by rw [w64 _ (by omega)]; omega
theorem wr_bytes (n : Nat) (h : n < 140737488355328) : wrap64 (Int.tdiv (wrap64 ((n : Int) + 7)) 8) = (((n + 7) / 8 : Nat) : Int) := by
 rw [w64 ((n : Int) + 7) (by omega), tdiv_nat _ (by omega), w64 _ (by omega)]; omega
theorem tmod8 (n : Nat) : Int.tmod (n : Int) 8 = ((n % 8 : Nat) : Int) := by rw [tmod_nat _ (by omega)]; omega
theorem shl_u8 (x : Int) (s : Nat) (h : s ≤ 8) : shl .u8 x (s : Int) = x * 2 ^ s % 256 := by
 unfold shl; rw [Int.toNat_natCast, show IntKind.u8.bits = 8 from rfl, Nat.min_eq_left h, Ib.wrap_u8]
theorem bit_of (v : Int) (m : Nat) (hv : 0 ≤ v ∧ v < 18446744073709551616) (hm : m ≤ 63) : Go.bits .and .u64 (shr .u64 v (m : Int)) 1 % 256 = v / 2 ^ m % 2 := by
 unfold shr
 rw [Int.toNat_natCast, show IntKind.u64.bits = 64 from rfl, Nat.min_eq_left (by omega)]
 have h3 := Bs.pow_pos m
 have h4 : 0 ≤ v / 2 ^ m := Int.ediv_nonneg hv.1 (Int.le_of_lt h3)
 have h5 : v / 2 ^ m < 18446744073709551616 := Int.lt_of_le_of_lt (Int.ediv_le_self _ hv.1) hv.2
 generalize v / 2 ^ m = q at h4 h5 ⊢
 rw [Ib.and_u64_one q ⟨h4, h5⟩]
 omega
theorem put_first {l : List Int} (h : l.length % 8 = 0) (x : Int) (hx : x = 0 ∨ x = 1) :
    (Bs.pack l ++ [0]).set (l.length / 8) (Go.bits .or .u8 (rd (Bs.pack l ++ [0]) ((l.length / 8 : Nat) : Int)) (shl .u8 x ((7 - l.length % 8 : Nat) : Int))) = Bs.pack (l ++ [x]) := by
  have hp := Bs.A3f l
  have hr : rd (Bs.pack l ++ [0]) ((l.length / 8 : Nat) : Int) = 0 := by
    rw [rd_at _ _ (by rw [List.length_append, List.length_singleton]; omega), List.getElem_append_right (by omega)]
    simp
  rw [hr, Bs.pack_snoc0 h, List.set_append_right _ _ (by omega), h, show l.length / 8 - (Bs.pack l).length = 0 from by omega, List.set_cons_zero]
  rcases hx with rfl | rfl
  · rw [show Go.bits .or .u8 0 (shl .u8 0 ((7 - 0 : Nat) : Int)) = 0 * 128 from by decide +kernel]
  · rw [show Go.bits .or .u8 0 (shl .u8 1 ((7 - 0 : Nat) : Int)) = 1 * 128 from by decide +kernel]
theorem put_next {l : List Int} (hb : Bs.Bits l) (h : l.length % 8 ≠ 0) (x : Int) (hx : x = 0 ∨ x = 1) :
    (Bs.pack l).set (l.length / 8) (Go.bits .or .u8 (rd (Bs.pack l) ((l.length / 8 : Nat) : Int)) (shl .u8 x ((7 - l.length % 8 : Nat) : Int))) = Bs.pack (l ++ [x]) := by
  have hp := Bs.A3f l
  have hlt : l.length / 8 < (Bs.pack l).length := by omega
  have hby := Bs.pack_bytes hb _ (List.getElem_mem hlt)
  obtain ⟨t, ht⟩ := Bs.pack_last h
  have hg : (Bs.pack l).getD (l.length / 8) 0 = (Bs.pack l)[l.length / 8] := by simp [List.getD_eq_getElem?_getD, hlt]
  have hrd : rd (Bs.pack l) ((l.length / 8 : Nat) : Int) = t * 2 ^ (8 - l.length % 8) := by rw [rd_at _ _ hlt, ← hg, ht]
  rw [← hg, ht] at hby
  rw [Bs.pack_snoc h, hrd, ht]
  have hr : l.length % 8 < 8 := Nat.mod_lt _ (by decide)
  generalize l.length % 8 = r at h hby hr ⊢
  have h1 : (2 : Int) ^ (8 - r) = 2 * 2 ^ (7 - r) := by rw [show 8 - r = (7 - r) + 1 from by omega, Int.pow_succ, Int.mul_comm]
  have h2 : (2 : Int) ^ (7 - r) ≤ 2 ^ 6 := pow_le (by omega)
  rw [show (2 : Int) ^ 6 = 64 from by decide] at h2
  have h3 := Bs.pow_pos (7 - r)
  have h4 : 0 ≤ x * 2 ^ (7 - r) ∧ x * 2 ^ (7 - r) < 2 ^ (8 - r) := by
    rcases hx with rfl | rfl
    · rw [Int.zero_mul]; omega
    · rw [Int.one_mul]; omega
  rw [shl_u8 _ _ (by omega), show x * 2 ^ (7 - r) % 256 = x * 2 ^ (7 - r) from Int.emod_eq_of_lt h4.1 (by omega), or_u8_sum t _ _ (by omega) hby h4]
theorem Put_l0 (v : Int) (hv : 0 ≤ v ∧ v < 18446744073709551616) : ∀ (m : Nat) (l : List Int), Bs.Bits l → m ≤ 64 → l.length + m < 140737488355328 →
    Ev (fun k => A0z.l0 k v ((m : Int) - 1) (Bs.pack l) (l.length : Int)) (Bs.pack (l ++ Bs.low v m), ((l.length + m : Nat) : Int)) := by
  intro m
  induction m with
  | zero =>
    intro l hl _ _
    refine Ev.step (fun k => ?_) (Ev.now _)
    simp only [A0z.l0]
    rw [if_neg (by omega)]
    simp only [Bs.low, List.append_nil, Nat.add_zero]
  | succ m ih =>
    intro l hl hm hlen
    have hp := Bs.A3f l
    have hn2 : l.length < 140737488355328 := by omega
    have hn3 : l.length < 9223372036854775808 := by omega
    have hlp : (Bs.pack l).length < 140737488355328 := by omega
    have hm63 : m ≤ 63 := by omega
    have hm47 : m < 140737488355328 := by omega
    have hm64 : m ≤ 64 := by omega
    have hlm : (l ++ [v / 2 ^ m % 2]).length + m < 140737488355328 := by rw [List.length_append, List.length_singleton]; omega
    have h7 : ((m + 1 : Nat) : Int) - 1 = (m : Int) := by omega
    have hm0 : (m : Int) ≥ 0 := Int.natCast_nonneg _
    have hi1 : l.length % 8 = 0 → ((l.length / 8 : Nat) : Int) < ((Bs.pack l ++ [0]).length : Int) := by intro h; rw [List.length_append, List.length_singleton]; omega
    have hi2 : l.length % 8 ≠ 0 → ((l.length / 8 : Nat) : Int) < ((Bs.pack l).length : Int) := by intro h; omega
    have hz1 : l.length % 8 = 0 → ((l.length % 8 : Nat) : Int) = 0 := by omega
    have hz2 : l.length % 8 ≠ 0 → ¬ ((l.length % 8 : Nat) : Int) = 0 := by omega
    have hx : v / 2 ^ m % 2 = 0 ∨ v / 2 ^ m % 2 = 1 := Int.emod_two_eq _
    have hb := bit_of v m hv hm63
    have hw1 := wr_pred m hm47
    have hw2 := wr_succ l.length hn2
    have ht1 := tmod8 l.length
    have := ih (l ++ [v / 2 ^ m % 2]) (hl.append (Bs.Bits.cons hx Bs.Bits.nil)) hm64 hlm
    rw [List.append_assoc, List.singleton_append, ← Bs.low_top, List.length_append, List.length_singleton] at this
    rw [show l.length + (m + 1) = l.length + 1 + m from by rw [Nat.add_comm m 1, Nat.add_assoc]]
    refine Ev.step (fun k => ?_) this
    simp only [A0z.l0]
    rw [h7, if_pos hm0, at_byte _ hn3, at_bit _ hn3, ht1, hw1, hw2, hb]
    by_cases h8 : l.length % 8 = 0
    · rw [if_pos (hz1 h8), if_pos hlp]
      simp only [Option.bind_some]
      rw [if_pos (Int.natCast_nonneg _), if_pos (hi1 h8), if_pos hm0, if_pos (Int.natCast_nonneg _), Int.toNat_natCast, put_first h8 _ hx]
    · rw [if_neg (hz2 h8), if_pos (Int.natCast_nonneg _), if_pos (hi2 h8), if_pos hm0, if_pos (Int.natCast_nonneg _), Int.toNat_natCast, put_next hl h8 _ hx]
theorem Put_is (l : List Int) (hl : Bs.Bits l) (hlen : l.length + 64 < 140737488355328) (v : Int) (hv : 0 ≤ v ∧ v < 18446744073709551616) (n : Int) :
    Ev (fun k => A0z.f k (Bs.pack l) (l.length : Int) v n) (if n < 0 ∨ n > 64 then (Bs.pack l, (l.length : Int)) else (Bs.pack (l ++ Bs.low v n.toNat), ((l.length + n.toNat : Nat) : Int))) := by
  have hp := Bs.A3f l
  unfold A0z.f A2a.f
  rw [if_pos (by omega)]
  simp only [Option.bind_some]
  by_cases c1 : n < 0
  · rw [if_pos (.inl c1)]
    exact Ev.step (g := fun k => _) (fun k => by rw [if_pos c1]; simp only [A0z.j0, if_true]) (Ev.now _)
  by_cases c2 : n > 64
  · rw [if_pos (.inr c2)]
    exact Ev.step (g := fun k => _) (fun k => by rw [if_neg c1, decide_eq_true c2]; simp only [A0z.j0, if_true]) (Ev.now _)
  rw [if_neg (by omega)]
  refine Ev.step (g := fun k => _) (fun k => ?_) (Put_l0 v hv n.toNat l hl (by omega) (by omega))
  rw [if_neg c1, decide_eq_false c2]
  simp only [A0z.j0]
  rw [if_neg (by decide), w64 _ (by omega), show ((n.toNat : Nat) : Int) = n from by omega]
end Go.Proofs.YtiahbcaoikoogabDoor.PBits
end
section
namespace Go.Proofs.YtiahbcaoikoogabDoor.PXor
open Go Go.RowKit Go.Proofs.YtiahbcaoikoogabDoor Go.Proofs.YtiahbcaoikoogabDoor.All Go.Proofs.YtiahbcaoikoogabDoorW.PrintWords Go.Proofs.YtiahbcaoikoogabDoorW.PrintLast
set_option linter.unusedVariables false
set_option linter.unusedSimpArgs false
def LL (d : Int) : Nat := 64 - Lib.bitLen d.toNat
def SS (d : Int) : Nat := Lib.bitLen d.toNat - Lib.ctz 64 d.toNat
structure Win (d : Int) : Prop where
 lt : LL d < 64
 pos : 1 ≤ SS d
 le : LL d + SS d ≤ 64
 hi : d < 2 ^ (64 - LL d)
 top : d / 2 ^ (63 - LL d) = 1
 mul : d = (d / 2 ^ (64 - LL d - SS d)) * 2 ^ (64 - LL d - SS d)
 odd : d / 2 ^ (64 - LL d - SS d) % 2 = 1
theorem win (d : Int) (h0 : 0 < d) (h1 : d < 18446744073709551616) : Win d := by
 obtain ⟨x, rfl⟩ := Int.eq_ofNat_of_zero_le (Int.le_of_lt h0)
 have hx0 : x ≠ 0 := by omega
 have hx : x < 2 ^ 64 := by omega
 obtain ⟨b1, b2, b3⟩ := Lib.bitLenAux_bounds 64 x hx hx0
 have b4 := Lib.bitLen_le x 64 (by omega) hx
 obtain ⟨m, hm, hk⟩ := Lib.ctzFrom_spec 64 x (by omega) hx
 have e : Lib.ctz 64 x = Lib.ctzFrom 64 x := by simp [Lib.ctz, hx0]
 have en : Lib.bitLen x = Lib.bitLenAux 64 x := rfl
 have hlt : Lib.ctzFrom 64 x < Lib.bitLenAux 64 x := by
  apply Nat.lt_of_not_le
  intro hle
  have h2 : 2 ^ Lib.bitLenAux 64 x ≤ 2 ^ Lib.ctzFrom 64 x := Nat.pow_le_pow_right (by decide) hle
  have h3 : 2 ^ Lib.ctzFrom 64 x ≤ x := by
   conv => rhs; rw [hm]
   exact Nat.le_mul_of_pos_right _ (by omega)
  omega
 have eL : LL (x : Int) = 64 - Lib.bitLenAux 64 x := by unfold LL; rw [Int.toNat_natCast, en]
 have eS : SS (x : Int) = Lib.bitLenAux 64 x - Lib.ctzFrom 64 x := by unfold SS; rw [Int.toNat_natCast, en, e]
 rw [en] at b4
 generalize hn : Lib.bitLenAux 64 x = n at *
 generalize ht : Lib.ctzFrom 64 x = t at *
 have q1 : 64 - LL (x : Int) = n := by omega
 have q2 : 63 - LL (x : Int) = n - 1 := by omega
 have q3 : 64 - LL (x : Int) - SS (x : Int) = t := by omega
 have hp : 0 < 2 ^ t := Nat.two_pow_pos t
 have hd : x / 2 ^ t = 2 * m + 1 := by rw [hm, Nat.mul_div_cancel_left _ hp]
 have hcast : ∀ j : Nat, ((x : Int) / 2 ^ j) = ((x / 2 ^ j : Nat) : Int) := fun j => by simp
 refine ⟨by omega, by omega, by omega, ?_, ?_, ?_, ?_⟩
 ·rw [q1]; exact_mod_cast b3
 ·rw [q2, hcast]
  have : x / 2 ^ (n - 1) = 1 := by
   have h5 : 2 ^ n = 2 * 2 ^ (n - 1) := by
    conv => lhs; rw [show n = (n - 1) + 1 from by omega]
    rw [Nat.pow_succ]; omega
   exact Nat.div_eq_of_lt_le (by omega) (by omega)
  rw [this]; rfl
 ·rw [q3, hcast, hd]
  have : x = (2 * m + 1) * 2 ^ t := by rw [Nat.mul_comm]; exact hm
  exact_mod_cast this
 ·rw [q3, hcast, hd]; omega
def cb (l n : Nat) (d : Int) : List Int :=
 if d = 0 then [0]
 else if 0 < n ∧ l ≤ LL d ∧ LL d + SS d ≤ l + n then [1, 0] ++ Bs.low (d / 2 ^ (64 - l - n)) n
 else [1, 1] ++ Bs.low (LL d) 6 ++ Bs.low ((SS d : Int) - 1) 6 ++ Bs.low (d / 2 ^ (64 - LL d - SS d)) (SS d)
def cl (l n : Nat) (d : Int) : Nat := if d = 0 then l else if 0 < n ∧ l ≤ LL d ∧ LL d + SS d ≤ l + n then l else LL d
def cn (l n : Nat) (d : Int) : Nat := if d = 0 then n else if 0 < n ∧ l ≤ LL d ∧ LL d + SS d ≤ l + n then n else SS d
theorem cb_bits (l n : Nat) (d : Int) : Bs.Bits (cb l n d) := by
 have h : Bs.Bits [(1 : Int), 0] := .cons (.inr rfl) (.cons (.inl rfl) .nil)
 have h' : Bs.Bits [(1 : Int), 1] := .cons (.inr rfl) (.cons (.inr rfl) .nil)
 unfold cb
 split
 ·exact .cons (.inl rfl) .nil
 ·split
  ·exact h.append (Bs.low_bits _ _)
  ·exact ((h'.append (Bs.low_bits _ _)).append (Bs.low_bits _ _)).append (Bs.low_bits _ _)
theorem cb_length (l n : Nat) (d : Int) : (cb l n d).length = if d = 0 then 1 else if 0 < n ∧ l ≤ LL d ∧ LL d + SS d ≤ l + n then 2 + n else 14 + SS d := by
 unfold cb
 split
 ·rfl
 ·split
  ·simp only [List.length_append, List.length_cons, List.length_nil, Bs.A1a]
  ·simp only [List.length_append, List.length_cons, List.length_nil, Bs.A1a]
theorem cb_ok (l n : Nat) (d : Int) (h : l + n ≤ 64) (h0 : 0 ≤ d) (h1 : d < 18446744073709551616) : cl l n d + cn l n d ≤ 64 := by
 unfold cl cn
 by_cases hd : d = 0
 ·rw [if_pos hd, if_pos hd]; exact h
 ·rw [if_neg hd, if_neg hd]
  split
  ·exact h
  ·exact (win d (by omega) h1).le
theorem SS_le (d : Int) (h0 : 0 < d) (h1 : d < 18446744073709551616) : SS d ≤ 64 := by have := (win d h0 h1).le; omega
theorem cb_short (l n : Nat) (d : Int) (h : l + n ≤ 64) (h0 : 0 ≤ d) (h1 : d < 18446744073709551616) : 1 ≤ (cb l n d).length ∧ (cb l n d).length ≤ 78 := by
 rw [cb_length]
 by_cases hd : d = 0
 ·rw [if_pos hd]; omega
 ·rw [if_neg hd]
  have := SS_le d (by omega) h1
  split <;> omega
theorem xor_range (a b : Int) (ha : 0 ≤ a ∧ a < 18446744073709551616) (hb : 0 ≤ b ∧ b < 18446744073709551616) : 0 ≤ Go.bits .xor .u64 a b ∧ Go.bits .xor .u64 a b < 18446744073709551616 := by
 rw [Ib.xor_u64 a b ha hb]
 have := Nat.xor_lt_two_pow (x := a.toNat) (y := b.toNat) (n := 64) (by omega) (by omega)
 omega
theorem xor_back (p x : Int) (hp : 0 ≤ p ∧ p < 18446744073709551616) (hx : 0 ≤ x ∧ x < 18446744073709551616) : Go.bits .xor .u64 (Go.bits .xor .u64 p x) p = x := by
 have hr := xor_range p x hp hx
 rw [Ib.xor_u64 _ p hr hp, Ib.xor_u64 p x hp hx, Int.toNat_natCast, Nat.xor_comm p.toNat, Nat.xor_assoc, Nat.xor_self, Nat.xor_zero]
 omega
theorem xor_comm (a b : Int) (ha : 0 ≤ a ∧ a < 18446744073709551616) (hb : 0 ≤ b ∧ b < 18446744073709551616) : Go.bits .xor .u64 a b = Go.bits .xor .u64 b a := by
 rw [Ib.xor_u64 a b ha hb, Ib.xor_u64 b a hb ha, Nat.xor_comm]
theorem window_is (d : Int) (h0 : 0 < d) (h1 : d < 18446744073709551616) : xor_window.f d = some ((LL d : Int), (SS d : Int)) := by
 have hw := win d h0 h1
 have b4 : Lib.bitLen d.toNat ≤ 64 := Lib.bitLen_le d.toNat 64 (by omega) (by omega)
 have b5 := hw.lt
 have b6 := hw.pos
 unfold xor_window.f bits_LeadingZeros64.f bits_TrailingZeros64.f
 rw [if_pos (by omega)]
 simp only [Option.bind_some]
 rw [if_pos (by omega)]
 simp only [Option.bind_some]
 unfold LL SS at *
 have e1 : wrap64 (64 - (64 - (Lib.bitLen d.toNat : Int))) = (Lib.bitLen d.toNat : Int) := by rw [PBits.w64 _ (by omega)]; omega
 rw [e1, PBits.w64 _ (by omega)]
 congr 2
 ·omega
 ·omega
theorem shr_is (x : Int) (s : Nat) (h : s ≤ 64) : shr .u64 x (s : Int) = x / 2 ^ s := by
 unfold shr
 simp only [Int.toNat_natCast]
 rw [show min s IntKind.u64.bits = s from Nat.min_eq_left h]
theorem putk (l : List Int) (hl : Bs.Bits l) (hlen : l.length ≤ 1000) (v : Int) (hv : 0 ≤ v ∧ v < 18446744073709551616) (m : Nat) (hm : m ≤ 64) {n : Int} (hn : n = (m : Int)) :
    Ev (fun k => A0z.f k (Bs.pack l) (l.length : Int) v n) (Bs.pack (l ++ Bs.low v m), ((l ++ Bs.low v m).length : Int)) := by
  have h := PBits.Put_is l hl (by omega) v hv n
  rw [if_neg (by omega)] at h
  subst hn
  rw [Int.toNat_natCast] at h
  rw [List.length_append, Bs.A1a]
  exact h
theorem putk0 (v : Int) (hv : 0 ≤ v ∧ v < 18446744073709551616) (m : Nat) (hm : m ≤ 64) {n : Int} (hn : n = (m : Int)) :
    Ev (fun k => A0z.f k [] 0 v n) (Bs.pack (Bs.low v m), ((Bs.low v m).length : Int)) := by
  have := putk [] .nil (by simp) v hv m hm hn
  simp only [List.nil_append, Bs.pack_nil] at this
  exact this
theorem div_range (d : Int) (h0 : 0 ≤ d) (h1 : d < 18446744073709551616) (s : Nat) : 0 ≤ d / 2 ^ s ∧ d / 2 ^ s < 18446744073709551616 := by
 have hp : (0 : Int) < 2 ^ s := Bs.pow_pos s
 refine ⟨Int.ediv_nonneg h0 (Int.le_of_lt hp), Int.lt_of_le_of_lt (Int.ediv_le_self _ h0) h1⟩
theorem Code_is (p v : Int) (l n : Nat) (hp : 0 ≤ p ∧ p < 18446744073709551616) (hv : 0 ≤ v ∧ v < 18446744073709551616) (hln : l + n ≤ 64) {d : Int} (hd : Go.bits .xor .u64 v p = d) :
    Ev (fun k => A1l.f k p (l : Int) (n : Int) v) (Bs.pack (cb l n d), ((cb l n d).length : Int), v, (cl l n d : Int), (cn l n d : Int)) := by
  have hr := xor_range v p hv hp
  rw [hd] at hr
  by_cases h0 : d = 0
  · subst h0
    have := putk0 0 (by omega) 1 (by omega) (n := 1) rfl
    refine Ev.congr (fun k => by unfold A1l.f; rw [hd, if_pos rfl]) (Ev.bind this ?_)
    unfold cb cl cn
    simp only [if_true]
    exact Ev.now _
  have hw := win d (by omega) hr.2
  have hs := SS_le d (by omega) hr.2
  have g1 := hw.lt
  have g2 := hw.pos
  have g3 := hw.le
  have ew := window_is d (by omega) hr.2
  have main : ∀ b : Bool, b = decide (0 < n ∧ l ≤ LL d ∧ LL d + SS d ≤ l + n) → Ev (fun k => A1l.j0 k d (LL d : Int) (SS d : Int) b v (l : Int) (n : Int)) (Bs.pack (cb l n d), ((cb l n d).length : Int), v, (cl l n d : Int), (cn l n d : Int)) := by
    intro b hb
    by_cases hc : 0 < n ∧ l ≤ LL d ∧ LL d + SS d ≤ l + n
    · have hb' : b = true := by rw [hb]; exact decide_eq_true hc
      subst hb'
      have e64 : wrap64 (wrap64 (64 - (l : Int)) - (n : Int)) = ((64 - l - n : Nat) : Int) := by rw [PBits.w64 (64 - (l : Int)) (by omega), PBits.w64 _ (by omega)]; omega
      have hput := putk0 2 (by omega) 2 (by omega) (n := 2) rfl
      have l2 : Bs.low 2 2 = [1, 0] := by decide
      rw [l2] at hput
      have hput2 := putk [1, 0] (.cons (.inr rfl) (.cons (.inl rfl) .nil)) (by simp) (d / 2 ^ (64 - l - n)) (div_range d hr.1 hr.2 _) n (by omega) (n := (n : Int)) rfl
      refine Ev.step (fun k => by rw [A1l.j0, if_pos rfl, e64]) (Ev.bind hput ?_)
      refine Ev.congr (fun k => by rw [if_pos (Int.natCast_nonneg _), shr_is _ _ (by omega)]) (Ev.bind hput2 ?_)
      unfold cb cl cn
      rw [if_neg h0, if_neg h0, if_neg h0, if_pos hc, if_pos hc, if_pos hc]
      exact Ev.now _
    · have hb' : b = false := by rw [hb]; exact decide_eq_false hc
      subst hb'
      have e64 : wrap64 (wrap64 (64 - (LL d : Int)) - (SS d : Int)) = ((64 - LL d - SS d : Nat) : Int) := by rw [PBits.w64 (64 - (LL d : Int)) (by omega), PBits.w64 _ (by omega)]; omega
      have u1 : IntKind.u64.wrap ((LL d : Int)) = (LL d : Int) := by rw [Ib.wrap_u64]; omega
      have u2 : IntKind.u64.wrap (wrap64 ((SS d : Int) - 1)) = (SS d : Int) - 1 := by rw [PBits.w64 _ (by omega), Ib.wrap_u64]; omega
      have hput := putk0 3 (by omega) 2 (by omega) (n := 2) rfl
      have l2 : Bs.low 3 2 = [1, 1] := by decide
      rw [l2] at hput
      have b1 : Bs.Bits [(1 : Int), 1] := .cons (.inr rfl) (.cons (.inr rfl) .nil)
      have hput2 := putk [1, 1] b1 (by simp) (LL d : Int) (by omega) 6 (by omega) (n := 6) rfl
      have b2 := b1.append (Bs.low_bits 6 (LL d : Int))
      have hput3 := putk _ b2 (by simp [Bs.A1a]) ((SS d : Int) - 1) (by omega) 6 (by omega) (n := 6) rfl
      have b3 := b2.append (Bs.low_bits 6 ((SS d : Int) - 1))
      have hput4 := putk _ b3 (by simp [Bs.A1a]) (d / 2 ^ (64 - LL d - SS d)) (div_range d hr.1 hr.2 _) (SS d) (by omega) (n := (SS d : Int)) rfl
      refine Ev.step (fun k => by rw [A1l.j0, if_neg (by decide), e64, u1, u2]) (Ev.bind hput ?_)
      refine Ev.bind hput2 ?_
      refine Ev.bind hput3 ?_
      refine Ev.congr (fun k => by rw [if_pos (Int.natCast_nonneg _), shr_is _ _ (by omega)]) (Ev.bind hput4 ?_)
      unfold cb cl cn
      rw [if_neg h0, if_neg h0, if_neg h0, if_neg hc, if_neg hc, if_neg hc]
      exact Ev.now _
  have w1 : wrap64 ((LL d : Int) + (SS d : Int)) = ((LL d + SS d : Nat) : Int) := by rw [PBits.w64 _ (by omega)]; omega
  have w2 : wrap64 ((l : Int) + (n : Int)) = ((l + n : Nat) : Int) := by rw [PBits.w64 _ (by omega)]; omega
  by_cases c1 : 0 < n
  · by_cases c2 : l ≤ LL d
    · refine Ev.congr (fun k => ?_) (main (decide (wrap64 ((LL d : Int) + (SS d : Int)) ≤ wrap64 ((l : Int) + (n : Int)))) ?_)
      · unfold A1l.f
        rw [hd, if_neg h0, ew]
        simp only [Option.bind_some]
        rw [if_pos (by omega), if_pos (by omega)]
      · rw [w1, w2]
        congr 1
        exact propext ⟨fun h => ⟨c1, c2, by omega⟩, fun h => by omega⟩
    · refine Ev.congr (fun k => ?_) (main false ?_)
      · unfold A1l.f
        rw [hd, if_neg h0, ew]
        simp only [Option.bind_some]
        rw [if_pos (by omega), if_neg (by omega)]
      · exact (decide_eq_false (by omega)).symm
  · refine Ev.congr (fun k => ?_) (main false ?_)
    · unfold A1l.f
      rw [hd, if_neg h0, ew]
      simp only [Option.bind_some]
      rw [if_neg (by omega)]
    · exact (decide_eq_false (by omega)).symm
end Go.Proofs.YtiahbcaoikoogabDoor.PXor
end
section
namespace Go.Proofs.YtiahbcaoikoogabDoor.PDod
open Go Go.RowKit Go.Proofs.YtiahbcaoikoogabDoor Go.Proofs.YtiahbcaoikoogabDoor.All Go.Proofs.YtiahbcaoikoogabDoorW.PrintWords Go.Proofs.YtiahbcaoikoogabDoorW.PrintLast
set_option linter.unusedVariables false
set_option linter.unusedSimpArgs false
def restL (L : List Int) (a : Int) : List Int := if a < 0 ∨ a > (L.length : Int) then [] else L.drop a.toNat
theorem restL_bits {L : List Int} (hL : Bs.Bits L) (a : Int) : Bs.Bits (restL L a) := by
 unfold restL
 split
 ·exact Bs.Bits.nil
 ·exact hL.drop _
end Go.Proofs.YtiahbcaoikoogabDoor.PDod
end
