-- copied by a program of the session
import Derived.Lib.ItoaNum
import Derived.Test.YtiahbcaoikoogaaDoorKtAllx31
import Derived.Test.YtiahbcaoikoogaaDoorKtPBits3
section
namespace Go.Proofs.YtiahbcaoikoogaaDoor.PXor
open Go Go.RowKit Go.Proofs.YtiahbcaoikoogaaDoor Go.Proofs.YtiahbcaoikoogaaDoor.All Go.Proofs.YtiahbcaoikoogaaDoorW.PrintWords Go.Proofs.YtiahbcaoikoogaaDoorW.PrintLast
set_option linter.unusedVariables false
set_option linter.unusedSimpArgs false
def LL (d : Int) : Nat := 64 - Lib.bitLen d.toNat
def SS (d : Int) : Nat := Lib.bitLen d.toNat - Lib.ctz 64 d.toNat
structure Win (d : Int) : Prop where
 lt : LL d < 64
 pos : 1 ≤ SS d
 le : LL d + SS d ≤ 64
 hi : d < 2 ^ (64 - LL d)
 top : d / 2 ^ (63 - LL d) = 1
 mul : d = (d / 2 ^ (64 - LL d - SS d)) * 2 ^ (64 - LL d - SS d)
 odd : d / 2 ^ (64 - LL d - SS d) % 2 = 1
theorem win (d : Int) (h0 : 0 < d) (h1 : d < 18446744073709551616) : Win d := by
 obtain ⟨x, rfl⟩ := Int.eq_ofNat_of_zero_le (Int.le_of_lt h0)
 have hx0 : x ≠ 0 := by omega
 have hx : x < 2 ^ 64 := by omega
 obtain ⟨b1, b2, b3⟩ := Lib.bitLenAux_bounds 64 x hx hx0
 have b4 := Lib.bitLen_le x 64 (by omega) hx
 obtain ⟨m, hm, hk⟩ := Lib.ctzFrom_spec 64 x (by omega) hx
 have e : Lib.ctz 64 x = Lib.ctzFrom 64 x := by simp [Lib.ctz, hx0]
 have en : Lib.bitLen x = Lib.bitLenAux 64 x := rfl
 have hlt : Lib.ctzFrom 64 x < Lib.bitLenAux 64 x := by
  apply Nat.lt_of_not_le
  intro hle
  have h2 : 2 ^ Lib.bitLenAux 64 x ≤ 2 ^ Lib.ctzFrom 64 x := Nat.pow_le_pow_right (by decide) hle
  have h3 : 2 ^ Lib.ctzFrom 64 x ≤ x := by
   conv => rhs; rw [hm]
   exact Nat.le_mul_of_pos_right _ (by omega)
  omega
 have eL : LL (x : Int) = 64 - Lib.bitLenAux 64 x := by unfold LL; rw [Int.toNat_natCast, en]
 have eS : SS (x : Int) = Lib.bitLenAux 64 x - Lib.ctzFrom 64 x := by unfold SS; rw [Int.toNat_natCast, en, e]
 rw [en] at b4
 generalize hn : Lib.bitLenAux 64 x = n at *
 generalize ht : Lib.ctzFrom 64 x = t at *
 have q1 : 64 - LL (x : Int) = n := by omega
 have q2 : 63 - LL (x : Int) = n - 1 := by omega
 have q3 : 64 - LL (x : Int) - SS (x : Int) = t := by omega
 have hp : 0 < 2 ^ t := Nat.two_pow_pos t
 have hd : x / 2 ^ t = 2 * m + 1 := by rw [hm, Nat.mul_div_cancel_left _ hp]
 have hcast : ∀ j : Nat, ((x : Int) / 2 ^ j) = ((x / 2 ^ j : Nat) : Int) := fun j => by simp
 refine ⟨by omega, by omega, by omega, ?_, ?_, ?_, ?_⟩
 ·rw [q1]; exact_mod_cast b3
 ·rw [q2, hcast]
  have : x / 2 ^ (n - 1) = 1 := by
   have h5 : 2 ^ n = 2 * 2 ^ (n - 1) := by
    conv => lhs; rw [show n = (n - 1) + 1 from by omega]
    rw [Nat.pow_succ]; omega
   exact Nat.div_eq_of_lt_le (by omega) (by omega)
  rw [this]; rfl
 ·rw [q3, hcast, hd]
  have : x = (2 * m + 1) * 2 ^ t := by rw [Nat.mul_comm]; exact hm
  exact_mod_cast this
 ·rw [q3, hcast, hd]; omega
def cb (l n : Nat) (d : Int) : List Int :=
 if d = 0 then [0]
 else if 0 < n ∧ l ≤ LL d ∧ LL d + SS d ≤ l + n then [1, 0] ++ Bs.low (d / 2 ^ (64 - l - n)) n
 else [1, 1] ++ Bs.low (LL d) 6 ++ Bs.low ((SS d : Int) - 1) 6 ++ Bs.low (d / 2 ^ (64 - LL d - SS d)) (SS d)
def cl (l n : Nat) (d : Int) : Nat := if d = 0 then l else if 0 < n ∧ l ≤ LL d ∧ LL d + SS d ≤ l + n then l else LL d
def cn (l n : Nat) (d : Int) : Nat := if d = 0 then n else if 0 < n ∧ l ≤ LL d ∧ LL d + SS d ≤ l + n then n else SS d
theorem cb_bits (l n : Nat) (d : Int) : Bs.Bits (cb l n d) := by
 have h : Bs.Bits [(1 : Int), 0] := .cons (.inr rfl) (.cons (.inl rfl) .nil)
 have h' : Bs.Bits [(1 : Int), 1] := .cons (.inr rfl) (.cons (.inr rfl) .nil)
 unfold cb
 split
 ·exact .cons (.inl rfl) .nil
 ·split
  ·exact h.append (Bs.A39 _ _)
  ·exact ((h'.append (Bs.A39 _ _)).append (Bs.A39 _ _)).append (Bs.A39 _ _)
theorem cb_length (l n : Nat) (d : Int) : (cb l n d).length = if d = 0 then 1 else if 0 < n ∧ l ≤ LL d ∧ LL d + SS d ≤ l + n then 2 + n else 14 + SS d := by
 unfold cb
 split
 ·rfl
 ·split
  ·simp only [List.length_append, List.length_cons, List.length_nil, Bs.A1f]
  ·simp only [List.length_append, List.length_cons, List.length_nil, Bs.A1f]
theorem cb_ok (l n : Nat) (d : Int) (h : l + n ≤ 64) (h0 : 0 ≤ d) (h1 : d < 18446744073709551616) : cl l n d + cn l n d ≤ 64 := by
 unfold cl cn
 by_cases hd : d = 0
 ·rw [if_pos hd, if_pos hd]; exact h
 ·rw [if_neg hd, if_neg hd]
  split
  ·exact h
  ·exact (win d (by omega) h1).le
theorem SS_le (d : Int) (h0 : 0 < d) (h1 : d < 18446744073709551616) : SS d ≤ 64 := by have := (win d h0 h1).le; omega
theorem cb_short (l n : Nat) (d : Int) (h : l + n ≤ 64) (h0 : 0 ≤ d) (h1 : d < 18446744073709551616) : 1 ≤ (cb l n d).length ∧ (cb l n d).length ≤ 78 := by
 rw [cb_length]
 by_cases hd : d = 0
 ·rw [if_pos hd]; omega
 ·rw [if_neg hd]
  have := SS_le d (by omega) h1
  split <;> omega
theorem A37 (a b : Int) (ha : 0 ≤ a ∧ a < 18446744073709551616) (hb : 0 ≤ b ∧ b < 18446744073709551616) : 0 ≤ Go.bits .xor .u64 a b ∧ Go.bits .xor .u64 a b < 18446744073709551616 := by
 rw [Ib.xor_u64 a b ha hb]
 have := Nat.xor_lt_two_pow (x := a.toNat) (y := b.toNat) (n := 64) (by omega) (by omega)
 omega
theorem xor_back (p x : Int) (hp : 0 ≤ p ∧ p < 18446744073709551616) (hx : 0 ≤ x ∧ x < 18446744073709551616) : Go.bits .xor .u64 (Go.bits .xor .u64 p x) p = x := by
 have hr := A37 p x hp hx
 rw [Ib.xor_u64 _ p hr hp, Ib.xor_u64 p x hp hx, Int.toNat_natCast, Nat.xor_comm p.toNat, Nat.xor_assoc, Nat.xor_self, Nat.xor_zero]
 omega
theorem xor_comm (a b : Int) (ha : 0 ≤ a ∧ a < 18446744073709551616) (hb : 0 ≤ b ∧ b < 18446744073709551616) : Go.bits .xor .u64 a b = Go.bits .xor .u64 b a := by
 rw [Ib.xor_u64 a b ha hb, Ib.xor_u64 b a hb ha, Nat.xor_comm]
theorem window_is (d : Int) (h0 : 0 < d) (h1 : d < 18446744073709551616) : xor_window.f d = some ((LL d : Int), (SS d : Int)) := by
 have hw := win d h0 h1
 have b4 : Lib.bitLen d.toNat ≤ 64 := Lib.bitLen_le d.toNat 64 (by omega) (by omega)
 have b5 := hw.lt
 have b6 := hw.pos
 unfold xor_window.f bits_LeadingZeros64.f bits_TrailingZeros64.f
 rw [if_pos (by omega)]
 simp only [Option.bind_some]
 rw [if_pos (by omega)]
 simp only [Option.bind_some]
 unfold LL SS at *
 have e1 : wrap64 (64 - (64 - (Lib.bitLen d.toNat : Int))) = (Lib.bitLen d.toNat : Int) := by rw [PBits.w64 _ (by omega)]; omega
 rw [e1, PBits.w64 _ (by omega)]
 congr 2
 ·omega
 ·omega
theorem shr_is (x : Int) (s : Nat) (h : s ≤ 64) : shr .u64 x (s : Int) = x / 2 ^ s := by
 unfold shr
 simp only [Int.toNat_natCast]
 rw [show min s IntKind.u64.bits = s from Nat.min_eq_left h]
theorem putk (l : List Int) (hl : Bs.Bits l) (hlen : l.length ≤ 1000) (v : Int) (hv : 0 ≤ v ∧ v < 18446744073709551616) (m : Nat) (hm : m ≤ 64) {n : Int} (hn : n = (m : Int)) :
    Ev (fun k => A0t.f k (Bs.pack l) (l.length : Int) v n) (Bs.pack (l ++ Bs.low v m), ((l ++ Bs.low v m).length : Int)) := by
  have h := PBits.Put_is l hl (by omega) v hv n
  rw [if_neg (by omega)] at h
  subst hn
  rw [Int.toNat_natCast] at h
  rw [List.length_append, Bs.A1f]
  exact h
theorem putk0 (v : Int) (hv : 0 ≤ v ∧ v < 18446744073709551616) (m : Nat) (hm : m ≤ 64) {n : Int} (hn : n = (m : Int)) :
    Ev (fun k => A0t.f k [] 0 v n) (Bs.pack (Bs.low v m), ((Bs.low v m).length : Int)) := by
  have := putk [] .nil (by simp) v hv m hm hn
  simp only [List.nil_append, Bs.pack_nil] at this
  exact this
theorem div_range (d : Int) (h0 : 0 ≤ d) (h1 : d < 18446744073709551616) (s : Nat) : 0 ≤ d / 2 ^ s ∧ d / 2 ^ s < 18446744073709551616 := by
 have hp : (0 : Int) < 2 ^ s := Bs.pow_pos s
 refine ⟨Int.ediv_nonneg h0 (Int.le_of_lt hp), Int.lt_of_le_of_lt (Int.ediv_le_self _ h0) h1⟩
theorem Code_is (p v : Int) (l n : Nat) (hp : 0 ≤ p ∧ p < 18446744073709551616) (hv : 0 ≤ v ∧ v < 18446744073709551616) (hln : l + n ≤ 64) {d : Int} (hd : Go.bits .xor .u64 v p = d) :
    Ev (fun k => A1n.f k p (l : Int) (n : Int) v) (Bs.pack (cb l n d), ((cb l n d).length : Int), v, (cl l n d : Int), (cn l n d : Int)) := by
  have hr := A37 v p hv hp
  rw [hd] at hr
  by_cases h0 : d = 0
  · subst h0
    have := putk0 0 (by omega) 1 (by omega) (n := 1) rfl
    refine Ev.congr (fun k => by unfold A1n.f; rw [hd, if_pos rfl]) (Ev.bind this ?_)
    unfold cb cl cn
    simp only [if_true]
    exact Ev.now _
  have hw := win d (by omega) hr.2
  have hs := SS_le d (by omega) hr.2
  have g1 := hw.lt
  have g2 := hw.pos
  have g3 := hw.le
  have ew := window_is d (by omega) hr.2
  have main : ∀ b : Bool, b = decide (0 < n ∧ l ≤ LL d ∧ LL d + SS d ≤ l + n) → Ev (fun k => A1n.j0 k d (LL d : Int) (SS d : Int) b v (l : Int) (n : Int)) (Bs.pack (cb l n d), ((cb l n d).length : Int), v, (cl l n d : Int), (cn l n d : Int)) := by
    intro b hb
    by_cases hc : 0 < n ∧ l ≤ LL d ∧ LL d + SS d ≤ l + n
    · have hb' : b = true := by rw [hb]; exact decide_eq_true hc
      subst hb'
      have e64 : wrap64 (wrap64 (64 - (l : Int)) - (n : Int)) = ((64 - l - n : Nat) : Int) := by rw [PBits.w64 (64 - (l : Int)) (by omega), PBits.w64 _ (by omega)]; omega
      have hput := putk0 2 (by omega) 2 (by omega) (n := 2) rfl
      have l2 : Bs.low 2 2 = [1, 0] := by decide
      rw [l2] at hput
      have hput2 := putk [1, 0] (.cons (.inr rfl) (.cons (.inl rfl) .nil)) (by simp) (d / 2 ^ (64 - l - n)) (div_range d hr.1 hr.2 _) n (by omega) (n := (n : Int)) rfl
      refine Ev.step (fun k => by rw [A1n.j0, if_pos rfl, e64]) (Ev.bind hput ?_)
      refine Ev.congr (fun k => by rw [if_pos (Int.natCast_nonneg _), shr_is _ _ (by omega)]) (Ev.bind hput2 ?_)
      unfold cb cl cn
      rw [if_neg h0, if_neg h0, if_neg h0, if_pos hc, if_pos hc, if_pos hc]
      exact Ev.now _
    · have hb' : b = false := by rw [hb]; exact decide_eq_false hc
      subst hb'
      have e64 : wrap64 (wrap64 (64 - (LL d : Int)) - (SS d : Int)) = ((64 - LL d - SS d : Nat) : Int) := by rw [PBits.w64 (64 - (LL d : Int)) (by omega), PBits.w64 _ (by omega)]; omega
      have u1 : IntKind.u64.wrap ((LL d : Int)) = (LL d : Int) := by rw [Ib.wrap_u64]; omega
      have u2 : IntKind.u64.wrap (wrap64 ((SS d : Int) - 1)) = (SS d : Int) - 1 := by rw [PBits.w64 _ (by omega), Ib.wrap_u64]; omega
      have hput := putk0 3 (by omega) 2 (by omega) (n := 2) rfl
      have l2 : Bs.low 3 2 = [1, 1] := by decide
      rw [l2] at hput
      have b1 : Bs.Bits [(1 : Int), 1] := .cons (.inr rfl) (.cons (.inr rfl) .nil)
      have hput2 := putk [1, 1] b1 (by simp) (LL d : Int) (by omega) 6 (by omega) (n := 6) rfl
      have b2 := b1.append (Bs.A39 6 (LL d : Int))
      have hput3 := putk _ b2 (by simp [Bs.A1f]) ((SS d : Int) - 1) (by omega) 6 (by omega) (n := 6) rfl
      have b3 := b2.append (Bs.A39 6 ((SS d : Int) - 1))
      have hput4 := putk _ b3 (by simp [Bs.A1f]) (d / 2 ^ (64 - LL d - SS d)) (div_range d hr.1 hr.2 _) (SS d) (by omega) (n := (SS d : Int)) rfl
      refine Ev.step (fun k => by rw [A1n.j0, if_neg (by decide), e64, u1, u2]) (Ev.bind hput ?_)
      refine Ev.bind hput2 ?_
      refine Ev.bind hput3 ?_
      refine Ev.congr (fun k => by rw [if_pos (Int.natCast_nonneg _), shr_is _ _ (by omega)]) (Ev.bind hput4 ?_)
      unfold cb cl cn
      rw [if_neg h0, if_neg h0, if_neg h0, if_neg hc, if_neg hc, if_neg hc]
      exact Ev.now _
  have w1 : wrap64 ((LL d : Int) + (SS d : Int)) = ((LL d + SS d : Nat) : Int) := by rw [PBits.w64 _ (by omega)]; omega
  have w2 : wrap64 ((l : Int) + (n : Int)) = ((l + n : Nat) : Int) := by rw [PBits.w64 _ (by omega)]; omega
  by_cases c1 : 0 < n
  · by_cases c2 : l ≤ LL d
    · refine Ev.congr (fun k => ?_) (main (decide (wrap64 ((LL d : Int) + (SS d : Int)) ≤ wrap64 ((l : Int) + (n : Int)))) ?_)
      · unfold A1n.f
        rw [hd, if_neg h0, ew]
        simp only [Option.bind_some]
        rw [if_pos (by omega), if_pos (by omega)]
      · rw [w1, w2]
        congr 1
        exact propext ⟨fun h => ⟨c1, c2, by omega⟩, fun h => by omega⟩
    · refine Ev.congr (fun k => ?_) (main false ?_)
      · unfold A1n.f
        rw [hd, if_neg h0, ew]
        simp only [Option.bind_some]
        rw [if_pos (by omega), if_neg (by omega)]
      · exact (decide_eq_false (by omega)).symm
  · refine Ev.congr (fun k => ?_) (main false ?_)
    · unfold A1n.f
      rw [hd, if_neg h0, ew]
      simp only [Option.bind_some]
      rw [if_neg (by omega)]
    · exact (decide_eq_false (by omega)).symm
theorem low_drop (v : Int) (l n m : Nat) : ((Bs.low v (l + n + m)).take (l + n)).drop l = Bs.low (v / 2 ^ m) n := by
 rw [Bs.low_append m (l + n) v, List.take_append_of_le_length (Nat.le_of_eq (Bs.A1f ..).symm), List.take_of_length_le (Nat.le_of_eq (Bs.A1f ..)), Bs.low_append n l (v / 2 ^ m), List.drop_append_of_le_length (Nat.le_of_eq (Bs.A1f ..).symm), List.drop_of_length_le (Nat.le_of_eq (Bs.A1f ..)), List.nil_append]
theorem low_cut (d : Int) (l n : Nat) (h : l + n ≤ 64) : ((Bs.low d 64).take (l + n)).drop l = Bs.low (d / 2 ^ (64 - l - n)) n := by
 have := low_drop d l n (64 - l - n)
 rw [show l + n + (64 - l - n) = 64 from by omega] at this
 exact this
theorem low64_at (d : Int) (j : Nat) (h : j < 64) : rd (Bs.low d 64) (j : Int) = d / 2 ^ (63 - j) % 2 := by
 rw [PBits.rd_at _ _ (by rw [Bs.A1f]; exact h), PBits.low_at]
theorem bit_before (d : Int) (hw : Win d) (h0 : 0 < d) (j : Nat) (h : j < LL d) : d / 2 ^ (63 - j) % 2 = 0 := by
 have h1 := hw.lt
 have h2 := hw.hi
 have h3 : (2 : Int) ^ (64 - LL d) ≤ 2 ^ (63 - j) := PBits.pow_le (by omega)
 rw [Int.ediv_eq_zero_of_lt (by omega) (by omega)]
 rfl
theorem bit_first (d : Int) (hw : Win d) : d / 2 ^ (63 - LL d) % 2 = 1 := by rw [hw.top]; rfl
theorem bit_last (d : Int) (hw : Win d) : d / 2 ^ (63 - (LL d + SS d - 1)) % 2 = 1 := by
 have h1 := hw.pos
 have h2 := hw.le
 rw [show 63 - (LL d + SS d - 1) = 64 - LL d - SS d from by omega]
 exact hw.odd
theorem bit_behind (d : Int) (hw : Win d) (j : Nat) (h : LL d + SS d ≤ j) (h64 : j < 64) : d / 2 ^ (63 - j) % 2 = 0 := by
 have h1 := hw.pos
 have h2 := hw.le
 have hm := hw.mul
 generalize d / 2 ^ (64 - LL d - SS d) = q at hm
 have e : 64 - LL d - SS d = (63 - j) + (j - (LL d + SS d)) + 1 := by omega
 rw [hm, e, Int.pow_add, Int.pow_add, show q * (2 ^ (63 - j) * 2 ^ (j - (LL d + SS d)) * 2 ^ 1) = (q * 2 ^ (j - (LL d + SS d)) * 2) * 2 ^ (63 - j) from by
  rw [show (2 : Int) ^ 1 = 2 from rfl, Int.mul_assoc (2 ^ (63 - j)), Int.mul_comm (2 ^ (63 - j)), ← Int.mul_assoc, ← Int.mul_assoc]]
 rw [Int.mul_ediv_cancel _ (Int.ne_of_gt (Bs.pow_pos _))]
 omega
def Sc (d : Int) (i : Nat) (f l : Int) : Prop :=
 (i ≤ LL d ∧ f = -1 ∧ l = -1) ∨ (LL d < i ∧ f = (LL d : Int) ∧ ∃ z : Nat, l = (z : Int) ∧ z < i ∧ d / 2 ^ (63 - z) % 2 = 1 ∧ ∀ j, z < j → j < i → d / 2 ^ (63 - j) % 2 = 0)
theorem Code_l0 (d : Int) (hw : Win d) (h0 : 0 < d) (v p : Int) (a b : Int) (R : List Int × Int × Int × Int)
    (hend : Ev (fun k => A0m.l0 k v (Bs.low d 64) (LL d : Int) ((LL d + SS d - 1 : Nat) : Int) 64 p a b) R) :
    ∀ (e i : Nat) (f l : Int), i + e = 64 → Sc d i f l → Ev (fun k => A0m.l0 k v (Bs.low d 64) f l (i : Int) p a b) R := by
  intro e
  have g1 := hw.lt
  have g2 := hw.pos
  have g3 := hw.le
  induction e with
  | zero =>
    intro i f l hi hs
    obtain rfl : i = 64 := by omega
    rcases hs with ⟨h, _, _⟩ | ⟨h1, rfl, z, rfl, hz1, hz2, hz3⟩
    · omega
    · obtain rfl : z = LL d + SS d - 1 := by
        rcases Nat.lt_trichotomy z (LL d + SS d - 1) with h | h | h
        · have := hz3 (LL d + SS d - 1) h (by omega)
          rw [bit_last d hw] at this
          omega
        · exact h
        · have := bit_behind d hw z (by omega) hz1
          omega
      exact hend
  | succ e ih =>
    intro i f l hi hs
    have hi1 : (i : Int) < 64 := by omega
    have hwr : wrap64 ((i : Int) + 1) = ((i + 1 : Nat) : Int) := by rw [PBits.w64 _ (by omega)]; omega
    have hlen : (i : Int) < ((Bs.low d 64).length : Int) := by rw [Bs.A1f]; omega
    have hrd := low64_at d i (by omega)
    by_cases hb : d / 2 ^ (63 - i) % 2 = 1
    · have hge : LL d ≤ i := by
        apply Nat.le_of_not_lt
        intro hlt
        have := bit_before d hw h0 i hlt
        omega
      rcases hs with ⟨h, rfl, rfl⟩ | ⟨h1, rfl, z, rfl, hz1, hz2, hz3⟩
      · obtain rfl : i = LL d := by omega
        refine Ev.step (fun k => ?_) (ih (LL d + 1) (LL d : Int) (LL d : Int) (by omega) (.inr ⟨by omega, rfl, LL d, rfl, by omega, hb, fun j h1 h2 => by omega⟩))
        rw [A0m.l0, if_pos hi1, if_pos (Int.natCast_nonneg _), if_pos hlen, hrd, if_pos hb, if_pos (by decide), hwr]
      · refine Ev.step (fun k => ?_) (ih (i + 1) (LL d : Int) (i : Int) (by omega) (.inr ⟨by omega, rfl, i, rfl, by omega, hb, fun j h1 h2 => by omega⟩))
        rw [A0m.l0, if_pos hi1, if_pos (Int.natCast_nonneg _), if_pos hlen, hrd, if_pos hb, if_neg (by omega), hwr]
    · have hb0 : d / 2 ^ (63 - i) % 2 = 0 := by omega
      refine Ev.step (fun k => ?_) (ih (i + 1) f l (by omega) ?_)
      · rw [A0m.l0, if_pos hi1, if_pos (Int.natCast_nonneg _), if_pos hlen, hrd, if_neg hb, hwr]
      · rcases hs with ⟨h, h2, h3⟩ | ⟨h1, h2, z, h3, hz1, hz2, hz3⟩
        · refine .inl ⟨?_, h2, h3⟩
          have : i ≠ LL d := by
            rintro rfl
            exact hb (bit_first d hw)
          omega
        · refine .inr ⟨by omega, h2, z, h3, by omega, hz2, fun j h5 h6 => ?_⟩
          by_cases hj : j = i
          · subst hj; exact hb0
          · exact hz3 j h5 (by omega)
theorem Code_zero (v p a b : Int) (R : List Int × Int × Int × Int) (hend : Ev (fun k => A0m.l0 k v (Bs.low 0 64) (-1) (-1) 64 p a b) R) :
    ∀ (e i : Nat), i + e = 64 → Ev (fun k => A0m.l0 k v (Bs.low 0 64) (-1) (-1) (i : Int) p a b) R := by
  intro e
  induction e with
  | zero => intro i hi; obtain rfl : i = 64 := by omega
            exact hend
  | succ e ih =>
    intro i hi
    have hi1 : (i : Int) < 64 := by omega
    have hwr : wrap64 ((i : Int) + 1) = ((i + 1 : Nat) : Int) := by rw [PBits.w64 _ (by omega)]; omega
    have hlen : (i : Int) < ((Bs.low 0 64).length : Int) := by rw [Bs.A1f]; omega
    refine Ev.step (fun k => ?_) (ih (i + 1) (by omega))
    rw [A0m.l0, if_pos hi1, if_pos (Int.natCast_nonneg _), if_pos hlen, low64_at 0 i (by omega), Int.zero_ediv, if_neg (by decide), hwr]
theorem lt47 (a b : List Int) (h : a.length + b.length ≤ 1000) : a.length + b.length < 140737488355328 := by omega
theorem RCode_j1 (D : List Int) (hD : D.length = 64) (L S l n : Nat) (hL : L < 64) (hS : 1 ≤ S) (hLS : L + S ≤ 64) (hln : l + n ≤ 64) (v p : Int) (b : Bool) :
    Ev (fun k => A0m.j1 k D (L : Int) ((L + S - 1 : Nat) : Int) b p (l : Int) (n : Int) v (l : Int) (n : Int))
      (if b = true then ([1, 0] ++ (D.take (l + n)).drop l, v, (l : Int), (n : Int)) else ([1, 1] ++ Bs.low (L : Int) 6 ++ Bs.low ((S : Int) - 1) 6 ++ (D.take (L + S)).drop L, v, (L : Int), (S : Int))) := by
  cases b
  · have u1 : IntKind.u64.wrap (L : Int) = (L : Int) := by rw [Ib.wrap_u64]; omega
    have w3 : wrap64 (wrap64 (((L + S - 1 : Nat) : Int) - (L : Int)) + 1) = (S : Int) := by rw [PBits.w64 (((L + S - 1 : Nat) : Int) - (L : Int)) (by omega), PBits.w64 _ (by omega)]; omega
    have u2 : IntKind.u64.wrap (wrap64 ((S : Int) - 1)) = (S : Int) - 1 := by rw [PBits.w64 _ (by omega), Ib.wrap_u64]; omega
    have w4 : wrap64 (((L + S - 1 : Nat) : Int) + 1) = ((L + S : Nat) : Int) := by rw [PBits.w64 _ (by omega)]; omega
    have e1 := PBits.Low_is (L : Int) 6 (by omega) (by decide)
    have e2 := PBits.Low_is ((S : Int) - 1) 6 (by omega) (by decide)
    have k6 : (6 : Int).toNat = 6 := rfl
    rw [k6] at e1 e2
    refine Ev.step (fun k => by rw [A0m.j1, if_neg (by decide), w3, u1, u2, w4, Option.bind_some]) (Ev.bind e1 ?_)
    refine Ev.congr (fun k => by simp only [Option.bind_some]; rw [if_pos (lt47 _ _ (by simp only [List.length_cons, List.length_nil, Bs.A1f]; omega))]) ?_
    refine Ev.bind e2 ?_
    refine Ev.congr (fun k => ?_) (Ev.now _)
    rw [if_pos (lt47 _ _ (by simp only [List.length_append, List.length_cons, List.length_nil, Bs.A1f]; omega)), if_pos (Int.natCast_nonneg _), if_pos (by omega), if_pos (by omega)]
    simp only [Int.toNat_natCast]
    rw [if_pos (lt47 _ _ (by simp only [List.length_append, List.length_cons, List.length_nil, Bs.A1f, List.length_drop, List.length_take]; omega))]
    rfl
  · have w2 : wrap64 ((l : Int) + (n : Int)) = ((l + n : Nat) : Int) := by rw [PBits.w64 _ (by omega)]; omega
    rw [if_pos rfl]
    refine Ev.step (fun k => by rw [A0m.j1, if_pos rfl, Option.bind_some, if_pos (Int.natCast_nonneg _), w2, if_pos (by omega), if_pos (by omega), Option.bind_some, if_pos (lt47 _ _ (by simp only [List.length_cons, List.length_nil, List.length_drop, List.length_take]; omega))]) ?_
    simp only [Int.toNat_natCast]
    exact Ev.now _
theorem RCode_is (p v : Int) (l n : Nat) (hp : 0 ≤ p ∧ p < 18446744073709551616) (hv : 0 ≤ v ∧ v < 18446744073709551616) (hln : l + n ≤ 64) {d : Int} (hd : Go.bits .xor .u64 v p = d) :
    Ev (fun k => A0m.f k p (l : Int) (n : Int) v) (cb l n d, v, (cl l n d : Int), (cn l n d : Int)) := by
  have hr := A37 v p hv hp
  rw [hd] at hr
  refine Ev.congr (fun k => by unfold A0m.f; rw [hd]) (Ev.bind (PBits.Low_is d 64 hr (by omega)) ?_)
  show Ev (fun k => A0m.l0 k v (Bs.low d 64) (-1) (-1) ((0 : Nat) : Int) p (l : Int) (n : Int)) _
  by_cases h0 : d = 0
  · subst h0
    refine Code_zero v p l n _ ?_ 64 0 (by omega)
    refine Ev.step (g := fun k => _) (fun k => by rw [A0m.l0, if_neg (by decide), if_pos (by decide)]) ?_
    unfold cb cl cn
    simp only [if_true]
    exact Ev.now _
  have hw := win d (by omega) hr.2
  have hs := SS_le d (by omega) hr.2
  have g1 := hw.lt
  have g2 := hw.pos
  have g3 := hw.le
  refine Code_l0 d hw (by omega) v p l n _ ?_ 64 0 (-1) (-1) (by omega) (.inl ⟨Nat.zero_le _, rfl, rfl⟩)
  have main : ∀ b : Bool, b = decide (0 < n ∧ l ≤ LL d ∧ LL d + SS d ≤ l + n) → Ev (fun k => A0m.j1 k (Bs.low d 64) (LL d : Int) ((LL d + SS d - 1 : Nat) : Int) b p (l : Int) (n : Int) v (l : Int) (n : Int)) (cb l n d, v, (cl l n d : Int), (cn l n d : Int)) := by
    intro b hb
    have h := RCode_j1 (Bs.low d 64) (Bs.A1f _ _) (LL d) (SS d) l n g1 g2 g3 hln v p b
    rw [low_cut d l n hln, low_cut d (LL d) (SS d) g3] at h
    unfold cb cl cn
    rw [if_neg h0, if_neg h0, if_neg h0]
    by_cases hc : 0 < n ∧ l ≤ LL d ∧ LL d + SS d ≤ l + n
    · rw [if_pos (by rw [hb]; exact decide_eq_true hc)] at h
      rw [if_pos hc, if_pos hc, if_pos hc]
      exact h
    · rw [if_neg (by rw [hb, decide_eq_false hc]; decide)] at h
      rw [if_neg hc, if_neg hc, if_neg hc]
      exact h
  have w2 : wrap64 ((l : Int) + (n : Int)) = ((l + n : Nat) : Int) := by rw [PBits.w64 _ (by omega)]; omega
  by_cases c1 : 0 < n
  · by_cases c2 : l ≤ LL d
    · have hm := main (decide (((LL d + SS d - 1 : Nat) : Int) < wrap64 ((l : Int) + (n : Int)))) ?_
      refine Ev.step (fun k => ?_) hm
      · rw [A0m.l0, if_neg (by decide), if_neg (by omega), if_pos (by omega), if_pos (by omega)]
      · rw [w2]
        congr 1
        exact propext ⟨fun h => ⟨c1, c2, by omega⟩, fun h => by omega⟩
    · refine Ev.step (g := fun k => _) (fun k => ?_) (main false ?_)
      · rw [A0m.l0, if_neg (by decide), if_neg (by omega), if_pos (by omega), if_neg (by omega)]
      · exact (decide_eq_false (by omega)).symm
  · refine Ev.step (g := fun k => _) (fun k => ?_) (main false ?_)
    · rw [A0m.l0, if_neg (by decide), if_neg (by omega), if_neg (by omega)]
    · exact (decide_eq_false (by omega)).symm
end Go.Proofs.YtiahbcaoikoogaaDoor.PXor
end
section
namespace Go.Proofs.YtiahbcaoikoogaaDoor.PKinds
open Go Go.RowKit Go.Proofs.YtiahbcaoikoogaaDoor Go.Proofs.YtiahbcaoikoogaaDoor.All Go.Proofs.YtiahbcaoikoogaaDoorW.PrintWords Go.Proofs.YtiahbcaoikoogaaDoorW.PrintLast
set_option linter.unusedVariables false
set_option linter.unusedSimpArgs false
def z8 : S8 := (0, 0, 0, 0, 0, 0, 0, 0)
def dt (t d T : Int) : Int := wrap64 (wrap64 (T - t) - d)
def dv (v e V : Int) : Int := wrap64 (IntKind.u64.wrap (IntKind.u64.wrap (V - v) - e))
abbrev dx (V xp : Int) : Int := Go.bits .xor .u64 V xp
def kp (kind n t d v e xp : Int) (xl xn : Nat) (T V : Int) : List Int × S8 × Int :=
 if ¬ (kind = 1 ∨ kind = 2) then ([], z8, 6)
 else if n = 0 then (Bs.low (IntKind.u64.wrap T) 64 ++ Bs.low V 64, aft kind n t d v e xp xl xn T V 0 0 0, 0)
 else if T ≤ t then ([], z8, 4)
 else if kind = 2 then (PDod.dodL (dt t d T) ++ PDod.dodL (dv v e V), aft kind n t d v e xp xl xn T V 0 0 0, 0)
 else (PDod.dodL (dt t d T) ++ PXor.cb xl xn (dx V xp), aft kind n t d v e xp xl xn T V V (PXor.cl xl xn (dx V xp)) (PXor.cn xl xn (dx V xp)), 0)
def pimp (r : List Int × S8 × Int) : List Int × Int × Int × Int × Int × Int × Int × Int × Int × Int × Option Int :=
 (Bs.pack r.1, (r.1.length : Int), r.2.1.1, r.2.1.2.1, r.2.1.2.2.1, r.2.1.2.2.2.1, r.2.1.2.2.2.2.1, r.2.1.2.2.2.2.2.1, r.2.1.2.2.2.2.2.2.1, r.2.1.2.2.2.2.2.2.2, if r.2.2 = 0 then none else some r.2.2)
def pref (r : List Int × S8 × Int) : List Int × Int × Int × Int × Int × Int × Int × Int × Int × Int :=
 (r.1, r.2.1.1, r.2.1.2.1, r.2.1.2.2.1, r.2.1.2.2.2.1, r.2.1.2.2.2.2.1, r.2.1.2.2.2.2.2.1, r.2.1.2.2.2.2.2.2.1, r.2.1.2.2.2.2.2.2.2, r.2.2)
theorem pimp_none (c : Int) : pimp ([], z8, c) = (([] : List Int), 0, 0, 0, 0, 0, 0, 0, 0, 0, if c = 0 then none else some c) := by
 simp only [pimp, z8, Bs.pack_nil, List.length_nil]
 rfl
theorem lens (a b : Int) : (Bs.low a 64).length + (Bs.low b 64).length < 140737488355328 := by rw [Bs.A1f, Bs.A1f]; decide
theorem low64 (a : Int) (h : 0 ≤ a ∧ a < 18446744073709551616) : Ev (fun k => A00.f k a 64) (Bs.low a 64) := PBits.Low_is a 64 h (by decide)
theorem known_is (kind : Int) : A2v.f kind = some (decide (kind = 1 ∨ kind = 2)) := by
 unfold A2v.f
 by_cases c1 : kind = 1
 ·rw [if_pos c1, decide_eq_true (.inl c1)]
 ·rw [if_neg c1]
  by_cases c2 : kind = 2
  ·rw [beq_iff_eq.mpr c2, decide_eq_true (.inr c2)]
  ·rw [beq_eq_false_iff_ne.mpr c2, decide_eq_false (fun h => h.elim c1 c2)]
theorem dodL_len (v : Int) : (PDod.dodL v).length ≤ 68 := by
 have h1 := PDod.dodL_length v
 have h2 := PDod.size_le (PDod.ones v)
 omega
theorem jn (l m : List Int) (hl : Bs.Bits l) (hm : Bs.Bits m) (h : l.length + m.length ≤ 1000) : Ev (fun k => A03.f k (Bs.pack l) (l.length : Int) (Bs.pack m) (m.length : Int)) (Bs.pack (l ++ m), ((l ++ m).length : Int)) := by
 have := PBits.Join_is l m hl hm (by omega)
 rw [← List.length_append] at this
 exact this
theorem u64_range (T : Int) : 0 ≤ IntKind.u64.wrap T ∧ IntKind.u64.wrap T < 18446744073709551616 := by rw [Ib.wrap_u64]; omega
theorem Put_is (kind n t d v e xp : Int) (xl xn : Nat) (T V : Int) (hn : 0 ≤ n) (hV : 0 ≤ V ∧ V < 18446744073709551616) (hp : 0 ≤ xp ∧ xp < 18446744073709551616) (hx : xl + xn ≤ 64) :
    Ev (fun k => A1o.f k kind n t d v e xp (xl : Int) (xn : Int) T V) (pimp (kp kind n t d v e xp xl xn T V)) := by
  unfold A1o.f kp
  rw [known_is]
  simp only [Option.bind_some]
  by_cases c1 : kind = 1 ∨ kind = 2
  · have c1n : ¬ ¬ (kind = 1 ∨ kind = 2) := fun h => h c1
    rw [decide_eq_true c1, if_neg c1n]
    simp only [if_true]
    by_cases c2 : n = 0
    · have e1 := PXor.putk0 (IntKind.u64.wrap T) (u64_range T) 64 (Nat.le_refl _) (n := 64) rfl
      have e2 := PXor.putk (Bs.low (IntKind.u64.wrap T) 64) (Bs.A39 _ _) (by rw [Bs.A1f]; decide) V hV 64 (Nat.le_refl _) (n := 64) rfl
      have e3 := After_is kind n t d v e xp xl xn T V 0 0 0 hn
      simp only [if_pos c2]
      refine Ev.bind e1 (Ev.bind e2 (Ev.bind e3 ?_))
      exact Ev.now _
    simp only [if_neg c2]
    by_cases c3 : T ≤ t
    · simp only [if_pos c3]
      rw [pimp_none]
      exact Ev.now _
    simp only [if_neg c3]
    have e1 := PDod.Code_is (dt t d T)
    have b1 := PDod.dodL_bits (dt t d T)
    have n1 := dodL_len (dt t d T)
    refine Ev.bind e1 ?_
    by_cases c4 : kind = 2
    · have e2 := PDod.Code_is (dv v e V)
      have e3 := jn _ _ b1 (PDod.dodL_bits (dv v e V)) (by have := dodL_len (dv v e V); omega)
      have e4 := After_is kind n t d v e xp xl xn T V 0 0 0 hn
      simp only [if_pos c4]
      refine Ev.bind e2 (Ev.bind e3 (Ev.bind e4 ?_))
      exact Ev.now _
    · have e2 := PXor.Code_is xp V xl xn hp hV hx (d := dx V xp) rfl
      have hr := PXor.A37 V xp hV hp
      have hc := PXor.cb_short xl xn (dx V xp) hx hr.1 hr.2
      have e3 := jn _ _ b1 (PXor.cb_bits xl xn (dx V xp)) (by omega)
      have e4 := After_is kind n t d v e xp xl xn T V V (PXor.cl xl xn (dx V xp)) (PXor.cn xl xn (dx V xp)) hn
      simp only [if_neg c4]
      refine Ev.bind e2 (Ev.bind e3 (Ev.bind e4 ?_))
      exact Ev.now _
  · rw [decide_eq_false c1, if_pos c1, pimp_none]
    exact Ev.congr (fun k => if_neg Bool.false_ne_true) (Ev.now _)
theorem RPut_is (kind n t d v e xp : Int) (xl xn : Nat) (T V : Int) (hn : 0 ≤ n) (hV : 0 ≤ V ∧ V < 18446744073709551616) (hp : 0 ≤ xp ∧ xp < 18446744073709551616) (hx : xl + xn ≤ 64) :
    Ev (fun k => A0l.f k kind n t d v e xp (xl : Int) (xn : Int) T V) (pref (kp kind n t d v e xp xl xn T V)) := by
  have main : ∀ b : Bool, b = decide (¬ (kind = 1 ∨ kind = 2)) → Ev (fun k => A0l.j0 k kind b n t d v e xp (xl : Int) (xn : Int) T V) (pref (kp kind n t d v e xp xl xn T V)) := by
    intro b hb
    unfold kp
    by_cases c1 : kind = 1 ∨ kind = 2
    · have c1n : ¬ ¬ (kind = 1 ∨ kind = 2) := fun h => h c1
      rw [decide_eq_false c1n] at hb
      subst hb
      rw [if_neg c1n]
      by_cases c2 : n = 0
      · have e1 := low64 (IntKind.u64.wrap T) (u64_range T)
        have e2 := low64 V hV
        have e3 := RAfter_is kind n t d v e xp xl xn T V 0 0 0 hn
        simp only [if_pos c2]
        refine Ev.step (fun k => by rw [A0l.j0, if_neg Bool.false_ne_true, if_pos c2]) (Ev.bind e1 ?_)
        refine Ev.bind e2 ?_
        refine Ev.congr (fun k => if_pos (lens _ _)) (Ev.bind e3 ?_)
        exact Ev.now _
      simp only [if_neg c2]
      by_cases c3 : T ≤ t
      · simp only [if_pos c3]
        exact Ev.step (fun k => by rw [A0l.j0, if_neg Bool.false_ne_true, if_neg c2, if_pos c3]; rfl) (Ev.now (pref ([], z8, 4)))
      simp only [if_neg c3]
      have e1 : Ev (fun k => A09.f k (wrap64 (wrap64 (T - t) - d))) (PDod.dodL (dt t d T)) := PDod.RDod_is (dt t d T)
      have n1 := dodL_len (dt t d T)
      refine Ev.step (fun k => by rw [A0l.j0, if_neg Bool.false_ne_true, if_neg c2, if_neg c3, wrap_sub3]) (Ev.bind e1 ?_)
      by_cases c4 : kind = 2
      · have e2 := PDod.RDod_is (dv v e V)
        have n2 := dodL_len (dv v e V)
        have e4 := RAfter_is kind n t d v e xp xl xn T V 0 0 0 hn
        simp only [if_pos c4]
        refine Ev.bind e2 ?_
        refine Ev.congr (fun k => if_pos (PXor.lt47 _ _ (by omega))) (Ev.bind e4 ?_)
        exact Ev.now _
      · have e2 := PXor.RCode_is xp V xl xn hp hV hx (d := dx V xp) rfl
        have hr := PXor.A37 V xp hV hp
        have hc := PXor.cb_short xl xn (dx V xp) hx hr.1 hr.2
        have e4 := RAfter_is kind n t d v e xp xl xn T V V (PXor.cl xl xn (dx V xp)) (PXor.cn xl xn (dx V xp)) hn
        simp only [if_neg c4]
        refine Ev.bind e2 ?_
        have hlen : (PDod.dodL (dt t d T)).length + (PXor.cb xl xn (dx V xp)).length ≤ 1000 := by omega
        refine Ev.congr (fun k => if_pos (PXor.lt47 _ _ hlen)) (Ev.bind e4 ?_)
        exact Ev.now _
    · rw [decide_eq_true c1] at hb
      subst hb
      rw [if_pos c1]
      exact Ev.step (fun k => by rw [A0l.j0, if_pos rfl]; rfl) (Ev.now (pref ([], z8, 6)))
  unfold A0l.f
  by_cases c1 : kind = 1
  · simp only [if_pos c1]
    exact main false (decide_eq_false (fun h => h (.inl c1))).symm
  · simp only [if_neg c1]
    refine main _ ?_
    by_cases c2 : kind = 2
    · have hh : ¬ ¬ (kind = 1 ∨ kind = 2) := fun h => h (.inr c2)
      rw [bne_eq_false_iff_eq.mpr c2]
      exact (decide_eq_false hh).symm
    · have hh : ¬ (kind = 1 ∨ kind = 2) := fun h => h.elim c1 c2
      rw [bne_iff_ne.mpr c2]
      exact (decide_eq_true hh).symm
end Go.Proofs.YtiahbcaoikoogaaDoor.PKinds
end
