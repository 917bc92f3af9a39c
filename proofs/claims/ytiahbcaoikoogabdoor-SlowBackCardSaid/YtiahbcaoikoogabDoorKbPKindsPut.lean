-- declarations that this claim needs, copied by a program of the session
import Derived.Test.YtiahbcaoikoogabDoorKbPBits3
import Derived.Lib.ItoaNum
import Derived.Test.YtiahbcaoikoogabDoorKbAllx18
section
namespace Go.Proofs.YtiahbcaoikoogabDoor.PXor
open Go Go.RowKit Go.Proofs.YtiahbcaoikoogabDoor Go.Proofs.YtiahbcaoikoogabDoor.All Go.Proofs.YtiahbcaoikoogabDoorW.PrintWords Go.Proofs.YtiahbcaoikoogabDoorW.PrintLast
set_option linter.unusedVariables false
set_option linter.unusedSimpArgs false
def LL (d : Int) : Nat := 64 - Lib.bitLen d.toNat
def SS (d : Int) : Nat := Lib.bitLen d.toNat - Lib.ctz 64 d.toNat
structure Win (d : Int) : Prop where
  lt : LL d < 64
  pos : 1 ≤ SS d
  le : LL d + SS d ≤ 64
  hi : d < 2 ^ (64 - LL d)
  top : d / 2 ^ (63 - LL d) = 1
  mul : d = (d / 2 ^ (64 - LL d - SS d)) * 2 ^ (64 - LL d - SS d)
  odd : d / 2 ^ (64 - LL d - SS d) % 2 = 1
theorem win (d : Int) (h0 : 0 < d) (h1 : d < 18446744073709551616) : Win d := by
  obtain ⟨x, rfl⟩ := Int.eq_ofNat_of_zero_le (Int.le_of_lt h0)
  have hx0 : x ≠ 0 := by omega
  have hx : x < 2 ^ 64 := by omega
  obtain ⟨b1, b2, b3⟩ := Lib.bitLenAux_bounds 64 x hx hx0
  have b4 := Lib.bitLen_le x 64 (by omega) hx
  obtain ⟨m, hm, hk⟩ := Lib.ctzFrom_spec 64 x (by omega) hx
  have e : Lib.ctz 64 x = Lib.ctzFrom 64 x := by simp [Lib.ctz, hx0]
  have en : Lib.bitLen x = Lib.bitLenAux 64 x := rfl
  have hlt : Lib.ctzFrom 64 x < Lib.bitLenAux 64 x := by
    apply Nat.lt_of_not_le
    intro hle
    have h2 : 2 ^ Lib.bitLenAux 64 x ≤ 2 ^ Lib.ctzFrom 64 x := Nat.pow_le_pow_right (by decide) hle
    have h3 : 2 ^ Lib.ctzFrom 64 x ≤ x := by
      conv => rhs; rw [hm]
      exact Nat.le_mul_of_pos_right _ (by omega)
    omega
  have eL : LL (x : Int) = 64 - Lib.bitLenAux 64 x := by unfold LL; rw [Int.toNat_natCast, en]
  have eS : SS (x : Int) = Lib.bitLenAux 64 x - Lib.ctzFrom 64 x := by unfold SS; rw [Int.toNat_natCast, en, e]
  rw [en] at b4
  generalize hn : Lib.bitLenAux 64 x = n at *
  generalize ht : Lib.ctzFrom 64 x = t at *
  have q1 : 64 - LL (x : Int) = n := by omega
  have q2 : 63 - LL (x : Int) = n - 1 := by omega
  have q3 : 64 - LL (x : Int) - SS (x : Int) = t := by omega
  have hp : 0 < 2 ^ t := Nat.two_pow_pos t
  have hd : x / 2 ^ t = 2 * m + 1 := by rw [hm, Nat.mul_div_cancel_left _ hp]
  have hcast : ∀ j : Nat, ((x : Int) / 2 ^ j) = ((x / 2 ^ j : Nat) : Int) := fun j => by simp
  refine ⟨by omega, by omega, by omega, ?_, ?_, ?_, ?_⟩
  · rw [q1]; exact_mod_cast b3
  · rw [q2, hcast]
    have : x / 2 ^ (n - 1) = 1 := by
      have h5 : 2 ^ n = 2 * 2 ^ (n - 1) := by
        conv => lhs; rw [show n = (n - 1) + 1 from by omega]
        rw [Nat.pow_succ]; omega
      exact Nat.div_eq_of_lt_le (by omega) (by omega)
    rw [this]; rfl
  · rw [q3, hcast, hd]
    have : x = (2 * m + 1) * 2 ^ t := by rw [Nat.mul_comm]; exact hm
    exact_mod_cast this
  · rw [q3, hcast, hd]; omega
def cb (l n : Nat) (d : Int) : List Int :=
  if d = 0 then [0]
  else if 0 < n ∧ l ≤ LL d ∧ LL d + SS d ≤ l + n then [1, 0] ++ Bs.low (d / 2 ^ (64 - l - n)) n
  else [1, 1] ++ Bs.low (LL d) 6 ++ Bs.low ((SS d : Int) - 1) 6 ++ Bs.low (d / 2 ^ (64 - LL d - SS d)) (SS d)
def cl (l n : Nat) (d : Int) : Nat := if d = 0 then l else if 0 < n ∧ l ≤ LL d ∧ LL d + SS d ≤ l + n then l else LL d
def cn (l n : Nat) (d : Int) : Nat := if d = 0 then n else if 0 < n ∧ l ≤ LL d ∧ LL d + SS d ≤ l + n then n else SS d
theorem cb_bits (l n : Nat) (d : Int) : Bs.Bits (cb l n d) := by
  have h : Bs.Bits [(1 : Int), 0] := .cons (.inr rfl) (.cons (.inl rfl) .nil)
  have h' : Bs.Bits [(1 : Int), 1] := .cons (.inr rfl) (.cons (.inr rfl) .nil)
  unfold cb
  split
  · exact .cons (.inl rfl) .nil
  · split
    · exact h.append (Bs.low_bits _ _)
    · exact ((h'.append (Bs.low_bits _ _)).append (Bs.low_bits _ _)).append (Bs.low_bits _ _)
theorem cb_length (l n : Nat) (d : Int) : (cb l n d).length = if d = 0 then 1 else if 0 < n ∧ l ≤ LL d ∧ LL d + SS d ≤ l + n then 2 + n else 14 + SS d := by
  unfold cb
  split
  · rfl
  · split
    · simp only [List.length_append, List.length_cons, List.length_nil, Bs.low_length]
    · simp only [List.length_append, List.length_cons, List.length_nil, Bs.low_length]
theorem cb_ok (l n : Nat) (d : Int) (h : l + n ≤ 64) (h0 : 0 ≤ d) (h1 : d < 18446744073709551616) : cl l n d + cn l n d ≤ 64 := by
  unfold cl cn
  by_cases hd : d = 0
  · rw [if_pos hd, if_pos hd]; exact h
  · rw [if_neg hd, if_neg hd]
    split
    · exact h
    · exact (win d (by omega) h1).le
theorem SS_le (d : Int) (h0 : 0 < d) (h1 : d < 18446744073709551616) : SS d ≤ 64 := by have := (win d h0 h1).le; omega
theorem cb_short (l n : Nat) (d : Int) (h : l + n ≤ 64) (h0 : 0 ≤ d) (h1 : d < 18446744073709551616) : 1 ≤ (cb l n d).length ∧ (cb l n d).length ≤ 78 := by
  rw [cb_length]
  by_cases hd : d = 0
  · rw [if_pos hd]; omega
  · rw [if_neg hd]
    have := SS_le d (by omega) h1
    split <;> omega
theorem xor_range (a b : Int) (ha : 0 ≤ a ∧ a < 18446744073709551616) (hb : 0 ≤ b ∧ b < 18446744073709551616) : 0 ≤ Go.bits .xor .u64 a b ∧ Go.bits .xor .u64 a b < 18446744073709551616 := by
  rw [Ib.xor_u64 a b ha hb]
  have := Nat.xor_lt_two_pow (x := a.toNat) (y := b.toNat) (n := 64) (by omega) (by omega)
  omega
theorem xor_back (p x : Int) (hp : 0 ≤ p ∧ p < 18446744073709551616) (hx : 0 ≤ x ∧ x < 18446744073709551616) : Go.bits .xor .u64 (Go.bits .xor .u64 p x) p = x := by
  have hr := xor_range p x hp hx
  rw [Ib.xor_u64 _ p hr hp, Ib.xor_u64 p x hp hx, Int.toNat_natCast, Nat.xor_comm p.toNat, Nat.xor_assoc, Nat.xor_self, Nat.xor_zero]
  omega
theorem xor_comm (a b : Int) (ha : 0 ≤ a ∧ a < 18446744073709551616) (hb : 0 ≤ b ∧ b < 18446744073709551616) : Go.bits .xor .u64 a b = Go.bits .xor .u64 b a := by
  rw [Ib.xor_u64 a b ha hb, Ib.xor_u64 b a hb ha, Nat.xor_comm]
theorem window_is (d : Int) (h0 : 0 < d) (h1 : d < 18446744073709551616) : xor_window.f d = some ((LL d : Int), (SS d : Int)) := by
  have hw := win d h0 h1
  have b4 : Lib.bitLen d.toNat ≤ 64 := Lib.bitLen_le d.toNat 64 (by omega) (by omega)
  have b5 := hw.lt
  have b6 := hw.pos
  unfold xor_window.f bits_LeadingZeros64.f bits_TrailingZeros64.f
  rw [if_pos (by omega)]
  simp only [Option.bind_some]
  rw [if_pos (by omega)]
  simp only [Option.bind_some]
  unfold LL SS at *
  have e1 : wrap64 (64 - (64 - (Lib.bitLen d.toNat : Int))) = (Lib.bitLen d.toNat : Int) := by rw [PBits.w64 _ (by omega)]; omega
  rw [e1, PBits.w64 _ (by omega)]
  congr 2
  · omega
  · omega
theorem shr_is (x : Int) (s : Nat) (h : s ≤ 64) : shr .u64 x (s : Int) = x / 2 ^ s := by
  unfold shr
  simp only [Int.toNat_natCast]
  rw [show min s IntKind.u64.bits = s from Nat.min_eq_left h]
theorem putk (l : List Int) (hl : Bs.Bits l) (hlen : l.length ≤ 1000) (v : Int) (hv : 0 ≤ v ∧ v < 18446744073709551616) (m : Nat) (hm : m ≤ 64) {n : Int} (hn : n = (m : Int)) :
    Ev (fun k => bits_Put.f k (Bs.pack l) (l.length : Int) v n) (Bs.pack (l ++ Bs.low v m), ((l ++ Bs.low v m).length : Int)) := by
  have h := PBits.Put_is l hl (by omega) v hv n
  rw [if_neg (by omega)] at h
  subst hn
  rw [Int.toNat_natCast] at h
  rw [List.length_append, Bs.low_length]
  exact h
theorem putk0 (v : Int) (hv : 0 ≤ v ∧ v < 18446744073709551616) (m : Nat) (hm : m ≤ 64) {n : Int} (hn : n = (m : Int)) :
    Ev (fun k => bits_Put.f k [] 0 v n) (Bs.pack (Bs.low v m), ((Bs.low v m).length : Int)) := by
  have := putk [] .nil (by simp) v hv m hm hn
  simp only [List.nil_append, Bs.pack_nil] at this
  exact this
theorem div_range (d : Int) (h0 : 0 ≤ d) (h1 : d < 18446744073709551616) (s : Nat) : 0 ≤ d / 2 ^ s ∧ d / 2 ^ s < 18446744073709551616 := by
  have hp : (0 : Int) < 2 ^ s := Bs.pow_pos s
  refine ⟨Int.ediv_nonneg h0 (Int.le_of_lt hp), Int.lt_of_le_of_lt (Int.ediv_le_self _ h0) h1⟩
theorem Code_is (p v : Int) (l n : Nat) (hp : 0 ≤ p ∧ p < 18446744073709551616) (hv : 0 ≤ v ∧ v < 18446744073709551616) (hln : l + n ≤ 64) {d : Int} (hd : Go.bits .xor .u64 v p = d) :
    Ev (fun k => xor_Code.f k p (l : Int) (n : Int) v) (Bs.pack (cb l n d), ((cb l n d).length : Int), v, (cl l n d : Int), (cn l n d : Int)) := by
  have hr := xor_range v p hv hp
  rw [hd] at hr
  by_cases h0 : d = 0
  · subst h0
    have := putk0 0 (by omega) 1 (by omega) (n := 1) rfl
    refine Ev.congr (fun k => by unfold xor_Code.f; rw [hd, if_pos rfl]) (Ev.bind this ?_)
    unfold cb cl cn
    simp only [if_true]
    exact Ev.now _
  have hw := win d (by omega) hr.2
  have hs := SS_le d (by omega) hr.2
  have g1 := hw.lt
  have g2 := hw.pos
  have g3 := hw.le
  have ew := window_is d (by omega) hr.2
  have main : ∀ b : Bool, b = decide (0 < n ∧ l ≤ LL d ∧ LL d + SS d ≤ l + n) → Ev (fun k => xor_Code.j0 k d (LL d : Int) (SS d : Int) b v (l : Int) (n : Int)) (Bs.pack (cb l n d), ((cb l n d).length : Int), v, (cl l n d : Int), (cn l n d : Int)) := by
    intro b hb
    by_cases hc : 0 < n ∧ l ≤ LL d ∧ LL d + SS d ≤ l + n
    · have hb' : b = true := by rw [hb]; exact decide_eq_true hc
      subst hb'
      have e64 : wrap64 (wrap64 (64 - (l : Int)) - (n : Int)) = ((64 - l - n : Nat) : Int) := by rw [PBits.w64 (64 - (l : Int)) (by omega), PBits.w64 _ (by omega)]; omega
      have hput := putk0 2 (by omega) 2 (by omega) (n := 2) rfl
      have l2 : Bs.low 2 2 = [1, 0] := by decide
      rw [l2] at hput
      have hput2 := putk [1, 0] (.cons (.inr rfl) (.cons (.inl rfl) .nil)) (by simp) (d / 2 ^ (64 - l - n)) (div_range d hr.1 hr.2 _) n (by omega) (n := (n : Int)) rfl
      refine Ev.step (fun k => by rw [xor_Code.j0, if_pos rfl, e64]) (Ev.bind hput ?_)
      refine Ev.congr (fun k => by rw [if_pos (Int.natCast_nonneg _), shr_is _ _ (by omega)]) (Ev.bind hput2 ?_)
      unfold cb cl cn
      rw [if_neg h0, if_neg h0, if_neg h0, if_pos hc, if_pos hc, if_pos hc]
      exact Ev.now _
    · have hb' : b = false := by rw [hb]; exact decide_eq_false hc
      subst hb'
      have e64 : wrap64 (wrap64 (64 - (LL d : Int)) - (SS d : Int)) = ((64 - LL d - SS d : Nat) : Int) := by rw [PBits.w64 (64 - (LL d : Int)) (by omega), PBits.w64 _ (by omega)]; omega
      have u1 : IntKind.u64.wrap ((LL d : Int)) = (LL d : Int) := by rw [Ib.wrap_u64]; omega
      have u2 : IntKind.u64.wrap (wrap64 ((SS d : Int) - 1)) = (SS d : Int) - 1 := by rw [PBits.w64 _ (by omega), Ib.wrap_u64]; omega
      have hput := putk0 3 (by omega) 2 (by omega) (n := 2) rfl
      have l2 : Bs.low 3 2 = [1, 1] := by decide
      rw [l2] at hput
      have b1 : Bs.Bits [(1 : Int), 1] := .cons (.inr rfl) (.cons (.inr rfl) .nil)
      have hput2 := putk [1, 1] b1 (by simp) (LL d : Int) (by omega) 6 (by omega) (n := 6) rfl
      have b2 := b1.append (Bs.low_bits 6 (LL d : Int))
      have hput3 := putk _ b2 (by simp [Bs.low_length]) ((SS d : Int) - 1) (by omega) 6 (by omega) (n := 6) rfl
      have b3 := b2.append (Bs.low_bits 6 ((SS d : Int) - 1))
      have hput4 := putk _ b3 (by simp [Bs.low_length]) (d / 2 ^ (64 - LL d - SS d)) (div_range d hr.1 hr.2 _) (SS d) (by omega) (n := (SS d : Int)) rfl
      refine Ev.step (fun k => by rw [xor_Code.j0, if_neg (by decide), e64, u1, u2]) (Ev.bind hput ?_)
      refine Ev.bind hput2 ?_
      refine Ev.bind hput3 ?_
      refine Ev.congr (fun k => by rw [if_pos (Int.natCast_nonneg _), shr_is _ _ (by omega)]) (Ev.bind hput4 ?_)
      unfold cb cl cn
      rw [if_neg h0, if_neg h0, if_neg h0, if_neg hc, if_neg hc, if_neg hc]
      exact Ev.now _
  have w1 : wrap64 ((LL d : Int) + (SS d : Int)) = ((LL d + SS d : Nat) : Int) := by rw [PBits.w64 _ (by omega)]; omega
  have w2 : wrap64 ((l : Int) + (n : Int)) = ((l + n : Nat) : Int) := by rw [PBits.w64 _ (by omega)]; omega
  by_cases c1 : 0 < n
  · by_cases c2 : l ≤ LL d
    · refine Ev.congr (fun k => ?_) (main (decide (wrap64 ((LL d : Int) + (SS d : Int)) ≤ wrap64 ((l : Int) + (n : Int)))) ?_)
      · unfold xor_Code.f
        rw [hd, if_neg h0, ew]
        simp only [Option.bind_some]
        rw [if_pos (by omega), if_pos (by omega)]
      · rw [w1, w2]
        congr 1
        exact propext ⟨fun h => ⟨c1, c2, by omega⟩, fun h => by omega⟩
    · refine Ev.congr (fun k => ?_) (main false ?_)
      · unfold xor_Code.f
        rw [hd, if_neg h0, ew]
        simp only [Option.bind_some]
        rw [if_pos (by omega), if_neg (by omega)]
      · exact (decide_eq_false (by omega)).symm
  · refine Ev.congr (fun k => ?_) (main false ?_)
    · unfold xor_Code.f
      rw [hd, if_neg h0, ew]
      simp only [Option.bind_some]
      rw [if_neg (by omega)]
    · exact (decide_eq_false (by omega)).symm
end Go.Proofs.YtiahbcaoikoogabDoor.PXor
end
section
namespace Go.Proofs.YtiahbcaoikoogabDoor.PKinds
open Go Go.RowKit Go.Proofs.YtiahbcaoikoogabDoor Go.Proofs.YtiahbcaoikoogabDoor.All Go.Proofs.YtiahbcaoikoogabDoorW.PrintWords Go.Proofs.YtiahbcaoikoogabDoorW.PrintLast
set_option linter.unusedVariables false
set_option linter.unusedSimpArgs false
def z8 : S8 := (0, 0, 0, 0, 0, 0, 0, 0)
def dt (t d T : Int) : Int := wrap64 (wrap64 (T - t) - d)
def dv (v e V : Int) : Int := wrap64 (IntKind.u64.wrap (IntKind.u64.wrap (V - v) - e))
abbrev dx (V xp : Int) : Int := Go.bits .xor .u64 V xp
def kp (kind n t d v e xp : Int) (xl xn : Nat) (T V : Int) : List Int × S8 × Int :=
  if ¬ (kind = 1 ∨ kind = 2) then ([], z8, 6)
  else if n = 0 then (Bs.low (IntKind.u64.wrap T) 64 ++ Bs.low V 64, aft kind n t d v e xp xl xn T V 0 0 0, 0)
  else if T ≤ t then ([], z8, 4)
  else if kind = 2 then (PDod.dodL (dt t d T) ++ PDod.dodL (dv v e V), aft kind n t d v e xp xl xn T V 0 0 0, 0)
  else (PDod.dodL (dt t d T) ++ PXor.cb xl xn (dx V xp), aft kind n t d v e xp xl xn T V V (PXor.cl xl xn (dx V xp)) (PXor.cn xl xn (dx V xp)), 0)
def pimp (r : List Int × S8 × Int) : List Int × Int × Int × Int × Int × Int × Int × Int × Int × Int × Option Int :=
  (Bs.pack r.1, (r.1.length : Int), r.2.1.1, r.2.1.2.1, r.2.1.2.2.1, r.2.1.2.2.2.1, r.2.1.2.2.2.2.1, r.2.1.2.2.2.2.2.1, r.2.1.2.2.2.2.2.2.1, r.2.1.2.2.2.2.2.2.2, if r.2.2 = 0 then none else some r.2.2)
theorem pimp_none (c : Int) : pimp ([], z8, c) = (([] : List Int), 0, 0, 0, 0, 0, 0, 0, 0, 0, if c = 0 then none else some c) := by
  simp only [pimp, z8, Bs.pack_nil, List.length_nil]
  rfl
theorem known_is (kind : Int) : kinds_known.f kind = some (decide (kind = 1 ∨ kind = 2)) := by
  unfold kinds_known.f
  by_cases c1 : kind = 1
  · rw [if_pos c1, decide_eq_true (.inl c1)]
  · rw [if_neg c1]
    by_cases c2 : kind = 2
    · rw [beq_iff_eq.mpr c2, decide_eq_true (.inr c2)]
    · rw [beq_eq_false_iff_ne.mpr c2, decide_eq_false (fun h => h.elim c1 c2)]
theorem dodL_len (v : Int) : (PDod.dodL v).length ≤ 68 := by
  have h1 := PDod.dodL_length v
  have h2 := PDod.size_le (PDod.ones v)
  omega
theorem jn (l m : List Int) (hl : Bs.Bits l) (hm : Bs.Bits m) (h : l.length + m.length ≤ 1000) : Ev (fun k => bits_Join.f k (Bs.pack l) (l.length : Int) (Bs.pack m) (m.length : Int)) (Bs.pack (l ++ m), ((l ++ m).length : Int)) := by
  have := PBits.Join_is l m hl hm (by omega)
  rw [← List.length_append] at this
  exact this
theorem u64_range (T : Int) : 0 ≤ IntKind.u64.wrap T ∧ IntKind.u64.wrap T < 18446744073709551616 := by rw [Ib.wrap_u64]; omega
theorem Put_is (kind n t d v e xp : Int) (xl xn : Nat) (T V : Int) (hn : 0 ≤ n) (hV : 0 ≤ V ∧ V < 18446744073709551616) (hp : 0 ≤ xp ∧ xp < 18446744073709551616) (hx : xl + xn ≤ 64) :
    Ev (fun k => kinds_Put.f k kind n t d v e xp (xl : Int) (xn : Int) T V) (pimp (kp kind n t d v e xp xl xn T V)) := by
  unfold kinds_Put.f kp
  rw [known_is]
  simp only [Option.bind_some]
  by_cases c1 : kind = 1 ∨ kind = 2
  · have c1n : ¬ ¬ (kind = 1 ∨ kind = 2) := fun h => h c1
    rw [decide_eq_true c1, if_neg c1n]
    simp only [if_true]
    by_cases c2 : n = 0
    · have e1 := PXor.putk0 (IntKind.u64.wrap T) (u64_range T) 64 (Nat.le_refl _) (n := 64) rfl
      have e2 := PXor.putk (Bs.low (IntKind.u64.wrap T) 64) (Bs.low_bits _ _) (by rw [Bs.low_length]; decide) V hV 64 (Nat.le_refl _) (n := 64) rfl
      have e3 := After_is kind n t d v e xp xl xn T V 0 0 0 hn
      simp only [if_pos c2]
      refine Ev.bind e1 (Ev.bind e2 (Ev.bind e3 ?_))
      exact Ev.now _
    simp only [if_neg c2]
    by_cases c3 : T ≤ t
    · simp only [if_pos c3]
      rw [pimp_none]
      exact Ev.now _
    simp only [if_neg c3]
    have e1 := PDod.Code_is (dt t d T)
    have b1 := PDod.dodL_bits (dt t d T)
    have n1 := dodL_len (dt t d T)
    refine Ev.bind e1 ?_
    by_cases c4 : kind = 2
    · have e2 := PDod.Code_is (dv v e V)
      have e3 := jn _ _ b1 (PDod.dodL_bits (dv v e V)) (by have := dodL_len (dv v e V); omega)
      have e4 := After_is kind n t d v e xp xl xn T V 0 0 0 hn
      simp only [if_pos c4]
      refine Ev.bind e2 (Ev.bind e3 (Ev.bind e4 ?_))
      exact Ev.now _
    · have e2 := PXor.Code_is xp V xl xn hp hV hx (d := dx V xp) rfl
      have hr := PXor.xor_range V xp hV hp
      have hc := PXor.cb_short xl xn (dx V xp) hx hr.1 hr.2
      have e3 := jn _ _ b1 (PXor.cb_bits xl xn (dx V xp)) (by omega)
      have e4 := After_is kind n t d v e xp xl xn T V V (PXor.cl xl xn (dx V xp)) (PXor.cn xl xn (dx V xp)) hn
      simp only [if_neg c4]
      refine Ev.bind e2 (Ev.bind e3 (Ev.bind e4 ?_))
      exact Ev.now _
  · rw [decide_eq_false c1, if_pos c1, pimp_none]
    exact Ev.congr (fun k => if_neg Bool.false_ne_true) (Ev.now _)
end Go.Proofs.YtiahbcaoikoogabDoor.PKinds
end
