-- copied by a program of the session
import Derived.Test.YtiahbcaoikoogabDoorKnPBits2
import Derived.Lib.ItoaNum
import Derived.Test.YtiahbcaoikoogabDoorKnAllx9
import Derived.Lib.Bytes
section
namespace Go.Proofs.YtiahbcaoikoogabDoor.PXor
open Go Go.RowKit Go.Proofs.YtiahbcaoikoogabDoor Go.Proofs.YtiahbcaoikoogabDoor.All Go.Proofs.YtiahbcaoikoogabDoorW.PrintWords Go.Proofs.YtiahbcaoikoogabDoorW.PrintLast
set_option linter.unusedVariables false
set_option linter.unusedSimpArgs false
def LL (d : Int) : Nat := 64 - Lib.bitLen d.toNat
def SS (d : Int) : Nat := Lib.bitLen d.toNat - Lib.ctz 64 d.toNat
structure Win (d : Int) : Prop where
 lt : LL d < 64
 pos : 1 ≤ SS d
 le : LL d + SS d ≤ 64
 hi : d < 2 ^ (64 - LL d)
 top : d / 2 ^ (63 - LL d) = 1
 mul : d = (d / 2 ^ (64 - LL d - SS d)) * 2 ^ (64 - LL d - SS d)
 odd : d / 2 ^ (64 - LL d - SS d) % 2 = 1
theorem win (d : Int) (h0 : 0 < d) (h1 : d < 18446744073709551616) : Win d := by
 obtain ⟨x, rfl⟩ := Int.eq_ofNat_of_zero_le (Int.le_of_lt h0)
 have hx0 : x ≠ 0 := by omega
 have hx : x < 2 ^ 64 := by omega
 obtain ⟨b1, b2, b3⟩ := Lib.bitLenAux_bounds 64 x hx hx0
 have b4 := Lib.bitLen_le x 64 (by omega) hx
 obtain ⟨m, hm, hk⟩ := Lib.ctzFrom_spec 64 x (by omega) hx
 have e : Lib.ctz 64 x = Lib.ctzFrom 64 x := by simp [Lib.ctz, hx0]
 have en : Lib.bitLen x = Lib.bitLenAux 64 x := rfl
 have hlt : Lib.ctzFrom 64 x < Lib.bitLenAux 64 x := by
  apply Nat.lt_of_not_le
  intro hle
  have h2 : 2 ^ Lib.bitLenAux 64 x ≤ 2 ^ Lib.ctzFrom 64 x := Nat.pow_le_pow_right (by decide) hle
  have h3 : 2 ^ Lib.ctzFrom 64 x ≤ x := by
   conv => rhs; rw [hm]
   exact Nat.le_mul_of_pos_right _ (by omega)
  omega
 have eL : LL (x : Int) = 64 - Lib.bitLenAux 64 x := by unfold LL; rw [Int.toNat_natCast, en]
 have eS : SS (x : Int) = Lib.bitLenAux 64 x - Lib.ctzFrom 64 x := by unfold SS; rw [Int.toNat_natCast, en, e]
 rw [en] at b4
 generalize hn : Lib.bitLenAux 64 x = n at *
 generalize ht : Lib.ctzFrom 64 x = t at *
 have q1 : 64 - LL (x : Int) = n := by omega
 have q2 : 63 - LL (x : Int) = n - 1 := by omega
 have q3 : 64 - LL (x : Int) - SS (x : Int) = t := by omega
 have hp : 0 < 2 ^ t := Nat.two_pow_pos t
 have hd : x / 2 ^ t = 2 * m + 1 := by rw [hm, Nat.mul_div_cancel_left _ hp]
 have hcast : ∀ j : Nat, ((x : Int) / 2 ^ j) = ((x / 2 ^ j : Nat) : Int) := fun j => by simp
 refine ⟨by omega, by omega, by omega, ?_, ?_, ?_, ?_⟩
 ·rw [q1]; exact_mod_cast b3
 ·rw [q2, hcast]
  have : x / 2 ^ (n - 1) = 1 := by
   have h5 : 2 ^ n = 2 * 2 ^ (n - 1) := by
    conv => lhs; rw [show n = (n - 1) + 1 from by omega]
    rw [Nat.pow_succ]; omega
   exact Nat.div_eq_of_lt_le (by omega) (by omega)
  rw [this]; rfl
 ·rw [q3, hcast, hd]
  have : x = (2 * m + 1) * 2 ^ t := by rw [Nat.mul_comm]; exact hm
  exact_mod_cast this
 ·rw [q3, hcast, hd]; omega
def cb (l n : Nat) (d : Int) : List Int :=
 if d = 0 then [0]
 else if 0 < n ∧ l ≤ LL d ∧ LL d + SS d ≤ l + n then [1, 0] ++ Bs.low (d / 2 ^ (64 - l - n)) n
 else [1, 1] ++ Bs.low (LL d) 6 ++ Bs.low ((SS d : Int) - 1) 6 ++ Bs.low (d / 2 ^ (64 - LL d - SS d)) (SS d)
def cl (l n : Nat) (d : Int) : Nat := if d = 0 then l else if 0 < n ∧ l ≤ LL d ∧ LL d + SS d ≤ l + n then l else LL d
def cn (l n : Nat) (d : Int) : Nat := if d = 0 then n else if 0 < n ∧ l ≤ LL d ∧ LL d + SS d ≤ l + n then n else SS d
theorem cb_bits (l n : Nat) (d : Int) : Bs.Bits (cb l n d) := by
 have h : Bs.Bits [(1 : Int), 0] := .cons (.inr rfl) (.cons (.inl rfl) .nil)
 have h' : Bs.Bits [(1 : Int), 1] := .cons (.inr rfl) (.cons (.inr rfl) .nil)
 unfold cb
 split
 ·exact .cons (.inl rfl) .nil
 ·split
  ·exact h.append (Bs.A3z _ _)
  ·exact ((h'.append (Bs.A3z _ _)).append (Bs.A3z _ _)).append (Bs.A3z _ _)
theorem cb_length (l n : Nat) (d : Int) : (cb l n d).length = if d = 0 then 1 else if 0 < n ∧ l ≤ LL d ∧ LL d + SS d ≤ l + n then 2 + n else 14 + SS d := by
 unfold cb
 split
 ·rfl
 ·split
  ·simp only [List.length_append, List.length_cons, List.length_nil, Bs.A1o]
  ·simp only [List.length_append, List.length_cons, List.length_nil, Bs.A1o]
theorem cb_ok (l n : Nat) (d : Int) (h : l + n ≤ 64) (h0 : 0 ≤ d) (h1 : d < 18446744073709551616) : cl l n d + cn l n d ≤ 64 := by
 unfold cl cn
 by_cases hd : d = 0
 ·rw [if_pos hd, if_pos hd]; exact h
 ·rw [if_neg hd, if_neg hd]
  split
  ·exact h
  ·exact (win d (by omega) h1).le
theorem SS_le (d : Int) (h0 : 0 < d) (h1 : d < 18446744073709551616) : SS d ≤ 64 := by have := (win d h0 h1).le; omega
theorem cb_short (l n : Nat) (d : Int) (h : l + n ≤ 64) (h0 : 0 ≤ d) (h1 : d < 18446744073709551616) : 1 ≤ (cb l n d).length ∧ (cb l n d).length ≤ 78 := by
 rw [cb_length]
 by_cases hd : d = 0
 ·rw [if_pos hd]; omega
 ·rw [if_neg hd]
  have := SS_le d (by omega) h1
  split <;> omega
theorem xor_range (a b : Int) (ha : 0 ≤ a ∧ a < 18446744073709551616) (hb : 0 ≤ b ∧ b < 18446744073709551616) : 0 ≤ Go.bits .xor .u64 a b ∧ Go.bits .xor .u64 a b < 18446744073709551616 := by
 rw [Ib.xor_u64 a b ha hb]
 have := Nat.xor_lt_two_pow (x := a.toNat) (y := b.toNat) (n := 64) (by omega) (by omega)
 omega
theorem xor_back (p x : Int) (hp : 0 ≤ p ∧ p < 18446744073709551616) (hx : 0 ≤ x ∧ x < 18446744073709551616) : Go.bits .xor .u64 (Go.bits .xor .u64 p x) p = x := by
 have hr := xor_range p x hp hx
 rw [Ib.xor_u64 _ p hr hp, Ib.xor_u64 p x hp hx, Int.toNat_natCast, Nat.xor_comm p.toNat, Nat.xor_assoc, Nat.xor_self, Nat.xor_zero]
 omega
theorem xor_comm (a b : Int) (ha : 0 ≤ a ∧ a < 18446744073709551616) (hb : 0 ≤ b ∧ b < 18446744073709551616) : Go.bits .xor .u64 a b = Go.bits .xor .u64 b a := by
 rw [Ib.xor_u64 a b ha hb, Ib.xor_u64 b a hb ha, Nat.xor_comm]
theorem window_is (d : Int) (h0 : 0 < d) (h1 : d < 18446744073709551616) : xor_window.f d = some ((LL d : Int), (SS d : Int)) := by
 have hw := win d h0 h1
 have b4 : Lib.bitLen d.toNat ≤ 64 := Lib.bitLen_le d.toNat 64 (by omega) (by omega)
 have b5 := hw.lt
 have b6 := hw.pos
 unfold xor_window.f bits_LeadingZeros64.f bits_TrailingZeros64.f
 rw [if_pos (by omega)]
 simp only [Option.bind_some]
 rw [if_pos (by omega)]
 simp only [Option.bind_some]
 unfold LL SS at *
 have e1 : wrap64 (64 - (64 - (Lib.bitLen d.toNat : Int))) = (Lib.bitLen d.toNat : Int) := by rw [PBits.w64 _ (by omega)]; omega
 rw [e1, PBits.w64 _ (by omega)]
 congr 2
 ·omega
 ·omega
theorem shr_is (x : Int) (s : Nat) (h : s ≤ 64) : shr .u64 x (s : Int) = x / 2 ^ s := by
 unfold shr
 simp only [Int.toNat_natCast]
 rw [show min s IntKind.u64.bits = s from Nat.min_eq_left h]
theorem putk (l : List Int) (hl : Bs.Bits l) (hlen : l.length ≤ 1000) (v : Int) (hv : 0 ≤ v ∧ v < 18446744073709551616) (m : Nat) (hm : m ≤ 64) {n : Int} (hn : n = (m : Int)) :
    Ev (fun k => A0x.f k (Bs.pack l) (l.length : Int) v n) (Bs.pack (l ++ Bs.low v m), ((l ++ Bs.low v m).length : Int)) := by
  have h := PBits.Put_is l hl (by omega) v hv n
  rw [if_neg (by omega)] at h
  subst hn
  rw [Int.toNat_natCast] at h
  rw [List.length_append, Bs.A1o]
  exact h
theorem putk0 (v : Int) (hv : 0 ≤ v ∧ v < 18446744073709551616) (m : Nat) (hm : m ≤ 64) {n : Int} (hn : n = (m : Int)) :
    Ev (fun k => A0x.f k [] 0 v n) (Bs.pack (Bs.low v m), ((Bs.low v m).length : Int)) := by
  have := putk [] .nil (by simp) v hv m hm hn
  simp only [List.nil_append, Bs.A30] at this
  exact this
theorem div_range (d : Int) (h0 : 0 ≤ d) (h1 : d < 18446744073709551616) (s : Nat) : 0 ≤ d / 2 ^ s ∧ d / 2 ^ s < 18446744073709551616 := by
 have hp : (0 : Int) < 2 ^ s := Bs.pow_pos s
 refine ⟨Int.ediv_nonneg h0 (Int.le_of_lt hp), Int.lt_of_le_of_lt (Int.ediv_le_self _ h0) h1⟩
theorem Code_is (p v : Int) (l n : Nat) (hp : 0 ≤ p ∧ p < 18446744073709551616) (hv : 0 ≤ v ∧ v < 18446744073709551616) (hln : l + n ≤ 64) {d : Int} (hd : Go.bits .xor .u64 v p = d) :
    Ev (fun k => A1l.f k p (l : Int) (n : Int) v) (Bs.pack (cb l n d), ((cb l n d).length : Int), v, (cl l n d : Int), (cn l n d : Int)) := by
  have hr := xor_range v p hv hp
  rw [hd] at hr
  by_cases h0 : d = 0
  · subst h0
    have := putk0 0 (by omega) 1 (by omega) (n := 1) rfl
    refine Ev.congr (fun k => by unfold A1l.f; rw [hd, if_pos rfl]) (Ev.bind this ?_)
    unfold cb cl cn
    simp only [if_true]
    exact Ev.now _
  have hw := win d (by omega) hr.2
  have hs := SS_le d (by omega) hr.2
  have g1 := hw.lt
  have g2 := hw.pos
  have g3 := hw.le
  have ew := window_is d (by omega) hr.2
  have main : ∀ b : Bool, b = decide (0 < n ∧ l ≤ LL d ∧ LL d + SS d ≤ l + n) → Ev (fun k => A1l.j0 k d (LL d : Int) (SS d : Int) b v (l : Int) (n : Int)) (Bs.pack (cb l n d), ((cb l n d).length : Int), v, (cl l n d : Int), (cn l n d : Int)) := by
    intro b hb
    by_cases hc : 0 < n ∧ l ≤ LL d ∧ LL d + SS d ≤ l + n
    · have hb' : b = true := by rw [hb]; exact decide_eq_true hc
      subst hb'
      have e64 : wrap64 (wrap64 (64 - (l : Int)) - (n : Int)) = ((64 - l - n : Nat) : Int) := by rw [PBits.w64 (64 - (l : Int)) (by omega), PBits.w64 _ (by omega)]; omega
      have hput := putk0 2 (by omega) 2 (by omega) (n := 2) rfl
      have l2 : Bs.low 2 2 = [1, 0] := by decide
      rw [l2] at hput
      have hput2 := putk [1, 0] (.cons (.inr rfl) (.cons (.inl rfl) .nil)) (by simp) (d / 2 ^ (64 - l - n)) (div_range d hr.1 hr.2 _) n (by omega) (n := (n : Int)) rfl
      refine Ev.step (fun k => by rw [A1l.j0, if_pos rfl, e64]) (Ev.bind hput ?_)
      refine Ev.congr (fun k => by rw [if_pos (Int.natCast_nonneg _), shr_is _ _ (by omega)]) (Ev.bind hput2 ?_)
      unfold cb cl cn
      rw [if_neg h0, if_neg h0, if_neg h0, if_pos hc, if_pos hc, if_pos hc]
      exact Ev.now _
    · have hb' : b = false := by rw [hb]; exact decide_eq_false hc
      subst hb'
      have e64 : wrap64 (wrap64 (64 - (LL d : Int)) - (SS d : Int)) = ((64 - LL d - SS d : Nat) : Int) := by rw [PBits.w64 (64 - (LL d : Int)) (by omega), PBits.w64 _ (by omega)]; omega
      have u1 : IntKind.u64.wrap ((LL d : Int)) = (LL d : Int) := by rw [Ib.wrap_u64]; omega
      have u2 : IntKind.u64.wrap (wrap64 ((SS d : Int) - 1)) = (SS d : Int) - 1 := by rw [PBits.w64 _ (by omega), Ib.wrap_u64]; omega
      have hput := putk0 3 (by omega) 2 (by omega) (n := 2) rfl
      have l2 : Bs.low 3 2 = [1, 1] := by decide
      rw [l2] at hput
      have b1 : Bs.Bits [(1 : Int), 1] := .cons (.inr rfl) (.cons (.inr rfl) .nil)
      have hput2 := putk [1, 1] b1 (by simp) (LL d : Int) (by omega) 6 (by omega) (n := 6) rfl
      have b2 := b1.append (Bs.A3z 6 (LL d : Int))
      have hput3 := putk _ b2 (by simp [Bs.A1o]) ((SS d : Int) - 1) (by omega) 6 (by omega) (n := 6) rfl
      have b3 := b2.append (Bs.A3z 6 ((SS d : Int) - 1))
      have hput4 := putk _ b3 (by simp [Bs.A1o]) (d / 2 ^ (64 - LL d - SS d)) (div_range d hr.1 hr.2 _) (SS d) (by omega) (n := (SS d : Int)) rfl
      refine Ev.step (fun k => by rw [A1l.j0, if_neg (by decide), e64, u1, u2]) (Ev.bind hput ?_)
      refine Ev.bind hput2 ?_
      refine Ev.bind hput3 ?_
      refine Ev.congr (fun k => by rw [if_pos (Int.natCast_nonneg _), shr_is _ _ (by omega)]) (Ev.bind hput4 ?_)
      unfold cb cl cn
      rw [if_neg h0, if_neg h0, if_neg h0, if_neg hc, if_neg hc, if_neg hc]
      exact Ev.now _
  have w1 : wrap64 ((LL d : Int) + (SS d : Int)) = ((LL d + SS d : Nat) : Int) := by rw [PBits.w64 _ (by omega)]; omega
  have w2 : wrap64 ((l : Int) + (n : Int)) = ((l + n : Nat) : Int) := by rw [PBits.w64 _ (by omega)]; omega
  by_cases c1 : 0 < n
  · by_cases c2 : l ≤ LL d
    · refine Ev.congr (fun k => ?_) (main (decide (wrap64 ((LL d : Int) + (SS d : Int)) ≤ wrap64 ((l : Int) + (n : Int)))) ?_)
      · unfold A1l.f
        rw [hd, if_neg h0, ew]
        simp only [Option.bind_some]
        rw [if_pos (by omega), if_pos (by omega)]
      · rw [w1, w2]
        congr 1
        exact propext ⟨fun h => ⟨c1, c2, by omega⟩, fun h => by omega⟩
    · refine Ev.congr (fun k => ?_) (main false ?_)
      · unfold A1l.f
        rw [hd, if_neg h0, ew]
        simp only [Option.bind_some]
        rw [if_pos (by omega), if_neg (by omega)]
      · exact (decide_eq_false (by omega)).symm
  · refine Ev.congr (fun k => ?_) (main false ?_)
    · unfold A1l.f
      rw [hd, if_neg h0, ew]
      simp only [Option.bind_some]
      rw [if_neg (by omega)]
    · exact (decide_eq_false (by omega)).symm
end Go.Proofs.YtiahbcaoikoogabDoor.PXor
end
section
namespace Go.Proofs.YtiahbcaoikoogabDoor.PDod
open Go Go.RowKit Go.Proofs.YtiahbcaoikoogabDoor Go.Proofs.YtiahbcaoikoogabDoor.All Go.Proofs.YtiahbcaoikoogabDoorW.PrintWords Go.Proofs.YtiahbcaoikoogabDoorW.PrintLast
set_option linter.unusedVariables false
set_option linter.unusedSimpArgs false
def restL (L : List Int) (a : Int) : List Int := if a < 0 ∨ a > (L.length : Int) then [] else L.drop a.toNat
theorem restL_bits {L : List Int} (hL : Bs.Bits L) (a : Int) : Bs.Bits (restL L a) := by
 unfold restL
 split
 ·exact Bs.Bits.nil
 ·exact hL.drop _
end Go.Proofs.YtiahbcaoikoogabDoor.PDod
end
section
namespace Go.Proofs.YtiahbcaoikoogabDoor.PXor
open Go Go.RowKit Go.Proofs.YtiahbcaoikoogabDoor Go.Proofs.YtiahbcaoikoogabDoor.All Go.Proofs.YtiahbcaoikoogabDoorW.PrintWords Go.Proofs.YtiahbcaoikoogabDoorW.PrintLast
set_option linter.unusedVariables false
set_option linter.unusedSimpArgs false
set_option linter.unusedSectionVars false
def xv (R : List Int) (h lead size : Nat) : Int := Bs.number ((R.drop h).take size) * 2 ^ (64 - lead - size)
abbrev G := Int × Int × Int × Int × Int × Int
def bd (p : Int) (l n : Nat) (R : List Int) (h lead size : Nat) : G :=
 if size = 0 ∨ lead + size > 64 then (0, 0, 0, 0, 0, 3)
 else if R.length < h + size then (0, 0, 0, 0, 0, 2)
 else if cb l n (xv R h lead size) = R.take (h + size) then
  (Go.bits .xor .u64 p (xv R h lead size), Go.bits .xor .u64 p (xv R h lead size), (cl l n (xv R h lead size) : Int), (cn l n (xv R h lead size) : Int), ((h + size : Nat) : Int), 0)
 else (0, 0, 0, 0, 0, 3)
def ld (R : List Int) : Nat := (Bs.number ((R.drop 2).take 6)).toNat
def sd (R : List Int) : Nat := (Bs.number ((R.drop 8).take 6)).toNat + 1
def xg (p : Int) (l n : Nat) (R : List Int) : G :=
 if R.length = 0 then (0, 0, 0, 0, 0, 2)
 else if rd R 0 = 0 then (p, p, (l : Int), (n : Int), 1, 0)
 else if R.length = 1 then (0, 0, 0, 0, 0, 2)
 else if rd R 1 = 1 then (if R.length < 14 then (0, 0, 0, 0, 0, 2) else bd p l n R 14 (ld R) (sd R))
 else bd p l n R 2 l n
def gi (g : G) : Int × Int × Int × Int × Int × Option Int := (g.1, g.2.1, g.2.2.1, g.2.2.2.1, g.2.2.2.2.1, if g.2.2.2.2.2 = 0 then none else some g.2.2.2.2.2)
theorem bits_take {R : List Int} (hR : Bs.Bits R) (h m : Nat) : Bs.Bits ((R.drop h).take m) := (hR.drop h).take m
theorem cut_len (R : List Int) (h m : Nat) (hh : h + m ≤ R.length) : ((R.drop h).take m).length = m := by rw [List.length_take, List.length_drop]; omega
theorem num_range {R : List Int} (hR : Bs.Bits R) (h m : Nat) (hh : h + m ≤ R.length) : 0 ≤ Bs.number ((R.drop h).take m) ∧ Bs.number ((R.drop h).take m) < 2 ^ m := by
 have := Bs.A3c (bits_take hR h m)
 rw [cut_len R h m hh] at this
 exact this
theorem pow_mul (a b : Nat) : (2 : Int) ^ (a + b) = 2 ^ a * 2 ^ b := Int.pow_add ..
theorem xv_range {R : List Int} (hR : Bs.Bits R) (h lead size : Nat) (hh : h + size ≤ R.length) (hs : lead + size ≤ 64) : 0 ≤ xv R h lead size ∧ xv R h lead size < 18446744073709551616 := by
 have hn := num_range hR h size hh
 unfold xv
 have hp := Bs.pow_pos (64 - lead - size)
 refine ⟨Int.mul_nonneg hn.1 (Int.le_of_lt hp), ?_⟩
 have h1 : Bs.number ((R.drop h).take size) * 2 ^ (64 - lead - size) < 2 ^ size * 2 ^ (64 - lead - size) := Int.mul_lt_mul_of_pos_right hn.2 hp
 rw [← pow_mul] at h1
 have h2 : (2 : Int) ^ (size + (64 - lead - size)) ≤ 2 ^ 64 := PBits.pow_le (by omega)
 have h3 : (2 : Int) ^ 64 = 18446744073709551616 := by decide
 omega
theorem ld_lt {R : List Int} (hR : Bs.Bits R) (h : 14 ≤ R.length) : (ld R : Int) = Bs.number ((R.drop 2).take 6) ∧ ld R < 64 := by
 have := num_range hR 2 6 (by omega)
 unfold ld
 omega
theorem sd_lt {R : List Int} (hR : Bs.Bits R) (h : 14 ≤ R.length) : (sd R : Int) = Bs.number ((R.drop 8).take 6) + 1 ∧ sd R ≤ 64 ∧ 1 ≤ sd R := by
 have := num_range hR 8 6 (by omega)
 unfold sd
 omega
theorem split14 (R : List Int) (size : Nat) (h : 14 + size ≤ R.length) : R.take (14 + size) = R.take 2 ++ (R.drop 2).take 6 ++ (R.drop 8).take 6 ++ (R.drop 14).take size := by
 have e : ∀ a b : Nat, R.take (a + b) = R.take a ++ (R.drop a).take b := fun a b => List.take_add ..
 rw [e 14 size, show (14 : Nat) = 8 + 6 from rfl, e 8 6, show (8 : Nat) = 2 + 6 from rfl, e 2 6]
theorem split2 (R : List Int) (size : Nat) : R.take (2 + size) = R.take 2 ++ (R.drop 2).take size := List.take_add ..
theorem take_two (R : List Int) (h : 2 ≤ R.length) : R.take 2 = [rd R 0, rd R 1] := by
 match R, h with
 | a :: b :: R, _ => rfl
theorem low_of_num {R : List Int} (hR : Bs.Bits R) (h m : Nat) (hh : h + m ≤ R.length) {v : Int} (hv : v = Bs.number ((R.drop h).take m)) : Bs.low v m = (R.drop h).take m := by
 have := Bs.low_number (bits_take hR h m)
 rw [cut_len R h m hh] at this
 rw [hv]
 exact this
theorem xv_body {R : List Int} (hR : Bs.Bits R) (h lead size : Nat) (hh : h + size ≤ R.length) : Bs.low (xv R h lead size / 2 ^ (64 - lead - size)) size = (R.drop h).take size := by
 unfold xv
 rw [Int.mul_ediv_cancel _ (Int.ne_of_gt (Bs.pow_pos _))]
 exact low_of_num hR h size hh rfl
theorem full {R : List Int} (hR : Bs.Bits R) (l n h lead size : Nat) (hh : h + size ≤ R.length) (hs : lead + size ≤ 64) (h0 : 0 < size) (hln : l + n ≤ 64) (hr0 : rd R 0 = 1)
    (hk : (h = 2 ∧ lead = l ∧ size = n ∧ rd R 1 = 0) ∨ (h = 14 ∧ lead = ld R ∧ size = sd R ∧ rd R 1 = 1))
    (hN : (cb l n (xv R h lead size)).length = h + size) (he : R.take (min (h + size) 64) = (cb l n (xv R h lead size)).take (min (h + size) 64)) : cb l n (xv R h lead size) = R.take (h + size) := by
  have hx := xv_range hR h lead size hh hs
  have hbody := xv_body hR h lead size hh
  have h2 : 2 ≤ R.length := by omega
  have t2 : R.take 2 = (cb l n (xv R h lead size)).take 2 := by
    have := congrArg (List.take 2) he
    rw [List.take_take, List.take_take, Nat.min_eq_left (by omega)] at this
    exact this
  rw [take_two R h2, hr0] at t2
  generalize hX : xv R h lead size = x at *
  unfold cb at hN he t2 ⊢
  by_cases c0 : x = 0
  · rw [if_pos c0] at hN
    simp at hN
    omega
  rw [if_neg c0] at hN he t2 ⊢
  have hw := win x (by omega) hx.2
  have g1 := hw.lt
  have g2 := hw.pos
  have g3 := hw.le
  by_cases c1 : 0 < n ∧ l ≤ LL x ∧ LL x + SS x ≤ l + n
  · rw [if_pos c1] at hN he t2 ⊢
    have e1 : rd R 1 = 0 := by simpa using t2
    rcases hk with ⟨rfl, rfl, rfl, _⟩ | ⟨_, _, _, h1⟩
    · rw [hbody, split2, take_two R h2, hr0, e1]
    · omega
  · rw [if_neg c1] at hN he t2 ⊢
    have e1 : rd R 1 = 1 := by simpa using t2
    rcases hk with ⟨_, _, _, h1⟩ | ⟨rfl, rfl, rfl, _⟩
    · omega
    have hl14 : 14 ≤ R.length := by omega
    have t14 : R.take 14 = [1, 1] ++ Bs.low (LL x : Int) 6 ++ Bs.low ((SS x : Int) - 1) 6 := by
      have := congrArg (List.take 14) he
      rw [List.take_take, List.take_take, Nat.min_eq_left (by omega)] at this
      rw [this, List.take_append_of_le_length (by simp [Bs.A1o]), List.take_of_length_le (by simp [Bs.A1o])]
    have hR14 : R.take 14 = R.take 2 ++ (R.drop 2).take 6 ++ (R.drop 8).take 6 := by
      have := split14 R 0 (by omega)
      simpa using this
    rw [hR14, take_two R h2, hr0, e1] at t14
    obtain ⟨p1, q2⟩ := List.append_inj t14 (by simp only [List.length_append, List.length_cons, List.length_nil, cut_len R 2 6 (by omega), Bs.A1o])
    have q1 : (R.drop 2).take 6 = Bs.low (LL x : Int) 6 := List.append_cancel_left p1
    have hl := ld_lt hR hl14
    have hsd := sd_lt hR hl14
    rw [q1, Bs.A32] at hl
    rw [q2, Bs.A32] at hsd
    have k6 : (2 : Int) ^ 6 = 64 := by decide
    rw [k6] at hl hsd
    have eL : ld R = LL x := by omega
    have eS : sd R = SS x := by omega
    rw [eL, eS] at hbody
    rw [split14 R (sd R) hh, take_two R h2, hr0, e1, q1, q2, eS, hbody]
theorem take_k (b : List Int) (hb : Bs.Bytes b) (hl : 8 * b.length < 140737488355328) (a n : Int) (ok : Bool) :
    Ev (fun k => A13.f k b a ok n) ((PBits.tk (Bs.flat b) a n).1, b, wrap64 (a + n), ok && (PBits.tk (Bs.flat b) a n).2) := by
  refine Ev.bind (PBits.Take_is b hb hl a n) ?_
  cases ok
  · exact Ev.now _
  · exact Ev.now _
theorem tk_yes (L : List Int) (A c n : Nat) (hn : n ≤ 64) (hA : A ≤ L.length) (h : c + n ≤ (L.drop A).length) : PBits.tk L ((A + c : Nat) : Int) (n : Int) = (Bs.number (((L.drop A).drop c).take n), true) := by
 rw [List.length_drop] at h
 rw [PBits.tk_yes (by omega), Int.toNat_natCast, Int.toNat_natCast, List.drop_drop]
theorem tk_no (L : List Int) (A c n : Nat) (hn : n ≤ 64) (hA : A ≤ L.length) (h : (L.drop A).length < c + n) : PBits.tk L ((A + c : Nat) : Int) (n : Int) = (0, false) := by
 rw [List.length_drop] at h
 exact PBits.tk_no (by omega)
theorem wr_at (A c n : Nat) (h : A + c + n < 140737488355328) : wrap64 (((A + c : Nat) : Int) + (n : Int)) = ((A + (c + n) : Nat) : Int) := by rw [PBits.w64 _ (by omega)]; omega
theorem wrk (A : Nat) (hA : A < 70368744177664) (c n : Nat) (h : c + n ≤ 1000) : wrap64 (((A + c : Nat) : Int) + (n : Int)) = ((A + (c + n) : Nat) : Int) := wr_at A c n (by omega)
theorem nz {x : Nat} (h : ¬ x = 0) : ¬ ((x : Int) = 0) := by omega
theorem gtc {x : Nat} (h : x > 64) : ((x : Nat) : Int) > 64 := by omega
theorem gtc' {x : Nat} (h : ¬ x > 64) : ¬ ((x : Nat) : Int) > 64 := by omega
theorem wadd (a c : Nat) (h : a ≤ 64) (h' : c ≤ 64) : wrap64 ((a : Int) + (c : Int)) = ((a + c : Nat) : Int) := by rw [PBits.w64 _ (by omega)]; omega
theorem wsub (a c : Nat) (h : a + c ≤ 64) : wrap64 (wrap64 (64 - (a : Int)) - (c : Int)) = ((64 - a - c : Nat) : Int) := by rw [PBits.w64 (64 - (a : Int)) (by omega), PBits.w64 _ (by omega)]; omega
theorem shl_u64 (x : Int) (s : Nat) (h : s ≤ 64) (h0 : 0 ≤ x * 2 ^ s ∧ x * 2 ^ s < 18446744073709551616) : shl .u64 x (s : Int) = x * 2 ^ s := by
 unfold shl
 simp only [Int.toNat_natCast]
 rw [show min s IntKind.u64.bits = s from Nat.min_eq_left h, Ib.wrap_u64]
 exact Int.emod_eq_of_lt h0.1 h0.2
theorem shl_xv (R : List Int) (h lead size : Nat) (hs : lead + size ≤ 64) (hx : 0 ≤ xv R h lead size ∧ xv R h lead size < 18446744073709551616) : shl .u64 (Bs.number ((R.drop h).take size)) ((64 - lead - size : Nat) : Int) = xv R h lead size := shl_u64 _ _ (Nat.le_trans (Nat.sub_le _ _) (Nat.sub_le _ _)) hx
theorem wsm (x : Nat) (h : x < 64) : wrap64 (x : Int) = (x : Int) := PBits.w64 _ (by omega)
theorem wsn (x : Nat) (h1 : 1 ≤ x) (h : x ≤ 64) : wrap64 (wrap64 ((x : Int) - 1) + 1) = (x : Int) := by rw [PBits.w64 ((x : Int) - 1) (by omega), PBits.w64 _ (by omega)]; omega
theorem number_one (x : Int) : Bs.number [x] = x := by simp [Bs.number]
theorem num1' (R : List Int) (c : Nat) (hc : c < R.length) : Bs.number ((R.drop c).take 1) = rd R (c : Int) := by
 rw [PBits.rd_at _ _ hc, List.drop_eq_getElem_cons hc]
 rw [show (R[c] :: R.drop (c + 1)).take 1 = [R[c]] from rfl]
 exact number_one _
theorem num1 (R : List Int) (hc : 0 < R.length) : Bs.number (R.take 1) = rd R 0 := num1' R 0 hc
theorem bit01 {R : List Int} (hR : Bs.Bits R) (c : Nat) (hc : c < R.length) : rd R (c : Int) = 0 ∨ rd R (c : Int) = 1 := by
 rw [PBits.rd_at _ _ hc]
 exact hR _ (List.getElem_mem hc)
theorem take1 (R : List Int) (h : 0 < R.length) (h0 : rd R 0 = 0) : R.take 1 = [0] := by
 match R, h with
 | a :: R, _ =>
  have : a = 0 := h0
  rw [this]; rfl
section
variable (b : List Int) (hb : Bs.Bytes b) (hl : 8 * b.length < 70368744177664) (p : Int) (hp : 0 ≤ p ∧ p < 18446744073709551616) (l n : Nat) (hln : l + n ≤ 64) (A : Nat) (hA : A ≤ (Bs.flat b).length)
include hb hl hp hln hA
theorem Get_j3 (x : Int) (hx : 0 ≤ x ∧ x < 18446744073709551616) (c : Nat) (h1 : 1 ≤ c) (hc : c ≤ ((Bs.flat b).drop A).length) :
    Ev (fun k => A1p.j3 k b (A : Int) x p (l : Int) (n : Int) b ((A + c : Nat) : Int) true)
      (if (cb l n x).length = c ∧ ((Bs.flat b).drop A).take (min c 64) = (cb l n x).take (min c 64) then (Go.bits .xor .u64 p x, Go.bits .xor .u64 p x, (cl l n x : Int), (cn l n x : Int), (c : Int), none) else (0, 0, 0, 0, 0, some 3)) := by
  have hfl := Bs.A2k b
  have hfb := Bs.flat_bits b
  have hdl := List.length_drop (l := Bs.flat b) (i := A)
  have hxr := xor_range p x hp hx
  have hcode := Code_is p (Go.bits .xor .u64 p x) l n hp hxr hln (xor_back p x hp hx)
  have hN := cb_short l n x hln hx.1 hx.2
  have hcb := cb_bits l n x
  have hpl := Bs.A3a (cb l n x)
  generalize hK : cb l n x = C at *
  have hm : mn (C.length : Int) 64 = ((min C.length 64 : Nat) : Int) := by unfold mn; split <;> omega
  refine Ev.step (fun k => by rw [A1p.j3, if_pos rfl]) (Ev.bind hcode ?_)
  have ht1 := PBits.Take_is b hb (by omega) (A : Int) ((min C.length 64 : Nat) : Int)
  have ht2 := PBits.Take_is (Bs.pack C) (Bs.pack_bytes hcb) (by omega) 0 ((min C.length 64 : Nat) : Int)
  refine Ev.congr (fun k => by rw [hm]) (Ev.bind ht1 (Ev.bind ht2 ?_))
  have hw : wrap64 (((A + c : Nat) : Int) - (A : Int)) = (c : Int) := by rw [PBits.w64 _ (by omega)]; omega
  have hwant : PBits.tk (Bs.flat (Bs.pack C)) 0 ((min C.length 64 : Nat) : Int) = (Bs.number (C.take (min C.length 64)), true) := by
    have hfp := Bs.flat_pack hcb
    have hlen : (Bs.flat (Bs.pack C)).length = 8 * ((C.length + 7) / 8) := by rw [Bs.A2k, hpl]
    rw [PBits.tk_yes (by omega)]
    simp only [Int.toNat_natCast, Int.toNat_zero, List.drop_zero]
    rw [hfp, List.take_append_of_le_length (by omega)]
  rw [hwant]
  by_cases e : C.length = c
  · subst e
    have hraw := tk_yes (Bs.flat b) A 0 (min C.length 64) (by omega) hA (by omega)
    rw [Nat.add_zero, List.drop_zero] at hraw
    rw [hraw]
    refine Ev.congr (fun k => by rw [hw, if_pos rfl]) ?_
    by_cases e2 : ((Bs.flat b).drop A).take (min C.length 64) = C.take (min C.length 64)
    · have e3 : C.length = C.length ∧ ((Bs.flat b).drop A).take (min C.length 64) = C.take (min C.length 64) := ⟨rfl, e2⟩
      rw [if_pos e3]
      refine Ev.congr (fun k => by rw [if_pos (by rw [e2])]) (Ev.now _)
    · have e3 : ¬ (C.length = C.length ∧ ((Bs.flat b).drop A).take (min C.length 64) = C.take (min C.length 64)) := fun h => e2 h.2
      rw [if_neg e3]
      refine Ev.congr (fun k => ?_) (Ev.now _)
      rw [if_neg]
      · rfl
      · intro h
        refine e2 (Bs.number_inj ((hfb.drop A).take _) (hcb.take _) ?_ h)
        rw [List.length_take, List.length_take]
        omega
  · have e3 : ¬ (C.length = c ∧ ((Bs.flat b).drop A).take (min c 64) = C.take (min c 64)) := fun h => e h.1
    rw [if_neg e3]
    refine Ev.congr (fun k => ?_) (Ev.now _)
    rw [hw, if_neg (show ¬ ((C.length : Int) = (c : Int)) by omega)]
    rfl
theorem Get_fail (k : Nat) (x : Int) (b' : List Int) (a' : Int) : A1p.j3 (k + 1) b (A : Int) x p (l : Int) (n : Int) b' a' false = some (gi (0, 0, 0, 0, 0, 2)) := by
 rw [A1p.j3, if_neg (by decide)]
 rfl
theorem Get_fail3 (k : Nat) (x y : Int) (b' : List Int) (a' : Int) (q : Bool) (z : Int) : A1p.j2 (k + 1) b (A : Int) x y true z (l : Int) (n : Int) b' a' q = some (gi (0, 0, 0, 0, 0, 3)) := by
 rw [A1p.j2, if_pos rfl]
 rfl
theorem Get_j1 (hA47 : A < 70368744177664) (hb8 : 8 * b.length < 140737488355328) (hRb : Bs.Bits ((Bs.flat b).drop A)) (h lead size : Nat) (hs : size ≤ 64) (hld : lead ≤ 64) (hh : h ≤ ((Bs.flat b).drop A).length) (h2 : 2 ≤ h) (h14 : h ≤ 14) (hr0 : rd ((Bs.flat b).drop A) 0 = 1)
    (hk : (h = 2 ∧ lead = l ∧ size = n ∧ rd ((Bs.flat b).drop A) 1 = 0) ∨ (h = 14 ∧ lead = ld ((Bs.flat b).drop A) ∧ size = sd ((Bs.flat b).drop A) ∧ rd ((Bs.flat b).drop A) 1 = 1)) (z : Bool) :
    Ev (fun k => A1p.j1 k b (A : Int) (lead : Int) (size : Int) z p (l : Int) (n : Int) b ((A + h : Nat) : Int) true) (gi (bd p l n ((Bs.flat b).drop A) h lead size)) := by
  unfold bd
  by_cases c0 : size = 0
  · rw [if_pos (.inl c0)]
    subst c0
    refine Ev.step (fun k => by rw [A1p.j1, if_pos (by decide)]) ?_
    exact Ev.step (g := fun k => _) (fun k => Get_fail3 b hb hl p hp l n hln A hA k _ _ _ _ _ _) (Ev.now (gi (0, 0, 0, 0, 0, 3)))
  refine Ev.step (fun k => by rw [A1p.j1, if_neg (nz c0), wadd lead size hld hs]) ?_
  by_cases c1 : lead + size > 64
  · rw [if_pos (.inr c1), decide_eq_true (gtc c1)]
    exact Ev.step (g := fun k => _) (fun k => Get_fail3 b hb hl p hp l n hln A hA k _ _ _ _ _ _) (Ev.now (gi (0, 0, 0, 0, 0, 3)))
  have c1' : lead + size ≤ 64 := Nat.le_of_not_lt c1
  rw [if_neg (fun h => h.elim c0 c1), decide_eq_false (gtc' c1)]
  have ht := take_k b hb hb8 ((A + h : Nat) : Int) (size : Int) true
  refine Ev.step (fun k => by rw [A1p.j2, if_neg Bool.false_ne_true, wsub lead size c1']) (Ev.bind ht ?_)
  refine Ev.congr (fun k => by rw [if_pos (Int.natCast_nonneg _)]) ?_
  by_cases c2 : ((Bs.flat b).drop A).length < h + size
  · rw [if_pos c2, tk_no (Bs.flat b) A h size hs hA c2]
    exact Ev.step (g := fun k => _) (fun k => Get_fail b hb hl p hp l n hln A hA k _ _ _) (Ev.now _)
  have c2' : h + size ≤ ((Bs.flat b).drop A).length := Nat.le_of_not_lt c2
  rw [if_neg c2, tk_yes (Bs.flat b) A h size hs hA c2', wrk A hA47 h size (Nat.le_trans (Nat.add_le_add h14 hs) (by decide))]
  have hxr := xv_range hRb h lead size c2' c1'
  simp only [Bool.and_true]
  rw [shl_xv _ _ _ _ c1' hxr]
  have h3 := Get_j3 b hb hl p hp l n hln A hA _ hxr (h + size) (Nat.le_trans (Nat.le_trans (by decide) h2) (Nat.le_add_right _ _)) c2'
  by_cases e : cb l n (xv ((Bs.flat b).drop A) h lead size) = ((Bs.flat b).drop A).take (h + size)
  · rw [if_pos e]
    rw [e] at h3
    have e3 : (((Bs.flat b).drop A).take (h + size)).length = h + size ∧ ((Bs.flat b).drop A).take (min (h + size) 64) = (((Bs.flat b).drop A).take (h + size)).take (min (h + size) 64) := by
      refine ⟨by rw [List.length_take]; exact Nat.min_eq_left c2', by rw [List.take_take, Nat.min_eq_left (Nat.min_le_left _ _)]⟩
    rw [if_pos e3] at h3
    exact h3
  · rw [if_neg e]
    rw [if_neg (fun hc => e (full hRb l n h lead size c2' c1' (Nat.pos_of_ne_zero c0) hln hr0 hk hc.1 hc.2))] at h3
    exact h3
theorem Get_11 (hA47 : A < 70368744177664) (hb8 : 8 * b.length < 140737488355328) (hRb : Bs.Bits ((Bs.flat b).drop A)) (z : Bool) (hr0 : rd ((Bs.flat b).drop A) 0 = 1) (hr1 : rd ((Bs.flat b).drop A) 1 = 1) (h2 : 2 ≤ ((Bs.flat b).drop A).length) :
    Ev (fun k => (A13.f k b ((A + 2 : Nat) : Int) true 6).bind fun bt171 => (A13.f k bt171.2.1 bt171.2.2.1 bt171.2.2.2 6).bind fun bt175 => if bt175.2.2.2 = true then (A1p.j1 k b (A : Int) (wrap64 (bt171.1)) (wrap64 ((wrap64 (bt175.1)) + 1)) z p (l : Int) (n : Int) bt175.2.1 bt175.2.2.1 bt175.2.2.2) else ((A23.f 2).bind fun bt179 => (some (bt179.1, bt179.2.1, bt179.2.2.1, bt179.2.2.2.1, bt179.2.2.2.2.1, bt179.2.2.2.2.2))))
      (gi (if ((Bs.flat b).drop A).length < 14 then (0, 0, 0, 0, 0, 2) else bd p l n ((Bs.flat b).drop A) 14 (ld ((Bs.flat b).drop A)) (sd ((Bs.flat b).drop A)))) := by
  have t3 := take_k b hb hb8 ((A + 2 : Nat) : Int) 6 true
  rw [show wrap64 (((A + 2 : Nat) : Int) + 6) = ((A + 8 : Nat) : Int) from wrk A hA47 2 6 (by decide)] at t3
  refine Ev.bind t3 ?_
  have t4 := take_k b hb hb8 ((A + 8 : Nat) : Int) 6 (true && (PBits.tk (Bs.flat b) ((A + 2 : Nat) : Int) 6).2)
  rw [show wrap64 (((A + 8 : Nat) : Int) + 6) = ((A + 14 : Nat) : Int) from wrk A hA47 8 6 (by decide)] at t4
  refine Ev.bind t4 ?_
  by_cases c4 : ((Bs.flat b).drop A).length < 14
  · rw [if_pos c4]
    have hno := tk_no (Bs.flat b) A 8 6 (by decide) hA c4
    rw [show PBits.tk (Bs.flat b) ((A + 8 : Nat) : Int) 6 = (0, false) from hno]
    simp only [Bool.and_false]
    exact Ev.congr (fun k => if_neg (by simp)) (Ev.now _)
  rw [if_neg c4]
  have c4' : 14 ≤ ((Bs.flat b).drop A).length := Nat.le_of_not_lt c4
  have hy2 := tk_yes (Bs.flat b) A 2 6 (by decide) hA (Nat.le_trans (by decide) c4')
  have hy3 := tk_yes (Bs.flat b) A 8 6 (by decide) hA c4'
  rw [show PBits.tk (Bs.flat b) ((A + 2 : Nat) : Int) 6 = _ from hy2, show PBits.tk (Bs.flat b) ((A + 8 : Nat) : Int) 6 = _ from hy3]
  have hl1 := ld_lt hRb c4'
  have hs1 := sd_lt hRb c4'
  have h3 := Get_j1 b hb hl p hp l n hln A hA hA47 hb8 hRb 14 (ld ((Bs.flat b).drop A)) (sd ((Bs.flat b).drop A)) hs1.2.1 (Nat.le_of_lt hl1.2) c4' (by decide) (by decide) hr0 (.inr ⟨rfl, rfl, rfl, hr1⟩) z
  rw [← hl1.1]
  have e8 : Bs.number ((((Bs.flat b).drop A).drop 8).take 6) = (sd ((Bs.flat b).drop A) : Int) - 1 := by rw [hs1.1]; exact (Int.add_sub_cancel _ _).symm
  rw [e8]
  refine Ev.congr (fun k => ?_) h3
  simp only [Bool.and_true, if_true]
  rw [wsm _ hl1.2, wsn _ hs1.2.2 hs1.2.1]
theorem Get_in (hA47 : A < 70368744177664) (hb8 : 8 * b.length < 140737488355328) (hRb : Bs.Bits ((Bs.flat b).drop A)) : Ev (fun k => A1p.j0 k b (A : Int) false p (l : Int) (n : Int)) (gi (xg p l n ((Bs.flat b).drop A))) := by
 have t1 := take_k b hb hb8 (A : Int) 1 true
 rw [show wrap64 ((A : Int) + 1) = ((A + 1 : Nat) : Int) from wrk A hA47 0 1 (by decide)] at t1
 refine Ev.step (fun k => by rw [A1p.j0, if_neg (by decide)]) (Ev.bind t1 ?_)
 unfold xg
 by_cases c0 : ((Bs.flat b).drop A).length = 0
 ·rw [if_pos c0]
  have := tk_no (Bs.flat b) A 0 1 (by decide) hA (by rw [c0]; decide)
  rw [show PBits.tk (Bs.flat b) (A : Int) 1 = (0, false) from this]
  refine Ev.congr (fun k => if_neg (by simp)) ?_
  exact Ev.step (g := fun k => _) (fun k => Get_fail b hb hl p hp l n hln A hA k _ _ _) (Ev.now _)
 rw [if_neg c0]
 have c0' : 1 ≤ ((Bs.flat b).drop A).length := Nat.pos_of_ne_zero c0
 have hy := tk_yes (Bs.flat b) A 0 1 (by decide) hA c0'
 rw [List.drop_zero, num1 _ c0'] at hy
 rw [show PBits.tk (Bs.flat b) (A : Int) 1 = (rd ((Bs.flat b).drop A) 0, true) from hy]
 simp only [Bool.and_true]
 by_cases c1 : rd ((Bs.flat b).drop A) 0 = 0
 ·rw [if_pos c1]
  refine Ev.congr (fun k => if_neg (by rw [c1]; decide)) ?_
  have h3 := Get_j3 b hb hl p hp l n hln A hA 0 (by decide) 1 (Nat.le_refl _) c0'
  have hcz : cb l n 0 = [0] := by unfold cb; rw [if_pos rfl]
  have ht : ((Bs.flat b).drop A).take 1 = [0] := take1 _ c0' c1
  have e1 : cl l n 0 = l := by unfold cl; rw [if_pos rfl]
  have e2 : cn l n 0 = n := by unfold cn; rw [if_pos rfl]
  rw [hcz, Ib.xor_u64_zero p hp, e1, e2] at h3
  have e3 : ([0] : List Int).length = 1 ∧ ((Bs.flat b).drop A).take (min 1 64) = ([0] : List Int).take (min 1 64) := ⟨rfl, ht⟩
  rw [if_pos e3] at h3
  exact h3
 rw [if_neg c1]
 have r0 : rd ((Bs.flat b).drop A) 0 = 1 := (bit01 hRb 0 c0').resolve_left c1
 have t2 := take_k b hb hb8 ((A + 1 : Nat) : Int) 1 true
 rw [show wrap64 (((A + 1 : Nat) : Int) + 1) = ((A + 2 : Nat) : Int) from wrk A hA47 1 1 (by decide)] at t2
 refine Ev.congr (fun k => if_pos r0) (Ev.bind t2 ?_)
 by_cases c2 : ((Bs.flat b).drop A).length = 1
 ·rw [if_pos c2]
  have := tk_no (Bs.flat b) A 1 1 (by decide) hA (by rw [c2]; decide)
  rw [show PBits.tk (Bs.flat b) ((A + 1 : Nat) : Int) 1 = (0, false) from this]
  exact Ev.congr (fun k => if_neg (by simp)) (Ev.now _)
 rw [if_neg c2]
 have c2' : 2 ≤ ((Bs.flat b).drop A).length := Nat.lt_of_le_of_ne c0' (Ne.symm c2)
 have hy1 := tk_yes (Bs.flat b) A 1 1 (by decide) hA c2'
 rw [num1' _ 1 c2'] at hy1
 rw [show PBits.tk (Bs.flat b) ((A + 1 : Nat) : Int) 1 = (rd ((Bs.flat b).drop A) 1, true) from hy1]
 simp only [Bool.and_true, if_true]
 by_cases c3 : rd ((Bs.flat b).drop A) 1 = 1
 ·rw [if_pos c3]
  refine Ev.congr (fun k => if_pos c3) ?_
  exact Get_11 b hb hl p hp l n hln A hA hA47 hb8 hRb _ r0 c3 c2'
 ·rw [if_neg c3]
  have r1 : rd ((Bs.flat b).drop A) 1 = 0 := (bit01 hRb 1 c2').resolve_right c3
  refine Ev.congr (fun k => if_neg c3) ?_
  exact Get_j1 b hb hl p hp l n hln A hA hA47 hb8 hRb 2 l n (Nat.le_trans (Nat.le_add_left _ _) hln) (Nat.le_trans (Nat.le_add_right _ _) hln) c2' (by decide) (by decide) r0 (.inl ⟨rfl, rfl, rfl, r1⟩) _
end
theorem xg_nil (p : Int) (l n : Nat) : xg p l n [] = (0, 0, 0, 0, 0, 2) := by unfold xg; exact if_pos rfl
theorem Get_is (b : List Int) (hb : Bs.Bytes b) (hl : 8 * b.length < 70368744177664) (p : Int) (hp : 0 ≤ p ∧ p < 18446744073709551616) (l n : Nat) (hln : l + n ≤ 64) (a : Int) :
    Ev (fun k => A1p.f k p (l : Int) (n : Int) b a) (gi (xg p l n (PDod.restL (Bs.flat b) a))) := by
  have hfl := Bs.A2k b
  have w8 : wrap64 (8 * (b.length : Int)) = 8 * (b.length : Int) := PBits.w64 _ (by omega)
  unfold PDod.restL
  by_cases c1 : a < 0
  · rw [if_pos (.inl c1), xg_nil]
    refine Ev.congr (fun k => by unfold A1p.f; rw [if_pos c1]) ?_
    exact Ev.step (g := fun k => _) (fun k => by rw [A1p.j0, if_pos rfl]; rfl) (Ev.now (gi (0, 0, 0, 0, 0, 2)))
  by_cases c2 : a > ((Bs.flat b).length : Int)
  · rw [if_pos (.inr c2), xg_nil]
    refine Ev.congr (fun k => by unfold A1p.f; rw [if_neg c1, w8, decide_eq_true (by omega)]) ?_
    exact Ev.step (g := fun k => _) (fun k => by rw [A1p.j0, if_pos rfl]; rfl) (Ev.now (gi (0, 0, 0, 0, 0, 2)))
  rw [if_neg (by omega)]
  have h := Get_in b hb hl p hp l n hln a.toNat (by omega) (by omega) (by omega) ((Bs.flat_bits b).drop a.toNat)
  rw [show ((a.toNat : Nat) : Int) = a from by omega] at h
  refine Ev.congr (fun k => by unfold A1p.f; rw [if_neg c1, w8, decide_eq_false (by omega)]) h
end Go.Proofs.YtiahbcaoikoogabDoor.PXor
end
section
namespace Go.Proofs.YtiahbcaoikoogabDoor.PXor
open Go Go.RowKit Go.Proofs.YtiahbcaoikoogabDoor Go.Proofs.YtiahbcaoikoogabDoor.All Go.Proofs.YtiahbcaoikoogabDoorW.PrintWords Go.Proofs.YtiahbcaoikoogabDoorW.PrintLast
set_option linter.unusedVariables false
set_option linter.unusedSimpArgs false
set_option linter.unusedSectionVars false
theorem xg_ok (p : Int) (l n : Nat) (hln : l + n ≤ 64) (hp : 0 ≤ p ∧ p < 18446744073709551616) (R : List Int) (hR : Bs.Bits R) (h : (xg p l n R).2.2.2.2.2 = 0) :
    ∃ (d : Int) (m : Nat), 0 ≤ d ∧ d < 18446744073709551616 ∧ 1 ≤ m ∧ m ≤ R.length ∧ cb l n d = R.take m ∧ xg p l n R = (Go.bits .xor .u64 p d, Go.bits .xor .u64 p d, (cl l n d : Int), (cn l n d : Int), (m : Int), 0) := by
  have hbd : ∀ (h lead size : Nat), (bd p l n R h lead size).2.2.2.2.2 = 0 → ∃ (d : Int) (m : Nat), 0 ≤ d ∧ d < 18446744073709551616 ∧ 1 ≤ m ∧ m ≤ R.length ∧ cb l n d = R.take m ∧ bd p l n R h lead size = (Go.bits .xor .u64 p d, Go.bits .xor .u64 p d, (cl l n d : Int), (cn l n d : Int), (m : Int), 0) := by
    intro h lead size hh
    unfold bd at hh ⊢
    by_cases c0 : size = 0 ∨ lead + size > 64
    · rw [if_pos c0] at hh
      exact absurd hh (by decide)
    rw [if_neg c0] at hh ⊢
    by_cases c1 : R.length < h + size
    · rw [if_pos c1] at hh
      exact absurd hh (by decide)
    rw [if_neg c1] at hh ⊢
    by_cases c2 : cb l n (xv R h lead size) = R.take (h + size)
    · rw [if_pos c2]
      have hx := xv_range hR h lead size (by omega) (by omega)
      exact ⟨_, _, hx.1, hx.2, by omega, by omega, c2, rfl⟩
    · rw [if_neg c2] at hh
      exact absurd hh (by decide)
  unfold xg at h ⊢
  by_cases c0 : R.length = 0
  · rw [if_pos c0] at h
    exact absurd h (by decide)
  rw [if_neg c0] at h ⊢
  by_cases c1 : rd R 0 = 0
  · rw [if_pos c1]
    refine ⟨0, 1, by decide, by decide, by decide, by omega, ?_, ?_⟩
    · rw [take1 R (by omega) c1]
      unfold cb
      rw [if_pos rfl]
    · unfold cl cn
      rw [if_pos rfl, if_pos rfl, Ib.xor_u64_zero p hp]
      rfl
  rw [if_neg c1] at h ⊢
  by_cases c2 : R.length = 1
  · rw [if_pos c2] at h
    exact absurd h (by decide)
  rw [if_neg c2] at h ⊢
  by_cases c3 : rd R 1 = 1
  · rw [if_pos c3] at h ⊢
    by_cases c4 : R.length < 14
    · rw [if_pos c4] at h
      exact absurd h (by decide)
    rw [if_neg c4] at h ⊢
    exact hbd _ _ _ h
  · rw [if_neg c3] at h ⊢
    exact hbd _ _ _ h
end Go.Proofs.YtiahbcaoikoogabDoor.PXor
end
