-- declarations that this claim needs, copied by a program of the session
import Derived.Test.YtiahbcaoikoogaaDoorKcPXor
import Derived.Test.YtiahbcaoikoogaaDoorKcAllx31
import Derived.Test.YtiahbcaoikoogaaDoorKcSa
import Derived.Test.YtiahbcaoikoogaaDoorKcAllx9
import Derived.Lib.Bytes
section
namespace Go.Proofs.YtiahbcaoikoogaaDoor.PXor
open Go Go.RowKit Go.Proofs.YtiahbcaoikoogaaDoor Go.Proofs.YtiahbcaoikoogaaDoor.All Go.Proofs.YtiahbcaoikoogaaDoorW.PrintWords Go.Proofs.YtiahbcaoikoogaaDoorW.PrintLast
set_option linter.unusedVariables false
set_option linter.unusedSimpArgs false
theorem low_drop (v : Int) (l n m : Nat) : ((Bs.low v (l + n + m)).take (l + n)).drop l = Bs.low (v / 2 ^ m) n := by
  rw [Bs.low_append m (l + n) v, List.take_append_of_le_length (Nat.le_of_eq (Bs.low_length ..).symm), List.take_of_length_le (Nat.le_of_eq (Bs.low_length ..)), Bs.low_append n l (v / 2 ^ m), List.drop_append_of_le_length (Nat.le_of_eq (Bs.low_length ..).symm), List.drop_of_length_le (Nat.le_of_eq (Bs.low_length ..)), List.nil_append]
theorem low_cut (d : Int) (l n : Nat) (h : l + n ≤ 64) : ((Bs.low d 64).take (l + n)).drop l = Bs.low (d / 2 ^ (64 - l - n)) n := by
  have := low_drop d l n (64 - l - n)
  rw [show l + n + (64 - l - n) = 64 from by omega] at this
  exact this
theorem low64_at (d : Int) (j : Nat) (h : j < 64) : rd (Bs.low d 64) (j : Int) = d / 2 ^ (63 - j) % 2 := by
  rw [PBits.rd_at _ _ (by rw [Bs.low_length]; exact h), PBits.low_at]
theorem bit_before (d : Int) (hw : Win d) (h0 : 0 < d) (j : Nat) (h : j < LL d) : d / 2 ^ (63 - j) % 2 = 0 := by
  have h1 := hw.lt
  have h2 := hw.hi
  have h3 : (2 : Int) ^ (64 - LL d) ≤ 2 ^ (63 - j) := PBits.pow_le (by omega)
  rw [Int.ediv_eq_zero_of_lt (by omega) (by omega)]
  rfl
theorem bit_first (d : Int) (hw : Win d) : d / 2 ^ (63 - LL d) % 2 = 1 := by rw [hw.top]; rfl
theorem bit_last (d : Int) (hw : Win d) : d / 2 ^ (63 - (LL d + SS d - 1)) % 2 = 1 := by
  have h1 := hw.pos
  have h2 := hw.le
  rw [show 63 - (LL d + SS d - 1) = 64 - LL d - SS d from by omega]
  exact hw.odd
theorem bit_behind (d : Int) (hw : Win d) (j : Nat) (h : LL d + SS d ≤ j) (h64 : j < 64) : d / 2 ^ (63 - j) % 2 = 0 := by
  have h1 := hw.pos
  have h2 := hw.le
  have hm := hw.mul
  generalize d / 2 ^ (64 - LL d - SS d) = q at hm
  have e : 64 - LL d - SS d = (63 - j) + (j - (LL d + SS d)) + 1 := by omega
  rw [hm, e, Int.pow_add, Int.pow_add, show q * (2 ^ (63 - j) * 2 ^ (j - (LL d + SS d)) * 2 ^ 1) = (q * 2 ^ (j - (LL d + SS d)) * 2) * 2 ^ (63 - j) from by
    rw [show (2 : Int) ^ 1 = 2 from rfl, Int.mul_assoc (2 ^ (63 - j)), Int.mul_comm (2 ^ (63 - j)), ← Int.mul_assoc, ← Int.mul_assoc]]
  rw [Int.mul_ediv_cancel _ (Int.ne_of_gt (Bs.pow_pos _))]
  omega
def Sc (d : Int) (i : Nat) (f l : Int) : Prop :=
  (i ≤ LL d ∧ f = -1 ∧ l = -1) ∨ (LL d < i ∧ f = (LL d : Int) ∧ ∃ z : Nat, l = (z : Int) ∧ z < i ∧ d / 2 ^ (63 - z) % 2 = 1 ∧ ∀ j, z < j → j < i → d / 2 ^ (63 - j) % 2 = 0)
theorem Code_l0 (d : Int) (hw : Win d) (h0 : 0 < d) (v p : Int) (a b : Int) (R : List Int × Int × Int × Int)
    (hend : Ev (fun k => gaiterref01_Code.l0 k v (Bs.low d 64) (LL d : Int) ((LL d + SS d - 1 : Nat) : Int) 64 p a b) R) :
    ∀ (e i : Nat) (f l : Int), i + e = 64 → Sc d i f l → Ev (fun k => gaiterref01_Code.l0 k v (Bs.low d 64) f l (i : Int) p a b) R := by
  intro e
  have g1 := hw.lt
  have g2 := hw.pos
  have g3 := hw.le
  induction e with
  | zero =>
    intro i f l hi hs
    obtain rfl : i = 64 := by omega
    rcases hs with ⟨h, _, _⟩ | ⟨h1, rfl, z, rfl, hz1, hz2, hz3⟩
    · omega
    · obtain rfl : z = LL d + SS d - 1 := by
        rcases Nat.lt_trichotomy z (LL d + SS d - 1) with h | h | h
        · have := hz3 (LL d + SS d - 1) h (by omega)
          rw [bit_last d hw] at this
          omega
        · exact h
        · have := bit_behind d hw z (by omega) hz1
          omega
      exact hend
  | succ e ih =>
    intro i f l hi hs
    have hi1 : (i : Int) < 64 := by omega
    have hwr : wrap64 ((i : Int) + 1) = ((i + 1 : Nat) : Int) := by rw [PBits.w64 _ (by omega)]; omega
    have hlen : (i : Int) < ((Bs.low d 64).length : Int) := by rw [Bs.low_length]; omega
    have hrd := low64_at d i (by omega)
    by_cases hb : d / 2 ^ (63 - i) % 2 = 1
    · have hge : LL d ≤ i := by
        apply Nat.le_of_not_lt
        intro hlt
        have := bit_before d hw h0 i hlt
        omega
      rcases hs with ⟨h, rfl, rfl⟩ | ⟨h1, rfl, z, rfl, hz1, hz2, hz3⟩
      · obtain rfl : i = LL d := by omega
        refine Ev.step (fun k => ?_) (ih (LL d + 1) (LL d : Int) (LL d : Int) (by omega) (.inr ⟨by omega, rfl, LL d, rfl, by omega, hb, fun j h1 h2 => by omega⟩))
        rw [gaiterref01_Code.l0, if_pos hi1, if_pos (Int.natCast_nonneg _), if_pos hlen, hrd, if_pos hb, if_pos (by decide), hwr]
      · refine Ev.step (fun k => ?_) (ih (i + 1) (LL d : Int) (i : Int) (by omega) (.inr ⟨by omega, rfl, i, rfl, by omega, hb, fun j h1 h2 => by omega⟩))
        rw [gaiterref01_Code.l0, if_pos hi1, if_pos (Int.natCast_nonneg _), if_pos hlen, hrd, if_pos hb, if_neg (by omega), hwr]
    · have hb0 : d / 2 ^ (63 - i) % 2 = 0 := by omega
      refine Ev.step (fun k => ?_) (ih (i + 1) f l (by omega) ?_)
      · rw [gaiterref01_Code.l0, if_pos hi1, if_pos (Int.natCast_nonneg _), if_pos hlen, hrd, if_neg hb, hwr]
      · rcases hs with ⟨h, h2, h3⟩ | ⟨h1, h2, z, h3, hz1, hz2, hz3⟩
        · refine .inl ⟨?_, h2, h3⟩
          have : i ≠ LL d := by
            rintro rfl
            exact hb (bit_first d hw)
          omega
        · refine .inr ⟨by omega, h2, z, h3, by omega, hz2, fun j h5 h6 => ?_⟩
          by_cases hj : j = i
          · subst hj; exact hb0
          · exact hz3 j h5 (by omega)
theorem Code_zero (v p a b : Int) (R : List Int × Int × Int × Int) (hend : Ev (fun k => gaiterref01_Code.l0 k v (Bs.low 0 64) (-1) (-1) 64 p a b) R) :
    ∀ (e i : Nat), i + e = 64 → Ev (fun k => gaiterref01_Code.l0 k v (Bs.low 0 64) (-1) (-1) (i : Int) p a b) R := by
  intro e
  induction e with
  | zero => intro i hi; obtain rfl : i = 64 := by omega
            exact hend
  | succ e ih =>
    intro i hi
    have hi1 : (i : Int) < 64 := by omega
    have hwr : wrap64 ((i : Int) + 1) = ((i + 1 : Nat) : Int) := by rw [PBits.w64 _ (by omega)]; omega
    have hlen : (i : Int) < ((Bs.low 0 64).length : Int) := by rw [Bs.low_length]; omega
    refine Ev.step (fun k => ?_) (ih (i + 1) (by omega))
    rw [gaiterref01_Code.l0, if_pos hi1, if_pos (Int.natCast_nonneg _), if_pos hlen, low64_at 0 i (by omega), Int.zero_ediv, if_neg (by decide), hwr]
theorem lt47 (a b : List Int) (h : a.length + b.length ≤ 1000) : a.length + b.length < 140737488355328 := by omega
theorem RCode_j1 (D : List Int) (hD : D.length = 64) (L S l n : Nat) (hL : L < 64) (hS : 1 ≤ S) (hLS : L + S ≤ 64) (hln : l + n ≤ 64) (v p : Int) (b : Bool) :
    Ev (fun k => gaiterref01_Code.j1 k D (L : Int) ((L + S - 1 : Nat) : Int) b p (l : Int) (n : Int) v (l : Int) (n : Int))
      (if b = true then ([1, 0] ++ (D.take (l + n)).drop l, v, (l : Int), (n : Int)) else ([1, 1] ++ Bs.low (L : Int) 6 ++ Bs.low ((S : Int) - 1) 6 ++ (D.take (L + S)).drop L, v, (L : Int), (S : Int))) := by
  cases b
  · have u1 : IntKind.u64.wrap (L : Int) = (L : Int) := by rw [Ib.wrap_u64]; omega
    have w3 : wrap64 (wrap64 (((L + S - 1 : Nat) : Int) - (L : Int)) + 1) = (S : Int) := by rw [PBits.w64 (((L + S - 1 : Nat) : Int) - (L : Int)) (by omega), PBits.w64 _ (by omega)]; omega
    have u2 : IntKind.u64.wrap (wrap64 ((S : Int) - 1)) = (S : Int) - 1 := by rw [PBits.w64 _ (by omega), Ib.wrap_u64]; omega
    have w4 : wrap64 (((L + S - 1 : Nat) : Int) + 1) = ((L + S : Nat) : Int) := by rw [PBits.w64 _ (by omega)]; omega
    have e1 := PBits.Low_is (L : Int) 6 (by omega) (by decide)
    have e2 := PBits.Low_is ((S : Int) - 1) 6 (by omega) (by decide)
    have k6 : (6 : Int).toNat = 6 := rfl
    rw [k6] at e1 e2
    refine Ev.step (fun k => by rw [gaiterref01_Code.j1, if_neg (by decide), w3, u1, u2, w4, Option.bind_some]) (Ev.bind e1 ?_)
    refine Ev.congr (fun k => by simp only [Option.bind_some]; rw [if_pos (lt47 _ _ (by simp only [List.length_cons, List.length_nil, Bs.low_length]; omega))]) ?_
    refine Ev.bind e2 ?_
    refine Ev.congr (fun k => ?_) (Ev.now _)
    rw [if_pos (lt47 _ _ (by simp only [List.length_append, List.length_cons, List.length_nil, Bs.low_length]; omega)), if_pos (Int.natCast_nonneg _), if_pos (by omega), if_pos (by omega)]
    simp only [Int.toNat_natCast]
    rw [if_pos (lt47 _ _ (by simp only [List.length_append, List.length_cons, List.length_nil, Bs.low_length, List.length_drop, List.length_take]; omega))]
    rfl
  · have w2 : wrap64 ((l : Int) + (n : Int)) = ((l + n : Nat) : Int) := by rw [PBits.w64 _ (by omega)]; omega
    rw [if_pos rfl]
    refine Ev.step (fun k => by rw [gaiterref01_Code.j1, if_pos rfl, Option.bind_some, if_pos (Int.natCast_nonneg _), w2, if_pos (by omega), if_pos (by omega), Option.bind_some, if_pos (lt47 _ _ (by simp only [List.length_cons, List.length_nil, List.length_drop, List.length_take]; omega))]) ?_
    simp only [Int.toNat_natCast]
    exact Ev.now _
theorem RCode_is (p v : Int) (l n : Nat) (hp : 0 ≤ p ∧ p < 18446744073709551616) (hv : 0 ≤ v ∧ v < 18446744073709551616) (hln : l + n ≤ 64) {d : Int} (hd : Go.bits .xor .u64 v p = d) :
    Ev (fun k => gaiterref01_Code.f k p (l : Int) (n : Int) v) (cb l n d, v, (cl l n d : Int), (cn l n d : Int)) := by
  have hr := xor_range v p hv hp
  rw [hd] at hr
  refine Ev.congr (fun k => by unfold gaiterref01_Code.f; rw [hd]) (Ev.bind (PBits.Low_is d 64 hr (by omega)) ?_)
  show Ev (fun k => gaiterref01_Code.l0 k v (Bs.low d 64) (-1) (-1) ((0 : Nat) : Int) p (l : Int) (n : Int)) _
  by_cases h0 : d = 0
  · subst h0
    refine Code_zero v p l n _ ?_ 64 0 (by omega)
    refine Ev.step (g := fun k => _) (fun k => by rw [gaiterref01_Code.l0, if_neg (by decide), if_pos (by decide)]) ?_
    unfold cb cl cn
    simp only [if_true]
    exact Ev.now _
  have hw := win d (by omega) hr.2
  have hs := SS_le d (by omega) hr.2
  have g1 := hw.lt
  have g2 := hw.pos
  have g3 := hw.le
  refine Code_l0 d hw (by omega) v p l n _ ?_ 64 0 (-1) (-1) (by omega) (.inl ⟨Nat.zero_le _, rfl, rfl⟩)
  have main : ∀ b : Bool, b = decide (0 < n ∧ l ≤ LL d ∧ LL d + SS d ≤ l + n) → Ev (fun k => gaiterref01_Code.j1 k (Bs.low d 64) (LL d : Int) ((LL d + SS d - 1 : Nat) : Int) b p (l : Int) (n : Int) v (l : Int) (n : Int)) (cb l n d, v, (cl l n d : Int), (cn l n d : Int)) := by
    intro b hb
    have h := RCode_j1 (Bs.low d 64) (Bs.low_length _ _) (LL d) (SS d) l n g1 g2 g3 hln v p b
    rw [low_cut d l n hln, low_cut d (LL d) (SS d) g3] at h
    unfold cb cl cn
    rw [if_neg h0, if_neg h0, if_neg h0]
    by_cases hc : 0 < n ∧ l ≤ LL d ∧ LL d + SS d ≤ l + n
    · rw [if_pos (by rw [hb]; exact decide_eq_true hc)] at h
      rw [if_pos hc, if_pos hc, if_pos hc]
      exact h
    · rw [if_neg (by rw [hb, decide_eq_false hc]; decide)] at h
      rw [if_neg hc, if_neg hc, if_neg hc]
      exact h
  have w2 : wrap64 ((l : Int) + (n : Int)) = ((l + n : Nat) : Int) := by rw [PBits.w64 _ (by omega)]; omega
  by_cases c1 : 0 < n
  · by_cases c2 : l ≤ LL d
    · have hm := main (decide (((LL d + SS d - 1 : Nat) : Int) < wrap64 ((l : Int) + (n : Int)))) ?_
      refine Ev.step (fun k => ?_) hm
      · rw [gaiterref01_Code.l0, if_neg (by decide), if_neg (by omega), if_pos (by omega), if_pos (by omega)]
      · rw [w2]
        congr 1
        exact propext ⟨fun h => ⟨c1, c2, by omega⟩, fun h => by omega⟩
    · refine Ev.step (g := fun k => _) (fun k => ?_) (main false ?_)
      · rw [gaiterref01_Code.l0, if_neg (by decide), if_neg (by omega), if_pos (by omega), if_neg (by omega)]
      · exact (decide_eq_false (by omega)).symm
  · refine Ev.step (g := fun k => _) (fun k => ?_) (main false ?_)
    · rw [gaiterref01_Code.l0, if_neg (by decide), if_neg (by omega), if_neg (by omega)]
    · exact (decide_eq_false (by omega)).symm
end Go.Proofs.YtiahbcaoikoogaaDoor.PXor
end
section
namespace Go.Proofs.YtiahbcaoikoogaaDoor.PKinds
open Go Go.RowKit Go.Proofs.YtiahbcaoikoogaaDoor Go.Proofs.YtiahbcaoikoogaaDoor.All Go.Proofs.YtiahbcaoikoogaaDoorW.PrintWords Go.Proofs.YtiahbcaoikoogaaDoorW.PrintLast
set_option linter.unusedVariables false
set_option linter.unusedSimpArgs false
def z8 : S8 := (0, 0, 0, 0, 0, 0, 0, 0)
def dt (t d T : Int) : Int := wrap64 (wrap64 (T - t) - d)
def dv (v e V : Int) : Int := wrap64 (IntKind.u64.wrap (IntKind.u64.wrap (V - v) - e))
abbrev dx (V xp : Int) : Int := Go.bits .xor .u64 V xp
def kp (kind n t d v e xp : Int) (xl xn : Nat) (T V : Int) : List Int × S8 × Int :=
  if ¬ (kind = 1 ∨ kind = 2) then ([], z8, 6)
  else if n = 0 then (Bs.low (IntKind.u64.wrap T) 64 ++ Bs.low V 64, aft kind n t d v e xp xl xn T V 0 0 0, 0)
  else if T ≤ t then ([], z8, 4)
  else if kind = 2 then (PDod.dodL (dt t d T) ++ PDod.dodL (dv v e V), aft kind n t d v e xp xl xn T V 0 0 0, 0)
  else (PDod.dodL (dt t d T) ++ PXor.cb xl xn (dx V xp), aft kind n t d v e xp xl xn T V V (PXor.cl xl xn (dx V xp)) (PXor.cn xl xn (dx V xp)), 0)
def pimp (r : List Int × S8 × Int) : List Int × Int × Int × Int × Int × Int × Int × Int × Int × Int × Option Int :=
  (Bs.pack r.1, (r.1.length : Int), r.2.1.1, r.2.1.2.1, r.2.1.2.2.1, r.2.1.2.2.2.1, r.2.1.2.2.2.2.1, r.2.1.2.2.2.2.2.1, r.2.1.2.2.2.2.2.2.1, r.2.1.2.2.2.2.2.2.2, if r.2.2 = 0 then none else some r.2.2)
def pref (r : List Int × S8 × Int) : List Int × Int × Int × Int × Int × Int × Int × Int × Int × Int :=
  (r.1, r.2.1.1, r.2.1.2.1, r.2.1.2.2.1, r.2.1.2.2.2.1, r.2.1.2.2.2.2.1, r.2.1.2.2.2.2.2.1, r.2.1.2.2.2.2.2.2.1, r.2.1.2.2.2.2.2.2.2, r.2.2)
theorem pimp_none (c : Int) : pimp ([], z8, c) = (([] : List Int), 0, 0, 0, 0, 0, 0, 0, 0, 0, if c = 0 then none else some c) := by
  simp only [pimp, z8, Bs.pack_nil, List.length_nil]
  rfl
theorem lens (a b : Int) : (Bs.low a 64).length + (Bs.low b 64).length < 140737488355328 := by rw [Bs.low_length, Bs.low_length]; decide
theorem low64 (a : Int) (h : 0 ≤ a ∧ a < 18446744073709551616) : Ev (fun k => gaiterref01_Low.f k a 64) (Bs.low a 64) := PBits.Low_is a 64 h (by decide)
theorem known_is (kind : Int) : kinds_known.f kind = some (decide (kind = 1 ∨ kind = 2)) := by
  unfold kinds_known.f
  by_cases c1 : kind = 1
  · rw [if_pos c1, decide_eq_true (.inl c1)]
  · rw [if_neg c1]
    by_cases c2 : kind = 2
    · rw [beq_iff_eq.mpr c2, decide_eq_true (.inr c2)]
    · rw [beq_eq_false_iff_ne.mpr c2, decide_eq_false (fun h => h.elim c1 c2)]
theorem dodL_len (v : Int) : (PDod.dodL v).length ≤ 68 := by
  have h1 := PDod.dodL_length v
  have h2 := PDod.size_le (PDod.ones v)
  omega
theorem jn (l m : List Int) (hl : Bs.Bits l) (hm : Bs.Bits m) (h : l.length + m.length ≤ 1000) : Ev (fun k => bits_Join.f k (Bs.pack l) (l.length : Int) (Bs.pack m) (m.length : Int)) (Bs.pack (l ++ m), ((l ++ m).length : Int)) := by
  have := PBits.Join_is l m hl hm (by omega)
  rw [← List.length_append] at this
  exact this
theorem u64_range (T : Int) : 0 ≤ IntKind.u64.wrap T ∧ IntKind.u64.wrap T < 18446744073709551616 := by rw [Ib.wrap_u64]; omega
theorem Put_is (kind n t d v e xp : Int) (xl xn : Nat) (T V : Int) (hn : 0 ≤ n) (hV : 0 ≤ V ∧ V < 18446744073709551616) (hp : 0 ≤ xp ∧ xp < 18446744073709551616) (hx : xl + xn ≤ 64) :
    Ev (fun k => kinds_Put.f k kind n t d v e xp (xl : Int) (xn : Int) T V) (pimp (kp kind n t d v e xp xl xn T V)) := by
  unfold kinds_Put.f kp
  rw [known_is]
  simp only [Option.bind_some]
  by_cases c1 : kind = 1 ∨ kind = 2
  · have c1n : ¬ ¬ (kind = 1 ∨ kind = 2) := fun h => h c1
    rw [decide_eq_true c1, if_neg c1n]
    simp only [if_true]
    by_cases c2 : n = 0
    · have e1 := PXor.putk0 (IntKind.u64.wrap T) (u64_range T) 64 (Nat.le_refl _) (n := 64) rfl
      have e2 := PXor.putk (Bs.low (IntKind.u64.wrap T) 64) (Bs.low_bits _ _) (by rw [Bs.low_length]; decide) V hV 64 (Nat.le_refl _) (n := 64) rfl
      have e3 := After_is kind n t d v e xp xl xn T V 0 0 0 hn
      simp only [if_pos c2]
      refine Ev.bind e1 (Ev.bind e2 (Ev.bind e3 ?_))
      exact Ev.now _
    simp only [if_neg c2]
    by_cases c3 : T ≤ t
    · simp only [if_pos c3]
      rw [pimp_none]
      exact Ev.now _
    simp only [if_neg c3]
    have e1 := PDod.Code_is (dt t d T)
    have b1 := PDod.dodL_bits (dt t d T)
    have n1 := dodL_len (dt t d T)
    refine Ev.bind e1 ?_
    by_cases c4 : kind = 2
    · have e2 := PDod.Code_is (dv v e V)
      have e3 := jn _ _ b1 (PDod.dodL_bits (dv v e V)) (by have := dodL_len (dv v e V); omega)
      have e4 := After_is kind n t d v e xp xl xn T V 0 0 0 hn
      simp only [if_pos c4]
      refine Ev.bind e2 (Ev.bind e3 (Ev.bind e4 ?_))
      exact Ev.now _
    · have e2 := PXor.Code_is xp V xl xn hp hV hx (d := dx V xp) rfl
      have hr := PXor.xor_range V xp hV hp
      have hc := PXor.cb_short xl xn (dx V xp) hx hr.1 hr.2
      have e3 := jn _ _ b1 (PXor.cb_bits xl xn (dx V xp)) (by omega)
      have e4 := After_is kind n t d v e xp xl xn T V V (PXor.cl xl xn (dx V xp)) (PXor.cn xl xn (dx V xp)) hn
      simp only [if_neg c4]
      refine Ev.bind e2 (Ev.bind e3 (Ev.bind e4 ?_))
      exact Ev.now _
  · rw [decide_eq_false c1, if_pos c1, pimp_none]
    exact Ev.congr (fun k => if_neg Bool.false_ne_true) (Ev.now _)
theorem RPut_is (kind n t d v e xp : Int) (xl xn : Nat) (T V : Int) (hn : 0 ≤ n) (hV : 0 ≤ V ∧ V < 18446744073709551616) (hp : 0 ≤ xp ∧ xp < 18446744073709551616) (hx : xl + xn ≤ 64) :
    Ev (fun k => gaiterref01_PutSample.f k kind n t d v e xp (xl : Int) (xn : Int) T V) (pref (kp kind n t d v e xp xl xn T V)) := by
  have main : ∀ b : Bool, b = decide (¬ (kind = 1 ∨ kind = 2)) → Ev (fun k => gaiterref01_PutSample.j0 k kind b n t d v e xp (xl : Int) (xn : Int) T V) (pref (kp kind n t d v e xp xl xn T V)) := by
    intro b hb
    unfold kp
    by_cases c1 : kind = 1 ∨ kind = 2
    · have c1n : ¬ ¬ (kind = 1 ∨ kind = 2) := fun h => h c1
      rw [decide_eq_false c1n] at hb
      subst hb
      rw [if_neg c1n]
      by_cases c2 : n = 0
      · have e1 := low64 (IntKind.u64.wrap T) (u64_range T)
        have e2 := low64 V hV
        have e3 := RAfter_is kind n t d v e xp xl xn T V 0 0 0 hn
        simp only [if_pos c2]
        refine Ev.step (fun k => by rw [gaiterref01_PutSample.j0, if_neg Bool.false_ne_true, if_pos c2]) (Ev.bind e1 ?_)
        refine Ev.bind e2 ?_
        refine Ev.congr (fun k => if_pos (lens _ _)) (Ev.bind e3 ?_)
        exact Ev.now _
      simp only [if_neg c2]
      by_cases c3 : T ≤ t
      · simp only [if_pos c3]
        exact Ev.step (fun k => by rw [gaiterref01_PutSample.j0, if_neg Bool.false_ne_true, if_neg c2, if_pos c3]; rfl) (Ev.now (pref ([], z8, 4)))
      simp only [if_neg c3]
      have e1 : Ev (fun k => gaiterref01_Dod.f k (wrap64 (wrap64 (T - t) - d))) (PDod.dodL (dt t d T)) := PDod.RDod_is (dt t d T)
      have n1 := dodL_len (dt t d T)
      refine Ev.step (fun k => by rw [gaiterref01_PutSample.j0, if_neg Bool.false_ne_true, if_neg c2, if_neg c3, wrap_sub3]) (Ev.bind e1 ?_)
      by_cases c4 : kind = 2
      · have e2 := PDod.RDod_is (dv v e V)
        have n2 := dodL_len (dv v e V)
        have e4 := RAfter_is kind n t d v e xp xl xn T V 0 0 0 hn
        simp only [if_pos c4]
        refine Ev.bind e2 ?_
        refine Ev.congr (fun k => if_pos (PXor.lt47 _ _ (by omega))) (Ev.bind e4 ?_)
        exact Ev.now _
      · have e2 := PXor.RCode_is xp V xl xn hp hV hx (d := dx V xp) rfl
        have hr := PXor.xor_range V xp hV hp
        have hc := PXor.cb_short xl xn (dx V xp) hx hr.1 hr.2
        have e4 := RAfter_is kind n t d v e xp xl xn T V V (PXor.cl xl xn (dx V xp)) (PXor.cn xl xn (dx V xp)) hn
        simp only [if_neg c4]
        refine Ev.bind e2 ?_
        have hlen : (PDod.dodL (dt t d T)).length + (PXor.cb xl xn (dx V xp)).length ≤ 1000 := by omega
        refine Ev.congr (fun k => if_pos (PXor.lt47 _ _ hlen)) (Ev.bind e4 ?_)
        exact Ev.now _
    · rw [decide_eq_true c1] at hb
      subst hb
      rw [if_pos c1]
      exact Ev.step (fun k => by rw [gaiterref01_PutSample.j0, if_pos rfl]; rfl) (Ev.now (pref ([], z8, 6)))
  unfold gaiterref01_PutSample.f
  by_cases c1 : kind = 1
  · simp only [if_pos c1]
    exact main false (decide_eq_false (fun h => h (.inl c1))).symm
  · simp only [if_neg c1]
    refine main _ ?_
    by_cases c2 : kind = 2
    · have hh : ¬ ¬ (kind = 1 ∨ kind = 2) := fun h => h (.inr c2)
      rw [bne_eq_false_iff_eq.mpr c2]
      exact (decide_eq_false hh).symm
    · have hh : ¬ (kind = 1 ∨ kind = 2) := fun h => h.elim c1 c2
      rw [bne_iff_ne.mpr c2]
      exact (decide_eq_true hh).symm
end Go.Proofs.YtiahbcaoikoogaaDoor.PKinds
end
section
namespace Go.Proofs.YtiahbcaoikoogaaDoor.PKinds
open Go Go.RowKit Go.Proofs.YtiahbcaoikoogaaDoor Go.Proofs.YtiahbcaoikoogaaDoor.All Go.Proofs.YtiahbcaoikoogaaDoorW.PrintWords Go.Proofs.YtiahbcaoikoogaaDoorW.PrintLast
set_option linter.unusedVariables false
set_option linter.unusedSimpArgs false
abbrev O := Int × Int × S8 × Int × Int
end Go.Proofs.YtiahbcaoikoogaaDoor.PKinds
end
section
namespace Go.Proofs.YtiahbcaoikoogaaDoor.PKinds
open Go Go.RowKit Go.Proofs.YtiahbcaoikoogaaDoor Go.Proofs.YtiahbcaoikoogaaDoor.All Go.Proofs.YtiahbcaoikoogaaDoorW.PrintWords Go.Proofs.YtiahbcaoikoogaaDoorW.PrintLast
set_option linter.unusedVariables false
set_option linter.unusedSimpArgs false
structure Ok (B : Int) (s : S8) : Prop where
  n0 : 0 ≤ s.1
  n1 : s.1 ≤ B
  p0 : 0 ≤ s.2.2.2.2.2.1 ∧ s.2.2.2.2.2.1 < 18446744073709551616
  w : ∃ xl xn : Nat, s.2.2.2.2.2.2.1 = (xl : Int) ∧ s.2.2.2.2.2.2.2 = (xn : Int) ∧ xl + xn ≤ 64
theorem ok_zero (B : Int) (hB : 0 ≤ B) : Ok B z8 := ⟨Int.le_refl _, hB, by decide, 0, 0, rfl, rfl, by decide⟩
theorem ok_aft (B : Int) (hB : B < 1000000) (kind n t d v e xp xl xn T V ap al an : Int) (hn : 0 ≤ n ∧ n ≤ B) (hV : 0 ≤ V ∧ V < 18446744073709551616) (hap : 0 ≤ ap ∧ ap < 18446744073709551616) (hw : ∃ x y : Nat, al = (x : Int) ∧ an = (y : Int) ∧ x + y ≤ 64) : Ok (B + 1) (aft kind n t d v e xp xl xn T V ap al an) := by
  have hw1 : wrap64 (n + 1) = n + 1 := PBits.w64 _ (by omega)
  have z : ∃ x y : Nat, (0 : Int) = (x : Int) ∧ (0 : Int) = (y : Int) ∧ x + y ≤ 64 := ⟨0, 0, rfl, rfl, by decide⟩
  unfold aft
  rw [hw1]
  refine ⟨by show 0 ≤ n + 1; omega, by show n + 1 ≤ B + 1; omega, ?_, ?_⟩
  · show 0 ≤ (if kind = 1 then (if n = 0 then V else ap) else 0) ∧ (if kind = 1 then (if n = 0 then V else ap) else 0) < 18446744073709551616
    by_cases c : kind = 1
    · rw [if_pos c]
      by_cases c' : n = 0
      · rw [if_pos c']; exact hV
      · rw [if_neg c']; exact hap
    · rw [if_neg c]; decide
  · show ∃ x y : Nat, (if kind = 1 then (if n = 0 then 0 else al) else 0) = (x : Int) ∧ (if kind = 1 then (if n = 0 then 0 else an) else 0) = (y : Int) ∧ x + y ≤ 64
    by_cases c : kind = 1
    · rw [if_pos c, if_pos c]
      by_cases c' : n = 0
      · rw [if_pos c', if_pos c']; exact z
      · rw [if_neg c', if_neg c']; exact hw
    · rw [if_neg c, if_neg c]; exact z
theorem kp_ok (B : Int) (hB : B < 1000000) (kind n t d v e xp : Int) (xl xn : Nat) (T V : Int) (hn : 0 ≤ n ∧ n ≤ B) (hV : 0 ≤ V ∧ V < 18446744073709551616) (hp : 0 ≤ xp ∧ xp < 18446744073709551616) (hx : xl + xn ≤ 64) (h : (kp kind n t d v e xp xl xn T V).2.2 = 0) :
    Ok (B + 1) (kp kind n t d v e xp xl xn T V).2.1 := by
  have z : ∃ x y : Nat, (0 : Int) = (x : Int) ∧ (0 : Int) = (y : Int) ∧ x + y ≤ 64 := ⟨0, 0, rfl, rfl, by decide⟩
  unfold kp at h ⊢
  by_cases c1 : ¬ (kind = 1 ∨ kind = 2)
  · rw [if_pos c1] at h
    exact absurd h (by decide)
  rw [if_neg c1] at h ⊢
  by_cases c2 : n = 0
  · rw [if_pos c2]
    exact ok_aft B hB kind n t d v e xp xl xn T V 0 0 0 hn hV (by decide) z
  rw [if_neg c2] at h ⊢
  by_cases c3 : T ≤ t
  · rw [if_pos c3] at h
    exact absurd h (by decide)
  rw [if_neg c3] at h ⊢
  by_cases c4 : kind = 2
  · rw [if_pos c4]
    exact ok_aft B hB kind n t d v e xp xl xn T V 0 0 0 hn hV (by decide) z
  · rw [if_neg c4]
    have hr := PXor.xor_range V xp hV hp
    exact ok_aft B hB kind n t d v e xp xl xn T V V _ _ hn hV hV ⟨_, _, rfl, rfl, PXor.cb_ok xl xn _ hx hr.1 hr.2⟩
end Go.Proofs.YtiahbcaoikoogaaDoor.PKinds
end
section
namespace Go.Proofs.YtiahbcaoikoogaaDoor.PKinds
open Go Go.RowKit Go.Proofs.YtiahbcaoikoogaaDoor Go.Proofs.YtiahbcaoikoogaaDoor.All Go.Proofs.YtiahbcaoikoogaaDoorW.PrintWords Go.Proofs.YtiahbcaoikoogaaDoorW.PrintLast
set_option linter.unusedVariables false
set_option linter.unusedSimpArgs false
theorem kp_bits (kind n t d v e xp : Int) (xl xn : Nat) (T V : Int) : Bs.Bits (kp kind n t d v e xp xl xn T V).1 := by
  unfold kp
  split
  · exact Bs.Bits.nil
  · split
    · exact (Bs.low_bits _ _).append (Bs.low_bits _ _)
    · split
      · exact Bs.Bits.nil
      · split
        · exact (PDod.dodL_bits _).append (PDod.dodL_bits _)
        · exact (PDod.dodL_bits _).append (PXor.cb_bits _ _ _)
theorem kp_len (kind n t d v e xp : Int) (xl xn : Nat) (T V : Int) (hV : 0 ≤ V ∧ V < 18446744073709551616) (hp : 0 ≤ xp ∧ xp < 18446744073709551616) (hx : xl + xn ≤ 64) : (kp kind n t d v e xp xl xn T V).1.length ≤ 1000 := by
  have h1 := dodL_len (dt t d T)
  have h2 := dodL_len (dv v e V)
  have hr := PXor.xor_range V xp hV hp
  have h3 := (PXor.cb_short xl xn (dx V xp) hx hr.1 hr.2).2
  unfold kp
  split
  · decide
  · split
    · rw [List.length_append, Bs.low_length, Bs.low_length]; decide
    · split
      · decide
      · split
        · rw [List.length_append]; omega
        · rw [List.length_append]; omega
end Go.Proofs.YtiahbcaoikoogaaDoor.PKinds
end
section
namespace Go.Proofs.YtiahbcaoikoogaaDoor.PRising
open Go Go.RowKit Go.Proofs.YtiahbcaoikoogaaDoor Go.Proofs.YtiahbcaoikoogaaDoor.All Go.Proofs.YtiahbcaoikoogaaDoorW.PrintWords Go.Proofs.YtiahbcaoikoogaaDoorW.PrintLast
set_option linter.unusedVariables false
set_option linter.unusedSimpArgs false
def Rg (x : S59) : Prop := (-9223372036854775808 ≤ x.f0 ∧ x.f0 < 9223372036854775808) ∧ (0 ≤ x.f1 ∧ x.f1 < 18446744073709551616)
theorem rdT (M : List S59) (i : Nat) (h : i < M.length) : rd_T59 M (i : Int) = M[i] := by
  unfold rd_T59
  rw [Int.toNat_natCast, List.getD_eq_getElem?_getD, List.getElem?_eq_getElem h]
  rfl
structure Asc (M : List S59) : Prop where
  rng : ∀ x ∈ M, Rg x
  inc : ∀ (i j : Nat) (hi : i < M.length) (hj : j < M.length), j = i + 1 → M[i].f0 < M[j].f0
theorem Asc.nil : Asc [] := ⟨fun x h => by simp at h, fun i j hi _ _ => absurd hi (Nat.not_lt_zero i)⟩
theorem Asc.snoc {M : List S59} (h : Asc M) {x : S59} (hx : Rg x) (hl : ∀ (i : Nat) (hi : i < M.length), i + 1 = M.length → M[i].f0 < x.f0) : Asc (M ++ [x]) := by
  refine ⟨fun y hy => ?_, fun i j hi hj e => ?_⟩
  · rcases List.mem_append.mp hy with hy | hy
    · exact h.rng y hy
    · rw [List.mem_singleton.mp hy]; exact hx
  · have hi' : i < M.length + 1 := by rw [List.length_append] at hi; exact hi
    have hj' : j < M.length + 1 := by rw [List.length_append] at hj; exact hj
    have him : i < M.length := by omega
    rw [List.getElem_append_left him]
    by_cases c : j < M.length
    · rw [List.getElem_append_left c]
      exact h.inc i j him c e
    · have ej : j = M.length := by omega
      subst ej
      rw [List.getElem_append_right (Nat.le_refl _)]
      have h0 := hl i him (by omega)
      simpa using h0
end Go.Proofs.YtiahbcaoikoogaaDoor.PRising
end
section
namespace Go.Proofs.YtiahbcaoikoogaaDoor.PChunk
open Go Go.RowKit Go.Proofs.YtiahbcaoikoogaaDoor Go.Proofs.YtiahbcaoikoogaaDoor.All Go.Proofs.YtiahbcaoikoogaaDoorW.PrintWords Go.Proofs.YtiahbcaoikoogaaDoorW.PrintLast Go.Proofs.YtiahbcaoikoogaaDoor.PKinds Go.Proofs.YtiahbcaoikoogaaDoor.PRising
set_option linter.unusedVariables false
set_option linter.unusedSimpArgs false
def enc (kind : Int) : List S59 → S8 → List Int × Int
  | [], _ => ([], 0)
  | x :: r, (n, t, d, v, e, xp, xl, xn) =>
    if (kp kind n t d v e xp xl.toNat xn.toNat x.f0 x.f1).2.2 = 0 then
      (if (enc kind r (kp kind n t d v e xp xl.toNat xn.toNat x.f0 x.f1).2.1).2 = 0 then ((kp kind n t d v e xp xl.toNat xn.toNat x.f0 x.f1).1 ++ (enc kind r (kp kind n t d v e xp xl.toNat xn.toNat x.f0 x.f1).2.1).1, 0)
       else ([], (enc kind r (kp kind n t d v e xp xl.toNat xn.toNat x.f0 x.f1).2.1).2))
    else ([], (kp kind n t d v e xp xl.toNat xn.toNat x.f0 x.f1).2.2)
theorem enc_cons (kind : Int) (x : S59) (r : List S59) (n t d v e xp : Int) (xl xn : Nat) : enc kind (x :: r) (n, t, d, v, e, xp, (xl : Int), (xn : Int)) =
    if (kp kind n t d v e xp xl xn x.f0 x.f1).2.2 = 0 then
      (if (enc kind r (kp kind n t d v e xp xl xn x.f0 x.f1).2.1).2 = 0 then ((kp kind n t d v e xp xl xn x.f0 x.f1).1 ++ (enc kind r (kp kind n t d v e xp xl xn x.f0 x.f1).2.1).1, 0)
       else ([], (enc kind r (kp kind n t d v e xp xl xn x.f0 x.f1).2.1).2))
    else ([], (kp kind n t d v e xp xl xn x.f0 x.f1).2.2) := rfl
theorem kp_code (kind n t d v e xp : Int) (xl xn : Nat) (T V : Int) : (kp kind n t d v e xp xl xn T V).2.2 = 0 ∨ (kp kind n t d v e xp xl xn T V).2.2 = 4 ∨ (kp kind n t d v e xp xl xn T V).2.2 = 6 := by
  unfold kp
  split
  · exact .inr (.inr rfl)
  · split
    · exact .inl rfl
    · split
      · exact .inr (.inl rfl)
      · split
        · exact .inl rfl
        · exact .inl rfl
theorem enc_code (kind : Int) : ∀ (l : List S59) (s : S8), (enc kind l s).2 = 0 ∨ (enc kind l s).2 = 4 ∨ (enc kind l s).2 = 6 := by
  intro l
  induction l with
  | nil => intro s; exact .inl rfl
  | cons x r ih =>
    intro s
    obtain ⟨n, t, d, v, e, xp, xl, xn⟩ := s
    have h1 := kp_code kind n t d v e xp xl.toNat xn.toNat x.f0 x.f1
    have h2 := ih (kp kind n t d v e xp xl.toNat xn.toNat x.f0 x.f1).2.1
    unfold enc
    split
    · split
      · exact .inl rfl
      · exact h2
    · exact h1
def res (H : List Int) (E : List Int × Int) : List Int × Option Int := if E.2 = 0 then (Bs.pack (H ++ E.1), none) else ([], some E.2)
def rres (H : List Int) (E : List Int × Int) : List Int × Int := if E.2 = 0 then (Bs.pack (H ++ E.1), 0) else ([], E.2)
theorem res_nil (H : List Int) : res H ([], 0) = (Bs.pack H, none) := by
  unfold res
  rw [if_pos rfl, List.append_nil]
theorem rres_nil (H : List Int) : rres H ([], 0) = (Bs.pack H, 0) := by
  unfold rres
  rw [if_pos rfl, List.append_nil]
theorem res_cons (H b : List Int) (s : S8) (E F : List Int × Int) (h : E = if F.2 = 0 then (b ++ F.1, 0) else ([], F.2)) : res H E = res (H ++ b) F := by
  subst h
  unfold res
  by_cases c : F.2 = 0
  · rw [if_pos c, if_pos c, if_pos rfl, List.append_assoc]
  · rw [if_neg c, if_neg c, if_neg c]
theorem rres_cons (H b : List Int) (s : S8) (E F : List Int × Int) (h : E = if F.2 = 0 then (b ++ F.1, 0) else ([], F.2)) : rres H E = rres (H ++ b) F := by
  subst h
  unfold rres
  by_cases c : F.2 = 0
  · rw [if_pos c, if_pos c, if_pos rfl, List.append_assoc]
  · rw [if_neg c, if_neg c, if_neg c]
theorem Encode_l0 (kind : Int) (l : List S59) (hl : ∀ x ∈ l, Rg x) (hn : l.length ≤ 65535) :
    ∀ (r i : Nat) (O P : List Int) (n t d v e xp : Int) (xl xn : Nat), i + r = l.length → Bs.Bits O → Bs.Bits P → O.length + P.length ≤ 1000 * i → Ok (i : Int) (n, t, d, v, e, xp, (xl : Int), (xn : Int)) →
      Ev (fun k => chunk_Encode.l0 k kind l (l.length : Int) (i : Int) (Bs.pack O) (O.length : Int) (Bs.pack P) (P.length : Int) n t d v e xp (xl : Int) (xn : Int)) (res (O ++ P) (enc kind (l.drop i) (n, t, d, v, e, xp, (xl : Int), (xn : Int)))) := by
  intro r
  induction r with
  | zero =>
    intro i O P n t d v e xp xl xn hi hO hP hOP hok
    have hnl : ¬ (i : Int) < (l.length : Int) := by omega
    have hj := PBits.Join_is O P hO hP (by omega)
    rw [List.drop_of_length_le (by omega)]
    show Ev _ (res (O ++ P) ([], 0))
    rw [res_nil]
    exact Ev.step (fun k => by rw [chunk_Encode.l0, if_neg hnl]) (Ev.bind hj (Ev.now _))
  | succ r ih =>
    intro i O P n t d v e xp xl xn hi hO hP hOP hok
    have hil : i < l.length := by omega
    have hlt : (i : Int) < (l.length : Int) := by omega
    have hrd := rdT l i hil
    have hr := hl l[i] (List.getElem_mem hil)
    have hdrop : l.drop i = l[i] :: l.drop (i + 1) := List.drop_eq_getElem_cons hil
    rw [hdrop]
    generalize l[i] = x at hrd hr
    obtain ⟨xl', xn', el, en, hx⟩ := hok.w
    have hx : xl + xn ≤ 64 := by
      have e1 : (xl : Int) = (xl' : Int) := el
      have e2 : (xn : Int) = (xn' : Int) := en
      omega
    have hp := hok.p0
    have hn0 : 0 ≤ n := hok.n0
    have hn1 : n ≤ (i : Int) := hok.n1
    have g1 := Put_is kind n t d v e xp xl xn x.f0 x.f1 hn0 hr.2 hp hx
    have kb := kp_bits kind n t d v e xp xl xn x.f0 x.f1
    have kl := kp_len kind n t d v e xp xl xn x.f0 x.f1 hr.2 hp hx
    have ko := kp_ok (i : Int) (by omega) kind n t d v e xp xl xn x.f0 x.f1 ⟨hn0, hn1⟩ hr.2 hp hx
    rw [enc_cons]
    generalize kp kind n t d v e xp xl xn x.f0 x.f1 = K at *
    obtain ⟨b, ⟨n', t', d', v', e', xp', al, an⟩, c⟩ := K
    by_cases c0 : c = 0
    · have ko' := ko c0
      obtain ⟨yl, yn, e1, e2, hy⟩ := ko'.w
      have e1 : al = (yl : Int) := e1
      have e2 : an = (yn : Int) := e2
      subst e1 e2 c0
      have g1 : Ev (fun k => kinds_Put.f k kind n t d v e xp (xl : Int) (xn : Int) x.f0 x.f1) (Bs.pack b, (b.length : Int), n', t', d', v', e', xp', (yl : Int), (yn : Int), none) := g1
      have kl : b.length ≤ 1000 := kl
      have hok2 : Ok ((i + 1 : Nat) : Int) (n', t', d', v', e', xp', (yl : Int), (yn : Int)) := by
        rw [show ((i + 1 : Nat) : Int) = (i : Int) + 1 from by omega]
        exact ko'
      have hPb : Bs.Bits (P ++ b) := hP.append kb
      have hl1 : (P ++ b).length = P.length + b.length := List.length_append
      have hl2 : (O ++ (P ++ b)).length = O.length + (P.length + b.length) := by rw [List.length_append, hl1]
      have hj1 := PBits.Join_is P b hP kb (by omega)
      have hj2 := PBits.Join_is O (P ++ b) hO hPb (by omega)
      rw [← List.length_append] at hj1 hj2
      have ih1 := ih (i + 1) (O ++ (P ++ b)) [] n' t' d' v' e' xp' yl yn (by omega) (hO.append hPb) Bs.Bits.nil (by rw [hl2, List.length_nil]; omega) hok2
      have ih2 := ih (i + 1) O (P ++ b) n' t' d' v' e' xp' yl yn (by omega) hO hPb (by rw [hl1]; omega) hok2
      rw [List.append_nil, Bs.pack_nil, List.length_nil] at ih1
      have wi : wrap64 ((i : Int) + 1) = ((i + 1 : Nat) : Int) := by rw [PBits.w64 _ (by omega)]; omega
      rw [res_cons (O ++ P) b (n', t', d', v', e', xp', (yl : Int), (yn : Int)) _ (enc kind (l.drop (i + 1)) (n', t', d', v', e', xp', (yl : Int), (yn : Int))) (if_pos rfl), List.append_assoc]
      refine Ev.step (fun k => by rw [chunk_Encode.l0, if_pos hlt, if_pos (Int.natCast_nonneg i), if_pos hlt, hrd, wi]) (Ev.bind g1 ?_)
      refine Ev.congr (fun k => if_pos (show (none : Option Int).isNone = true from rfl)) (Ev.bind hj1 ?_)
      by_cases c1 : ((P ++ b).length : Int) > 16384
      · exact Ev.congr (fun k => if_pos c1) (Ev.bind hj2 ih1)
      · exact Ev.congr (fun k => if_neg c1) ih2
    · have g1 : Ev (fun k => kinds_Put.f k kind n t d v e xp (xl : Int) (xn : Int) x.f0 x.f1) (Bs.pack b, (b.length : Int), n', t', d', v', e', xp', al, an, some c) := by
        have h := g1
        unfold pimp at h
        rw [if_neg c0] at h
        exact h
      have wi : wrap64 ((i : Int) + 1) = ((i + 1 : Nat) : Int) := by rw [PBits.w64 _ (by omega)]; omega
      have he : res (O ++ P) (if c = 0 then (if (enc kind (l.drop (i + 1)) (n', t', d', v', e', xp', al, an)).2 = 0 then (b ++ (enc kind (l.drop (i + 1)) (n', t', d', v', e', xp', al, an)).1, 0) else ([], (enc kind (l.drop (i + 1)) (n', t', d', v', e', xp', al, an)).2)) else ([], c)) = ([], some c) := by
        rw [if_neg c0]
        unfold res
        rw [if_neg c0]
      show Ev _ (res (O ++ P) (if c = 0 then (if (enc kind (l.drop (i + 1)) (n', t', d', v', e', xp', al, an)).2 = 0 then (b ++ (enc kind (l.drop (i + 1)) (n', t', d', v', e', xp', al, an)).1, 0) else ([], (enc kind (l.drop (i + 1)) (n', t', d', v', e', xp', al, an)).2)) else ([], c)))
      rw [he]
      refine Ev.step (fun k => by rw [chunk_Encode.l0, if_pos hlt, if_pos (Int.natCast_nonneg i), if_pos hlt, hrd, wi]) (Ev.bind g1 ?_)
      exact Ev.congr (fun k => if_neg Bool.false_ne_true) (Ev.now _)
theorem Encode_is (kind : Int) (l : List S59) (hl : ∀ x ∈ l, Rg x) (h0 : 1 ≤ l.length) (hn : l.length ≤ 65535) : Ev (fun k => chunk_Encode.f k kind l) (res [] (enc kind l z8)) := by
  unfold chunk_Encode.f
  have c1 : ¬ (l.length : Int) < 1 := by omega
  have c2 : ¬ (l.length : Int) > 65535 := by omega
  simp only [if_neg c1]
  rw [decide_eq_false c2]
  have h := Encode_l0 kind l hl hn l.length 0 [] [] 0 0 0 0 0 0 0 0 (by omega) Bs.Bits.nil Bs.Bits.nil (Nat.zero_le _) (ok_zero 0 (Int.le_refl _))
  rw [Bs.pack_nil, List.length_nil, List.append_nil, List.drop_zero] at h
  exact Ev.step (fun k => by rw [chunk_Encode.j0, if_neg Bool.false_ne_true]; rfl) h
theorem Encode_no (kind : Int) : Ev (fun k => chunk_Encode.f k kind []) ([], some 1) := by
  unfold chunk_Encode.f
  refine Ev.congr (fun k => if_pos (by decide)) ?_
  exact Ev.step (fun k => by rw [chunk_Encode.j0, if_pos rfl]) (Ev.now _)
end Go.Proofs.YtiahbcaoikoogaaDoor.PChunk
end
