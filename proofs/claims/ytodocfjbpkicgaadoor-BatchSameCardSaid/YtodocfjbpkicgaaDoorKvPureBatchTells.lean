-- copied by a program of the session
import Derived.Test.YtodocfjbpkicgaaDoorKvAllx40
import Derived.Test.YtodocfjbpkicgaaDoorKvPBits3
import Derived.Test.YtodocfjbpkicgaaDoorKvAllx36
import Derived.Test.YtodocfjbpkicgaaDoorKvAllx18
section
namespace Go.Proofs.YtodocfjbpkicgaaDoor.PKinds
open Go Go.RowKit Go.Proofs.YtodocfjbpkicgaaDoor Go.Proofs.YtodocfjbpkicgaaDoor.All Go.Proofs.YtodocfjbpkicgaaDoorW.PrintWords Go.Proofs.YtodocfjbpkicgaaDoorW.PrintLast
set_option linter.unusedVariables false
set_option linter.unusedSimpArgs false
def z8 : S8 := (0, 0, 0, 0, 0, 0, 0, 0)
def dt (t d T : Int) : Int := wrap64 (wrap64 (T - t) - d)
def dv (v e V : Int) : Int := wrap64 (IntKind.u64.wrap (IntKind.u64.wrap (V - v) - e))
abbrev dx (V xp : Int) : Int := Go.bits .xor .u64 V xp
def kp (kind n t d v e xp : Int) (xl xn : Nat) (T V : Int) : List Int × S8 × Int :=
 if ¬ (kind = 1 ∨ kind = 2) then ([], z8, 6)
 else if n = 0 then (Bs.low (IntKind.u64.wrap T) 64 ++ Bs.low V 64, aft kind n t d v e xp xl xn T V 0 0 0, 0)
 else if T ≤ t then ([], z8, 4)
 else if kind = 2 then (PDod.dodL (dt t d T) ++ PDod.dodL (dv v e V), aft kind n t d v e xp xl xn T V 0 0 0, 0)
 else (PDod.dodL (dt t d T) ++ PXor.cb xl xn (dx V xp), aft kind n t d v e xp xl xn T V V (PXor.cl xl xn (dx V xp)) (PXor.cn xl xn (dx V xp)), 0)
def pimp (r : List Int × S8 × Int) : List Int × Int × Int × Int × Int × Int × Int × Int × Int × Int × Option Int :=
 (Bs.pack r.1, (r.1.length : Int), r.2.1.1, r.2.1.2.1, r.2.1.2.2.1, r.2.1.2.2.2.1, r.2.1.2.2.2.2.1, r.2.1.2.2.2.2.2.1, r.2.1.2.2.2.2.2.2.1, r.2.1.2.2.2.2.2.2.2, if r.2.2 = 0 then none else some r.2.2)
theorem pimp_none (c : Int) : pimp ([], z8, c) = (([] : List Int), 0, 0, 0, 0, 0, 0, 0, 0, 0, if c = 0 then none else some c) := by
 simp only [pimp, z8, Bs.pack_nil, List.length_nil]
 rfl
theorem known_is (kind : Int) : A26.f kind = some (decide (kind = 1 ∨ kind = 2)) := by
 unfold A26.f
 by_cases c1 : kind = 1
 ·rw [if_pos c1, decide_eq_true (.inl c1)]
 ·rw [if_neg c1]
  by_cases c2 : kind = 2
  ·rw [beq_iff_eq.mpr c2, decide_eq_true (.inr c2)]
  ·rw [beq_eq_false_iff_ne.mpr c2, decide_eq_false (fun h => h.elim c1 c2)]
theorem dodL_len (v : Int) : (PDod.dodL v).length ≤ 68 := by
 have h1 := PDod.dodL_length v
 have h2 := PDod.size_le (PDod.ones v)
 omega
theorem jn (l m : List Int) (hl : Bs.Bits l) (hm : Bs.Bits m) (h : l.length + m.length ≤ 1000) : Ev (fun k => A3f.f k (Bs.pack l) (l.length : Int) (Bs.pack m) (m.length : Int)) (Bs.pack (l ++ m), ((l ++ m).length : Int)) := by
 have := PBits.Join_is l m hl hm (by omega)
 rw [← List.length_append] at this
 exact this
theorem u64_range (T : Int) : 0 ≤ IntKind.u64.wrap T ∧ IntKind.u64.wrap T < 18446744073709551616 := by rw [Ib.wrap_u64]; omega
theorem Put_is (kind n t d v e xp : Int) (xl xn : Nat) (T V : Int) (hn : 0 ≤ n) (hV : 0 ≤ V ∧ V < 18446744073709551616) (hp : 0 ≤ xp ∧ xp < 18446744073709551616) (hx : xl + xn ≤ 64) :
    Ev (fun k => kinds_Put.f k kind n t d v e xp (xl : Int) (xn : Int) T V) (pimp (kp kind n t d v e xp xl xn T V)) := by
  unfold kinds_Put.f kp
  rw [known_is]
  simp only [Option.bind_some]
  by_cases c1 : kind = 1 ∨ kind = 2
  · have c1n : ¬ ¬ (kind = 1 ∨ kind = 2) := fun h => h c1
    rw [decide_eq_true c1, if_neg c1n]
    simp only [if_true]
    by_cases c2 : n = 0
    · have e1 := PXor.putk0 (IntKind.u64.wrap T) (u64_range T) 64 (Nat.le_refl _) (n := 64) rfl
      have e2 := PXor.putk (Bs.low (IntKind.u64.wrap T) 64) (Bs.low_bits _ _) (by rw [Bs.A1k]; decide) V hV 64 (Nat.le_refl _) (n := 64) rfl
      have e3 := After_is kind n t d v e xp xl xn T V 0 0 0 hn
      simp only [if_pos c2]
      refine Ev.bind e1 (Ev.bind e2 (Ev.bind e3 ?_))
      exact Ev.now _
    simp only [if_neg c2]
    by_cases c3 : T ≤ t
    · simp only [if_pos c3]
      rw [pimp_none]
      exact Ev.now _
    simp only [if_neg c3]
    have e1 := PDod.Code_is (dt t d T)
    have b1 := PDod.dodL_bits (dt t d T)
    have n1 := dodL_len (dt t d T)
    refine Ev.bind e1 ?_
    by_cases c4 : kind = 2
    · have e2 := PDod.Code_is (dv v e V)
      have e3 := jn _ _ b1 (PDod.dodL_bits (dv v e V)) (by have := dodL_len (dv v e V); omega)
      have e4 := After_is kind n t d v e xp xl xn T V 0 0 0 hn
      simp only [if_pos c4]
      refine Ev.bind e2 (Ev.bind e3 (Ev.bind e4 ?_))
      exact Ev.now _
    · have e2 := PXor.Code_is xp V xl xn hp hV hx (d := dx V xp) rfl
      have hr := PXor.xor_range V xp hV hp
      have hc := PXor.cb_short xl xn (dx V xp) hx hr.1 hr.2
      have e3 := jn _ _ b1 (PXor.cb_bits xl xn (dx V xp)) (by omega)
      have e4 := After_is kind n t d v e xp xl xn T V V (PXor.cl xl xn (dx V xp)) (PXor.cn xl xn (dx V xp)) hn
      simp only [if_neg c4]
      refine Ev.bind e2 (Ev.bind e3 (Ev.bind e4 ?_))
      exact Ev.now _
  · rw [decide_eq_false c1, if_pos c1, pimp_none]
    exact Ev.congr (fun k => if_neg Bool.false_ne_true) (Ev.now _)
abbrev O := Int × Int × S8 × Int × Int
def bad (c : Int) : O := (0, 0, z8, 0, c)
def kv (kind v e xp : Int) (xl xn : Nat) (R : List Int) : Int × Int × Int × Int × Int × Int :=
 if kind = 2 then (IntKind.u64.wrap (IntKind.u64.wrap (v + e) + IntKind.u64.wrap (PDod.A29 R).1), 0, 0, 0, (PDod.A29 R).2.1, (PDod.A29 R).2.2)
 else PXor.xg xp xl xn R
def fin (kind n t d v e xp : Int) (xl xn : Nat) (T m : Int) (W : Int × Int × Int × Int × Int × Int) : O :=
 if ¬ W.2.2.2.2.2 = 0 then bad W.2.2.2.2.2
 else if T ≤ t then bad 4
 else (T, W.1, aft kind n t d v e xp xl xn T W.1 W.2.1 W.2.2.1 W.2.2.2.1, wrap64 (m + W.2.2.2.2.1), 0)
def kg (kind n t d v e xp : Int) (xl xn : Nat) (R : List Int) : O :=
 if ¬ (kind = 1 ∨ kind = 2) then bad 6
 else if n = 0 then (if R.length < 128 then bad 2 else (wrap64 (Bs.number (R.take 64)), Bs.number ((R.drop 64).take 64), aft kind n t d v e xp xl xn (wrap64 (Bs.number (R.take 64))) (Bs.number ((R.drop 64).take 64)) 0 0 0, 128, 0))
 else if ¬ (PDod.A29 R).2.2 = 0 then bad (PDod.A29 R).2.2
 else fin kind n t d v e xp xl xn (wrap64 (wrap64 (t + d) + (PDod.A29 R).1)) (PDod.A29 R).2.1 (kv kind v e xp xl xn (R.drop (PDod.A29 R).2.1.toNat))
def gimp8 (r : O) : Int × Int × Int × Int × Int × Int × Int × Int × Int × Int × Int × Option Int :=
 (r.1, r.2.1, r.2.2.1.1, r.2.2.1.2.1, r.2.2.1.2.2.1, r.2.2.1.2.2.2.1, r.2.2.1.2.2.2.2.1, r.2.2.1.2.2.2.2.2.1, r.2.2.1.2.2.2.2.2.2.1, r.2.2.1.2.2.2.2.2.2.2, r.2.2.2.1, if r.2.2.2.2 = 0 then none else some r.2.2.2.2)
theorem gspec_fit (R : List Int) (hR : Bs.Bits R) (h : (PDod.A29 R).2.2 = 0) : ∃ m : Nat, (PDod.A29 R).2.1 = (m : Int) ∧ m ≤ R.length ∧ 1 ≤ R.length := by
 unfold PDod.A29 at h ⊢
 by_cases c : R.length < min (PDod.lead 4 R + 1) 4 + PDod.size (PDod.lead 4 R)
 ·rw [if_pos c] at h
  exact absurd h (by decide)
 rw [if_neg c] at h ⊢
 by_cases e : PDod.ones (PDod.sgn ((R.drop (min (PDod.lead 4 R + 1) 4)).take (PDod.size (PDod.lead 4 R)))) = PDod.lead 4 R
 ·rw [if_pos e]
  exact ⟨_, rfl, Nat.le_of_not_lt c, by omega⟩
 ·rw [if_neg e] at h
  exact absurd h (by decide)
theorem Fin_is (kind n t d v e xp : Int) (xl xn : Nat) (hn : n > 0) (T m : Int) (W : Int × Int × Int × Int × Int × Int) :
    Ev (fun k => A1o.j0 k kind (wrap64 (m + W.2.2.2.2.1)) (if W.2.2.2.2.2 = 0 then none else some W.2.2.2.2.2) n t d v e xp (xl : Int) (xn : Int) T W.1 W.2.1 W.2.2.1 W.2.2.2.1) (gimp8 (fin kind n t d v e xp xl xn T m W)) := by
  unfold fin
  by_cases c1 : W.2.2.2.2.2 = 0
  · have c1n : ¬ ¬ W.2.2.2.2.2 = 0 := fun h => h c1
    rw [if_neg c1n, if_pos c1]
    by_cases c2 : T ≤ t
    · rw [if_pos c2]
      exact Ev.step (fun k => by rw [A1o.j0, if_pos (show (none : Option Int).isNone = true from rfl), if_pos hn, if_pos c2]; rfl) (Ev.now (gimp8 (bad 4)))
    · rw [if_neg c2]
      refine Ev.step (fun k => by rw [A1o.j0, if_pos (show (none : Option Int).isNone = true from rfl), if_pos hn, if_neg c2]) (Ev.bind (After_is kind n t d v e xp xl xn T W.1 W.2.1 W.2.2.1 W.2.2.2.1 (by omega)) ?_)
      exact Ev.now _
  · rw [if_pos c1, if_neg c1]
    refine Ev.step (fun k => ?_) (Ev.now (gimp8 (bad W.2.2.2.2.2)))
    rw [A1o.j0, if_neg (show ¬ (some W.2.2.2.2.2).isNone = true from Bool.false_ne_true)]
    unfold gimp8 bad z8
    rw [if_neg c1]
    rfl
theorem restL_add (L : List Int) (hL : L.length < 70368744177664) (a : Int) (m : Nat) (hm : m ≤ (PDod.restL L a).length) (h1 : 1 ≤ (PDod.restL L a).length) : PDod.restL L (wrap64 (a + (m : Int))) = (PDod.restL L a).drop m := by
 unfold PDod.restL at hm h1 ⊢
 by_cases c : a < 0 ∨ a > (L.length : Int)
 ·rw [if_pos c] at h1
  exact absurd h1 (by decide)
 rw [if_neg c] at hm ⊢
 rw [List.length_drop] at hm
 have hw : wrap64 (a + (m : Int)) = a + (m : Int) := PBits.w64 _ (by omega)
 rw [hw, if_neg (by omega), List.drop_drop]
 congr 1
 omega
theorem first_is (b : List Int) (hb : Bs.Bytes b) (hl : 8 * b.length < 70368744177664) (a : Int) (ha : -9223372036854775808 ≤ a ∧ a < 9223372036854775808) :
    Ev (fun k => A3p.f k b a) (if (PDod.restL (Bs.flat b) a).length < 128 then (0, 0, 0, some 2) else (wrap64 (Bs.number ((PDod.restL (Bs.flat b) a).take 64)), Bs.number (((PDod.restL (Bs.flat b) a).drop 64).take 64), 128, none)) := by
  have hfl := Bs.A10 b
  have e1 := PBits.Take_is b hb (by omega) a 64
  have e2 := PBits.Take_is b hb (by omega) (wrap64 (a + 64)) 64
  generalize Bs.flat b = L at *
  unfold A3p.f
  refine Ev.bind e1 ?_
  unfold PDod.restL
  by_cases c : a < 0 ∨ a > (L.length : Int)
  · rw [PBits.tk_no (by omega), if_pos c]
    exact Ev.congr (fun k => if_neg Bool.false_ne_true) (Ev.now _)
  rw [if_neg c]
  have hd := List.length_drop (l := L) (i := a.toNat)
  by_cases c1 : (L.drop a.toNat).length < 64
  · rw [PBits.tk_no (by omega), if_pos (by omega)]
    exact Ev.congr (fun k => if_neg Bool.false_ne_true) (Ev.now _)
  rw [PBits.tk_yes (by omega)]
  refine Ev.congr (fun k => if_pos rfl) (Ev.bind e2 ?_)
  have hw : wrap64 (a + 64) = a + 64 := PBits.w64 _ (by omega)
  by_cases c2 : (L.drop a.toNat).length < 128
  · rw [hw, PBits.tk_no (by omega), if_pos c2]
    exact Ev.congr (fun k => if_neg Bool.false_ne_true) (Ev.now _)
  rw [hw, PBits.tk_yes (by omega), if_neg c2]
  have e64 : (64 : Int).toNat = 64 := rfl
  have ea : (a + 64).toNat = a.toNat + 64 := by omega
  rw [e64, ea, ← List.drop_drop]
  exact Ev.congr (fun k => if_pos rfl) (Ev.now _)
theorem Get_is (kind n t d v e xp : Int) (xl xn : Nat) (hn : 0 ≤ n) (hp : 0 ≤ xp ∧ xp < 18446744073709551616) (hx : xl + xn ≤ 64) (b : List Int) (hb : Bs.Bytes b) (hl : 8 * b.length < 70368744177664) (a : Int) (ha : -9223372036854775808 ≤ a ∧ a < 9223372036854775808) :
    Ev (fun k => A1o.f k kind n t d v e xp (xl : Int) (xn : Int) b a) (gimp8 (kg kind n t d v e xp xl xn (PDod.restL (Bs.flat b) a))) := by
  have hfl := Bs.A10 b
  have hL : (Bs.flat b).length < 70368744177664 := by omega
  unfold A1o.f kg
  rw [known_is]
  simp only [Option.bind_some]
  by_cases c1 : kind = 1 ∨ kind = 2
  · have c1n : ¬ ¬ (kind = 1 ∨ kind = 2) := fun h => h c1
    rw [decide_eq_true c1, if_neg c1n]
    simp only [if_true]
    by_cases c2 : n = 0
    · have hng : ¬ n > 0 := by omega
      have e1 := first_is b hb hl a ha
      simp only [if_pos c2]
      refine Ev.bind e1 ?_
      generalize PDod.restL (Bs.flat b) a = R
      by_cases c3 : R.length < 128
      · simp only [if_pos c3]
        exact Ev.step (fun k => by rw [A1o.j0, if_neg (show ¬ (some (2 : Int)).isNone = true from Bool.false_ne_true)]; rfl) (Ev.now (gimp8 (bad 2)))
      · simp only [if_neg c3]
        refine Ev.step (fun k => by rw [A1o.j0, if_pos (show (none : Option Int).isNone = true from rfl), if_neg hng]) (Ev.bind (After_is kind n t d v e xp xl xn (wrap64 (Bs.number (R.take 64))) (Bs.number ((R.drop 64).take 64)) 0 0 0 hn) ?_)
        exact Ev.now _
    simp only [if_neg c2]
    have hng : n > 0 := by omega
    have g1 := PDod.Get_is b hb (by omega) a ha
    have hfit := gspec_fit _ (PDod.restL_bits (Bs.flat_bits b) a)
    have hadd := restL_add (Bs.flat b) hL a
    unfold A2i.f
    generalize PDod.restL (Bs.flat b) a = R at *
    generalize PDod.A29 R = G at *
    by_cases c3 : G.2.2 = 0
    · have c3n : ¬ ¬ G.2.2 = 0 := fun h => h c3
      obtain ⟨m, hm1, hm2, hm3⟩ := hfit c3
      have hr := hadd m hm2 hm3
      have hwr : -9223372036854775808 ≤ wrap64 (a + (m : Int)) ∧ wrap64 (a + (m : Int)) < 9223372036854775808 := by unfold wrap64; omega
      rw [if_neg c3n]
      unfold PDod.gimp at g1
      rw [if_pos c3, hm1] at g1
      rw [hm1, Int.toNat_natCast]
      unfold kv
      by_cases c4 : kind = 2
      · have g2 := PDod.Get_is b hb (by omega) (wrap64 (a + (m : Int))) hwr
        rw [hr] at g2
        rw [if_pos c4]
        simp only [if_pos c4]
        refine Ev.bind (Ev.bind g1 (Ev.congr (fun k => if_pos rfl) (Ev.bind g2 (Ev.now _)))) ?_
        exact Fin_is kind n t d v e xp xl xn hng _ _ (_, 0, 0, 0, _, _)
      · have g2 := PXor.Get_is b hb hl xp hp xl xn hx (wrap64 (a + (m : Int)))
        rw [hr] at g2
        rw [if_neg c4]
        simp only [if_neg c4]
        refine Ev.bind (Ev.bind g1 (Ev.congr (fun k => if_pos rfl) (Ev.bind g2 (Ev.now _)))) ?_
        exact Fin_is kind n t d v e xp xl xn hng _ _ (PXor.xg xp xl xn (R.drop m))
    · rw [if_pos c3]
      unfold PDod.gimp at g1
      rw [if_neg c3] at g1
      refine Ev.bind (Ev.bind g1 (Ev.congr (fun k => if_neg Bool.false_ne_true) (Ev.now _))) ?_
      refine Ev.step (fun k => ?_) (Ev.now (gimp8 (bad G.2.2)))
      rw [A1o.j0, if_neg (show ¬ (some _).isNone = true from Bool.false_ne_true)]
      unfold gimp8 bad z8
      rw [if_neg c3]
      rfl
  · rw [decide_eq_false c1, if_pos c1]
    exact Ev.congr (fun k => if_neg Bool.false_ne_true) (Ev.now (gimp8 (bad 6)))
structure Ok (B : Int) (s : S8) : Prop where
 n0 : 0 ≤ s.1
 n1 : s.1 ≤ B
 p0 : 0 ≤ s.2.2.2.2.2.1 ∧ s.2.2.2.2.2.1 < 18446744073709551616
 w : ∃ xl xn : Nat, s.2.2.2.2.2.2.1 = (xl : Int) ∧ s.2.2.2.2.2.2.2 = (xn : Int) ∧ xl + xn ≤ 64
theorem ok_zero (B : Int) (hB : 0 ≤ B) : Ok B z8 := ⟨Int.le_refl _, hB, by decide, 0, 0, rfl, rfl, by decide⟩
theorem ok_aft (B : Int) (hB : B < 1000000) (kind n t d v e xp xl xn T V ap al an : Int) (hn : 0 ≤ n ∧ n ≤ B) (hV : 0 ≤ V ∧ V < 18446744073709551616) (hap : 0 ≤ ap ∧ ap < 18446744073709551616) (hw : ∃ x y : Nat, al = (x : Int) ∧ an = (y : Int) ∧ x + y ≤ 64) : Ok (B + 1) (aft kind n t d v e xp xl xn T V ap al an) := by
 have hw1 : wrap64 (n + 1) = n + 1 := PBits.w64 _ (by omega)
 have z : ∃ x y : Nat, (0 : Int) = (x : Int) ∧ (0 : Int) = (y : Int) ∧ x + y ≤ 64 := ⟨0, 0, rfl, rfl, by decide⟩
 unfold aft
 rw [hw1]
 refine ⟨by show 0 ≤ n + 1; omega, by show n + 1 ≤ B + 1; omega, ?_, ?_⟩
 ·show 0 ≤ (if kind = 1 then (if n = 0 then V else ap) else 0) ∧ (if kind = 1 then (if n = 0 then V else ap) else 0) < 18446744073709551616
  by_cases c : kind = 1
  ·rw [if_pos c]
   by_cases c' : n = 0
   ·rw [if_pos c']; exact hV
   ·rw [if_neg c']; exact hap
  ·rw [if_neg c]; decide
 ·show ∃ x y : Nat, (if kind = 1 then (if n = 0 then 0 else al) else 0) = (x : Int) ∧ (if kind = 1 then (if n = 0 then 0 else an) else 0) = (y : Int) ∧ x + y ≤ 64
  by_cases c : kind = 1
  ·rw [if_pos c, if_pos c]
   by_cases c' : n = 0
   ·rw [if_pos c', if_pos c']; exact z
   ·rw [if_neg c', if_neg c']; exact hw
  ·rw [if_neg c, if_neg c]; exact z
theorem u64_is (x : Int) : 0 ≤ IntKind.u64.wrap x ∧ IntKind.u64.wrap x < 18446744073709551616 := u64_range x
theorem kv_ok (kind v e xp : Int) (xl xn : Nat) (hp : 0 ≤ xp ∧ xp < 18446744073709551616) (hx : xl + xn ≤ 64) (R : List Int) (hR : Bs.Bits R) (h : (kv kind v e xp xl xn R).2.2.2.2.2 = 0) :
    (0 ≤ (kv kind v e xp xl xn R).1 ∧ (kv kind v e xp xl xn R).1 < 18446744073709551616) ∧ (0 ≤ (kv kind v e xp xl xn R).2.1 ∧ (kv kind v e xp xl xn R).2.1 < 18446744073709551616) ∧
    (∃ x y : Nat, (kv kind v e xp xl xn R).2.2.1 = (x : Int) ∧ (kv kind v e xp xl xn R).2.2.2.1 = (y : Int) ∧ x + y ≤ 64) ∧ ∃ m : Nat, (kv kind v e xp xl xn R).2.2.2.2.1 = (m : Int) ∧ m ≤ R.length := by
  unfold kv at h ⊢
  by_cases c : kind = 2
  · rw [if_pos c] at h ⊢
    obtain ⟨m, h1, h2, _⟩ := gspec_fit R hR h
    exact ⟨u64_is _, by show (0 : Int) ≤ 0 ∧ (0 : Int) < _; decide, ⟨0, 0, rfl, rfl, by decide⟩, m, h1, h2⟩
  · rw [if_neg c] at h ⊢
    obtain ⟨d, m, d0, d1, m1, m2, _, hG⟩ := PXor.xg_ok xp xl xn hx hp R hR h
    rw [hG]
    have hr := PXor.xor_range xp d hp ⟨d0, d1⟩
    exact ⟨hr, hr, ⟨_, _, rfl, rfl, PXor.cb_ok xl xn d hx d0 d1⟩, m, rfl, m2⟩
theorem kg_ok (B : Int) (hB : B < 1000000) (kind n t d v e xp : Int) (xl xn : Nat) (hn : 0 ≤ n ∧ n ≤ B) (hp : 0 ≤ xp ∧ xp < 18446744073709551616) (hx : xl + xn ≤ 64) (R : List Int) (hR : Bs.Bits R) (hl : R.length < 70368744177664) (h : (kg kind n t d v e xp xl xn R).2.2.2.2 = 0) :
    Ok (B + 1) (kg kind n t d v e xp xl xn R).2.2.1 ∧ ∃ m : Nat, (kg kind n t d v e xp xl xn R).2.2.2.1 = (m : Int) ∧ m ≤ R.length ∧ 1 ≤ R.length := by
  have z : ∃ x y : Nat, (0 : Int) = (x : Int) ∧ (0 : Int) = (y : Int) ∧ x + y ≤ 64 := ⟨0, 0, rfl, rfl, by decide⟩
  unfold kg at h ⊢
  by_cases c1 : ¬ (kind = 1 ∨ kind = 2)
  · rw [if_pos c1] at h
    exact absurd h (by decide)
  rw [if_neg c1] at h ⊢
  by_cases c2 : n = 0
  · rw [if_pos c2] at h ⊢
    by_cases c3 : R.length < 128
    · rw [if_pos c3] at h
      exact absurd h (by decide)
    rw [if_neg c3]
    have hnr := PXor.num_range hR 64 64 (by omega)
    have k64 : (2 : Int) ^ 64 = 18446744073709551616 := by decide
    rw [k64] at hnr
    exact ⟨ok_aft B hB kind n t d v e xp xl xn _ _ 0 0 0 hn hnr (by decide) z, 128, rfl, by omega, by omega⟩
  rw [if_neg c2] at h ⊢
  by_cases c3 : (PDod.A29 R).2.2 = 0
  · have c3n : ¬ ¬ (PDod.A29 R).2.2 = 0 := fun h => h c3
    rw [if_neg c3n] at h ⊢
    obtain ⟨m, hm1, hm2, hm3⟩ := gspec_fit R hR c3
    have hd := List.length_drop (l := R) (i := m)
    rw [hm1, Int.toNat_natCast] at h ⊢
    have hv := kv_ok kind v e xp xl xn hp hx (R.drop m) (hR.drop m)
    generalize kv kind v e xp xl xn (R.drop m) = W at *
    generalize wrap64 (wrap64 (t + d) + (PDod.A29 R).1) = T at *
    unfold fin at h ⊢
    by_cases c4 : W.2.2.2.2.2 = 0
    · have c4n : ¬ ¬ W.2.2.2.2.2 = 0 := fun h => h c4
      rw [if_neg c4n] at h ⊢
      by_cases c5 : T ≤ t
      · rw [if_pos c5] at h
        exact absurd h (by show ¬ ((4 : Int) = 0); decide)
      rw [if_neg c5]
      obtain ⟨v1, v2, v3, m2, v4, v5⟩ := hv c4
      refine ⟨ok_aft B hB kind n t d v e xp xl xn T _ _ _ _ hn v1 v2 v3, m + m2, ?_, by omega, hm3⟩
      show wrap64 ((m : Int) + W.2.2.2.2.1) = _
      rw [v4, PBits.w64 _ (by omega)]
      omega
    · rw [if_pos c4] at h
      exact absurd h c4
  · rw [if_pos c3] at h
    exact absurd h c3
end Go.Proofs.YtodocfjbpkicgaaDoor.PKinds
end
section
namespace Go.Proofs.YtodocfjbpkicgaaDoor.PBatch
open Go Go.RowKit Go.Proofs.YtodocfjbpkicgaaDoor Go.Proofs.YtodocfjbpkicgaaDoor.All Go.Proofs.YtodocfjbpkicgaaDoorW.PrintWords Go.Proofs.YtodocfjbpkicgaaDoorW.PrintLast Go.Proofs.YtodocfjbpkicgaaDoor.PKinds
set_option linter.unusedVariables false
set_option linter.unusedSimpArgs false
abbrev Out := Int × Int × Int × Int × Int × Int × Int × Int × Int × Int × Option Int × List Int × Int × Int
def pk8 (T V : Int) (s : S8) (c : Option Int) (b : List Int) (u h : Int) : Out := (T, V, s.1, s.2.1, s.2.2.1, s.2.2.2.1, s.2.2.2.2.1, s.2.2.2.2.2.1, s.2.2.2.2.2.2.1, s.2.2.2.2.2.2.2, c, b, u, h)
def OSays (K : PKinds.O) (R : List Int) (f : Nat → Option Out) : Prop :=
 ∃ T V s b' u' h', Ev f (pk8 T V s (if K.2.2.2.2 = 0 then none else some K.2.2.2.2) b' u' h') ∧ (K.2.2.2.2 = 0 → T = K.1 ∧ V = K.2.1 ∧ s = K.2.2.1 ∧ PFill.Inv (R.drop K.2.2.2.1.toNat) b' u' h')
theorem osays_err {c : Int} {R : List Int} {f : Nat → Option Out} (hc : ¬ c = 0) (T V : Int) (s : S8) (b' : List Int) (u' h' : Int) (h : Ev f (pk8 T V s (some c) b' u' h')) : OSays (PKinds.bad c) R f := by
 refine ⟨T, V, s, b', u', h', ?_, fun h0 => absurd h0 hc⟩
 show Ev f (pk8 T V s (if c = 0 then none else some c) b' u' h')
 rw [if_neg hc]
 exact h
theorem osays_ok {T V : Int} {s : S8} {m : Nat} {R : List Int} {f : Nat → Option Out} {b' : List Int} {u' h' : Int} (h : Ev f (pk8 T V s none b' u' h')) (hI : PFill.Inv (R.drop m) b' u' h') : OSays (T, V, s, (m : Int), 0) R f := by
 refine ⟨T, V, s, b', u', h', ?_, fun _ => ⟨rfl, rfl, rfl, ?_⟩⟩
 ·show Ev f (pk8 T V s (if (0 : Int) = 0 then none else some 0) b' u' h')
  rw [if_pos rfl]
  exact h
 ·show PFill.Inv (R.drop (m : Int).toNat) b' u' h'
  rw [Int.toNat_natCast]
  exact hI
theorem sumw (m1 m2 : Nat) (h : m1 + m2 < 140737488355328) : wrap64 ((m1 : Int) + (m2 : Int)) = ((m1 + m2 : Nat) : Int) := by rw [PBits.w64 _ (by omega)]; omega
theorem sumle (m1 m2 L D : Nat) (hd : D = L - m1) (h1 : m1 ≤ L) (h2 : m2 ≤ D) : m1 + m2 ≤ L := by omega
theorem First_is {R b : List Int} {u h : Int} (hI : PFill.Inv R b u h) :
    (R.length < 128 → ∃ b' u' h', Ev (fun k => A14.f k b u h) (0, 0, some 2, b', u', h')) ∧
    (128 ≤ R.length → ∃ b' u' h', Ev (fun k => A14.f k b u h) (wrap64 (Bs.number (R.take 64)), Bs.number ((R.drop 64).take 64), none, b', u', h') ∧ PFill.Inv (R.drop 128) b' u' h') := by
  have hd := List.length_drop (l := R) (i := 64)
  unfold A14.f
  refine ⟨fun hl => ?_, fun hl => ?_⟩
  · by_cases c : R.length < 64
    · obtain ⟨b1, u1, h1, e1⟩ := read_no hI 64 c
      exact ⟨b1, u1, h1, Ev.bind e1 (Ev.congr (fun k => if_neg Bool.false_ne_true) (Ev.now _))⟩
    · obtain ⟨b1, u1, h1, e1, hI1⟩ := read_yes hI 64 (by decide) (by omega)
      obtain ⟨b2, u2, h2, e2⟩ := read_no hI1 64 (by omega)
      exact ⟨b2, u2, h2, Ev.bind e1 (Ev.congr (fun k => if_pos rfl) (Ev.bind e2 (Ev.congr (fun k => if_neg Bool.false_ne_true) (Ev.now _))))⟩
  · obtain ⟨b1, u1, h1, e1, hI1⟩ := read_yes hI 64 (by decide) (by omega)
    obtain ⟨b2, u2, h2, e2, hI2⟩ := read_yes hI1 64 (by decide) (by omega)
    rw [List.drop_drop] at hI2
    exact ⟨b2, u2, h2, Ev.bind e1 (Ev.congr (fun k => if_pos rfl) (Ev.bind e2 (Ev.congr (fun k => if_pos rfl) (Ev.now _)))), hI2⟩
theorem One_is (kind : Int) (hk : kind = 1 ∨ kind = 2) {R b : List Int} {u h : Int} (hI : PFill.Inv R b u h) (n t d v e xp : Int) (xl xn : Nat) (hn : 0 ≤ n) (hp : 0 ≤ xp ∧ xp < 18446744073709551616) (hx : xl + xn ≤ 64) :
    OSays (PKinds.kg kind n t d v e xp xl xn R) R (fun k => A01.f k kind b u h n t d v e xp (xl : Int) (xn : Int)) := by
  have hR := hI.bits
  have hlen := hI.len
  have hkn : ¬ ¬ (kind = 1 ∨ kind = 2) := fun c => c hk
  unfold PKinds.kg A01.f
  rw [if_neg hkn]
  by_cases c2 : n = 0
  · rw [if_pos c2]
    obtain ⟨f1, f2⟩ := First_is hI
    by_cases c3 : R.length < 128
    · rw [if_pos c3]
      obtain ⟨b1, u1, h1, e1⟩ := f1 c3
      have ea := After_is kind n t d v e xp xl xn 0 0 0 0 0 hn
      exact osays_err (by decide) 0 0 _ b1 u1 h1 (Ev.congr (fun k => if_pos c2) (Ev.bind e1 (Ev.bind ea (Ev.now _))))
    · rw [if_neg c3]
      obtain ⟨b1, u1, h1, e1, hI1⟩ := f2 (Nat.le_of_not_lt c3)
      have ea := After_is kind n t d v e xp xl xn (wrap64 (Bs.number (R.take 64))) (Bs.number ((R.drop 64).take 64)) 0 0 0 hn
      exact osays_ok (m := 128) (Ev.congr (fun k => if_pos c2) (Ev.bind e1 (Ev.bind ea (Ev.now _)))) hI1
  rw [if_neg c2]
  obtain ⟨b1, u1, h1, e1, hI1⟩ := PTab.Get_is hI
  have hfit := gspec_fit R hR
  unfold PDod.gimp at e1
  generalize hG : PDod.A29 R = G at *
  by_cases c3 : G.2.2 = 0
  · rw [if_neg (fun c => c c3)]
    have hI1 := hI1 c3
    obtain ⟨m1, hm1, hm2, _⟩ := hfit c3
    rw [hm1, Int.toNat_natCast] at hI1 ⊢
    have hd := List.length_drop (l := R) (i := m1)
    rw [if_pos c3] at e1
    have e1 : Ev (fun k => A1q.f k b u h) (G.1, none, b1, u1, h1) := e1
    generalize G.1 = g1 at *
    unfold PKinds.kv
    by_cases c4 : kind = 2
    · rw [if_pos c4]
      obtain ⟨b2, u2, h2, e2, hI2⟩ := PTab.Get_is hI1
      have hfit2 := gspec_fit (R.drop m1) (hR.drop m1)
      unfold PDod.gimp at e2
      generalize hG2 : PDod.A29 (R.drop m1) = G2 at *
      unfold PKinds.fin
      have ea := After_is kind n t d v e xp xl xn (wrap64 (wrap64 (t + d) + g1)) (IntKind.u64.wrap (IntKind.u64.wrap (v + e) + IntKind.u64.wrap G2.1)) 0 0 0 hn
      by_cases c5 : G2.2.2 = 0
      · have hI2 := hI2 c5
        obtain ⟨m2, hn1, hn2, _⟩ := hfit2 c5
        rw [hn1, Int.toNat_natCast, List.drop_drop] at hI2
        rw [if_pos c5] at e2
        have e2 : Ev (fun k => A1q.f k b1 u1 h1) (G2.1, none, b2, u2, h2) := e2
        have hle := sumle m1 m2 _ _ hd hm2 hn2
        have hsum := sumw m1 m2 (Nat.lt_of_le_of_lt hle hlen)
        show OSays (if ¬ G2.2.2 = 0 then PKinds.bad G2.2.2 else if wrap64 (wrap64 (t + d) + g1) ≤ t then PKinds.bad 4 else (wrap64 (wrap64 (t + d) + g1), _, aft kind n t d v e xp xl xn (wrap64 (wrap64 (t + d) + g1)) (IntKind.u64.wrap (IntKind.u64.wrap (v + e) + IntKind.u64.wrap G2.1)) 0 0 0, wrap64 ((m1 : Int) + G2.2.1), 0)) R _
        rw [if_neg (fun c => c c5), hn1, hsum]
        by_cases c6 : wrap64 (wrap64 (t + d) + g1) ≤ t
        · rw [if_pos c6]
          refine osays_err (by decide) (wrap64 (wrap64 (t + d) + g1)) (IntKind.u64.wrap (IntKind.u64.wrap (v + e) + IntKind.u64.wrap G2.1)) (aft kind n t d v e xp xl xn (wrap64 (wrap64 (t + d) + g1)) (IntKind.u64.wrap (IntKind.u64.wrap (v + e) + IntKind.u64.wrap G2.1)) 0 0 0) b2 u2 h2 (Ev.congr (fun k => if_neg c2) (Ev.bind e1 (Ev.congr (fun k => if_pos rfl) (Ev.congr (fun k => if_pos c4) (Ev.bind e2 (Ev.congr (fun k => if_pos rfl) (Ev.step (fun k => by rw [A01.j0, decide_eq_true c6, if_pos rfl]) (Ev.bind ea ?_))))))))
          exact Ev.now _
        · rw [if_neg c6]
          refine osays_ok (T := (wrap64 (wrap64 (t + d) + g1))) (V := (IntKind.u64.wrap (IntKind.u64.wrap (v + e) + IntKind.u64.wrap G2.1))) (s := (aft kind n t d v e xp xl xn (wrap64 (wrap64 (t + d) + g1)) (IntKind.u64.wrap (IntKind.u64.wrap (v + e) + IntKind.u64.wrap G2.1)) 0 0 0)) (Ev.congr (fun k => if_neg c2) (Ev.bind e1 (Ev.congr (fun k => if_pos rfl) (Ev.congr (fun k => if_pos c4) (Ev.bind e2 (Ev.congr (fun k => if_pos rfl) (Ev.step (fun k => by rw [A01.j0, decide_eq_false c6, if_neg Bool.false_ne_true]) (Ev.bind ea ?_)))))))) hI2
          exact Ev.now _
      · show OSays (if ¬ G2.2.2 = 0 then PKinds.bad G2.2.2 else _) R _
        rw [if_pos c5]
        rw [if_neg c5] at e2
        have e2 : Ev (fun k => A1q.f k b1 u1 h1) (G2.1, some G2.2.2, b2, u2, h2) := e2
        refine osays_err c5 (wrap64 (wrap64 (t + d) + g1)) (IntKind.u64.wrap (IntKind.u64.wrap (v + e) + IntKind.u64.wrap G2.1)) (aft kind n t d v e xp xl xn (wrap64 (wrap64 (t + d) + g1)) (IntKind.u64.wrap (IntKind.u64.wrap (v + e) + IntKind.u64.wrap G2.1)) 0 0 0) b2 u2 h2 (Ev.congr (fun k => if_neg c2) (Ev.bind e1 (Ev.congr (fun k => if_pos rfl) (Ev.congr (fun k => if_pos c4) (Ev.bind e2 (Ev.congr (fun k => if_neg Bool.false_ne_true) (Ev.step (fun k => by rw [A01.j0, if_neg Bool.false_ne_true]) (Ev.bind ea ?_))))))))
        exact Ev.now _
    · rw [if_neg c4]
      obtain ⟨V, s0, s1, s2, b2, u2, h2, e2, hv⟩ := Value_is hI1 xp hp xl xn hx
      have hok := PXor.xg_ok xp xl xn hx hp (R.drop m1) (hR.drop m1)
      generalize hG2 : PXor.xg xp xl xn (R.drop m1) = W at *
      unfold PKinds.fin
      have ea := After_is kind n t d v e xp xl xn (wrap64 (wrap64 (t + d) + g1)) V s0 s1 s2 hn
      by_cases c5 : W.2.2.2.2.2 = 0
      · obtain ⟨v1, v2, v3, v4, hI2⟩ := hv c5
        obtain ⟨x, m2, _, _, _, hn2, _, hW⟩ := hok c5
        have hn1 : W.2.2.2.2.1 = (m2 : Int) := by rw [hW]
        rw [hn1, Int.toNat_natCast, List.drop_drop] at hI2
        rw [if_pos c5] at e2
        have hle := sumle m1 m2 _ _ hd hm2 hn2
        have hsum := sumw m1 m2 (Nat.lt_of_le_of_lt hle hlen)
        subst v1 v2 v3 v4
        rw [if_neg (fun c => c c5), hn1, hsum]
        by_cases c6 : wrap64 (wrap64 (t + d) + g1) ≤ t
        · rw [if_pos c6]
          refine osays_err (by decide) (wrap64 (wrap64 (t + d) + g1)) W.1 (aft kind n t d v e xp xl xn (wrap64 (wrap64 (t + d) + g1)) W.1 W.2.1 W.2.2.1 W.2.2.2.1) b2 u2 h2 (Ev.congr (fun k => if_neg c2) (Ev.bind e1 (Ev.congr (fun k => if_pos rfl) (Ev.congr (fun k => if_neg c4) (Ev.bind e2 (Ev.congr (fun k => if_pos rfl) (Ev.step (fun k => by rw [A01.j1, decide_eq_true c6, if_pos rfl]) (Ev.bind ea ?_))))))))
          exact Ev.now _
        · rw [if_neg c6]
          refine osays_ok (T := (wrap64 (wrap64 (t + d) + g1))) (V := W.1) (s := (aft kind n t d v e xp xl xn (wrap64 (wrap64 (t + d) + g1)) W.1 W.2.1 W.2.2.1 W.2.2.2.1)) (Ev.congr (fun k => if_neg c2) (Ev.bind e1 (Ev.congr (fun k => if_pos rfl) (Ev.congr (fun k => if_neg c4) (Ev.bind e2 (Ev.congr (fun k => if_pos rfl) (Ev.step (fun k => by rw [A01.j1, decide_eq_false c6, if_neg Bool.false_ne_true]) (Ev.bind ea ?_)))))))) hI2
          exact Ev.now _
      · rw [if_pos c5]
        rw [if_neg c5] at e2
        refine osays_err c5 (wrap64 (wrap64 (t + d) + g1)) V (aft kind n t d v e xp xl xn (wrap64 (wrap64 (t + d) + g1)) V s0 s1 s2) b2 u2 h2 (Ev.congr (fun k => if_neg c2) (Ev.bind e1 (Ev.congr (fun k => if_pos rfl) (Ev.congr (fun k => if_neg c4) (Ev.bind e2 (Ev.congr (fun k => if_neg Bool.false_ne_true) (Ev.step (fun k => by rw [A01.j1, if_neg Bool.false_ne_true]) (Ev.bind ea ?_))))))))
        exact Ev.now _
  · rw [if_pos c3]
    rw [if_neg c3] at e1
    have e1 : Ev (fun k => A1q.f k b u h) (G.1, some G.2.2, b1, u1, h1) := e1
    refine osays_err c3 0 0 (n, t, d, v, e, xp, (xl : Int), (xn : Int)) b1 u1 h1 (Ev.congr (fun k => if_neg c2) (Ev.bind e1 (Ev.congr (fun k => if_neg Bool.false_ne_true) ?_)))
    exact Ev.now _
end Go.Proofs.YtodocfjbpkicgaaDoor.PBatch
end
section
namespace Go.Proofs.YtodocfjbpkicgaaDoor.PKinds
open Go Go.RowKit Go.Proofs.YtodocfjbpkicgaaDoor Go.Proofs.YtodocfjbpkicgaaDoor.All Go.Proofs.YtodocfjbpkicgaaDoorW.PrintWords Go.Proofs.YtodocfjbpkicgaaDoorW.PrintLast
set_option linter.unusedVariables false
set_option linter.unusedSimpArgs false
theorem fin_code (kind n t d v e xp : Int) (xl xn : Nat) (T m : Int) (W : Int × Int × Int × Int × Int × Int) (hW : W.2.2.2.2.2 = 0 ∨ W.2.2.2.2.2 = 2 ∨ W.2.2.2.2.2 = 3) : (fin kind n t d v e xp xl xn T m W).2.2.2.2 = 0 ∨ (fin kind n t d v e xp xl xn T m W).2.2.2.2 = 2 ∨ (fin kind n t d v e xp xl xn T m W).2.2.2.2 = 3 ∨ (fin kind n t d v e xp xl xn T m W).2.2.2.2 = 4 := by
 unfold fin
 split
 ·rcases hW with h | h | h
  ·exact .inl h
  ·exact .inr (.inl h)
  ·exact .inr (.inr (.inl h))
 ·split
  ·exact .inr (.inr (.inr rfl))
  ·exact .inl rfl
theorem kbd_code (p : Int) (l n : Nat) (R : List Int) (h lead size : Nat) : (PXor.bd p l n R h lead size).2.2.2.2.2 = 0 ∨ (PXor.bd p l n R h lead size).2.2.2.2.2 = 2 ∨ (PXor.bd p l n R h lead size).2.2.2.2.2 = 3 := by
 unfold PXor.bd
 split
 ·exact .inr (.inr rfl)
 ·split
  ·exact .inr (.inl rfl)
  ·split
   ·exact .inl rfl
   ·exact .inr (.inr rfl)
theorem kxg_code (p : Int) (l n : Nat) (R : List Int) : (PXor.xg p l n R).2.2.2.2.2 = 0 ∨ (PXor.xg p l n R).2.2.2.2.2 = 2 ∨ (PXor.xg p l n R).2.2.2.2.2 = 3 := by
 unfold PXor.xg
 split
 ·exact .inr (.inl rfl)
 ·split
  ·exact .inl rfl
  ·split
   ·exact .inr (.inl rfl)
   ·split
    ·split
     ·exact .inr (.inl rfl)
     ·exact kbd_code ..
    ·exact kbd_code ..
theorem kv_code (kind v e xp : Int) (xl xn : Nat) (R : List Int) : (kv kind v e xp xl xn R).2.2.2.2.2 = 0 ∨ (kv kind v e xp xl xn R).2.2.2.2.2 = 2 ∨ (kv kind v e xp xl xn R).2.2.2.2.2 = 3 := by
 unfold kv
 split
 ·exact PDod.gspec_code R
 ·exact kxg_code xp xl xn R
theorem kg_code (kind n t d v e xp : Int) (xl xn : Nat) (R : List Int) : (kg kind n t d v e xp xl xn R).2.2.2.2 = 0 ∨ (kg kind n t d v e xp xl xn R).2.2.2.2 = 2 ∨ (kg kind n t d v e xp xl xn R).2.2.2.2 = 3 ∨ (kg kind n t d v e xp xl xn R).2.2.2.2 = 4 ∨ (kg kind n t d v e xp xl xn R).2.2.2.2 = 6 := by
 unfold kg
 split
 ·exact .inr (.inr (.inr (.inr rfl)))
 ·split
  ·split
   ·exact .inr (.inl rfl)
   ·exact .inl rfl
  ·split
   ·rcases PDod.gspec_code R with h | h | h
    ·exact .inl h
    ·exact .inr (.inl h)
    ·exact .inr (.inr (.inl h))
   ·rcases fin_code kind n t d v e xp xl xn (wrap64 (wrap64 (t + d) + (PDod.A29 R).1)) (PDod.A29 R).2.1 _ (kv_code kind v e xp xl xn (R.drop (PDod.A29 R).2.1.toNat)) with h | h | h | h
    ·exact .inl h
    ·exact .inr (.inl h)
    ·exact .inr (.inr (.inl h))
    ·exact .inr (.inr (.inr (.inl h)))
theorem two64 (A B S : List Int) (hA : A.length = 64) (hB : B.length = 64) : (A ++ B ++ S).take 64 = A ∧ ((A ++ B ++ S).drop 64).take 64 = B ∧ 128 ≤ (A ++ B ++ S).length := by
 refine ⟨?_, ?_, ?_⟩
 ·rw [List.append_assoc, ← hA, List.take_left]
 ·rw [List.append_assoc]
  conv => lhs; arg 2; rw [← hA]
  rw [List.drop_left, ← hB, List.take_left]
 ·rw [List.length_append, List.length_append]; omega
end Go.Proofs.YtodocfjbpkicgaaDoor.PKinds
end
section
namespace Go.Proofs.YtodocfjbpkicgaaDoor.PRising
open Go Go.RowKit Go.Proofs.YtodocfjbpkicgaaDoor Go.Proofs.YtodocfjbpkicgaaDoor.All Go.Proofs.YtodocfjbpkicgaaDoorW.PrintWords Go.Proofs.YtodocfjbpkicgaaDoorW.PrintLast
set_option linter.unusedVariables false
set_option linter.unusedSimpArgs false
def Rg (x : S42) : Prop := (-9223372036854775808 ≤ x.f0 ∧ x.f0 < 9223372036854775808) ∧ (0 ≤ x.f1 ∧ x.f1 < 18446744073709551616)
theorem rdT (M : List S42) (i : Nat) (h : i < M.length) : A2h M (i : Int) = M[i] := by
 unfold A2h
 rw [Int.toNat_natCast, List.getD_eq_getElem?_getD, List.getElem?_eq_getElem h]
 rfl
structure Asc (M : List S42) : Prop where
 rng : ∀ x ∈ M, Rg x
 inc : ∀ (i j : Nat) (hi : i < M.length) (hj : j < M.length), j = i + 1 → M[i].f0 < M[j].f0
theorem Asc.nil : Asc [] := ⟨fun x h => by simp at h, fun i j hi _ _ => absurd hi (Nat.not_lt_zero i)⟩
theorem Asc.snoc {M : List S42} (h : Asc M) {x : S42} (hx : Rg x) (hl : ∀ (i : Nat) (hi : i < M.length), i + 1 = M.length → M[i].f0 < x.f0) : Asc (M ++ [x]) := by
 refine ⟨fun y hy => ?_, fun i j hi hj e => ?_⟩
 ·rcases List.mem_append.mp hy with hy | hy
  ·exact h.rng y hy
  ·rw [List.mem_singleton.mp hy]; exact hx
 ·have hi' : i < M.length + 1 := by rw [List.length_append] at hi; exact hi
  have hj' : j < M.length + 1 := by rw [List.length_append] at hj; exact hj
  have him : i < M.length := by omega
  rw [List.getElem_append_left him]
  by_cases c : j < M.length
  ·rw [List.getElem_append_left c]
   exact h.inc i j him c e
  ·have ej : j = M.length := by omega
   subst ej
   rw [List.getElem_append_right (Nat.le_refl _)]
   have h0 := hl i him (by omega)
   simpa using h0
end Go.Proofs.YtodocfjbpkicgaaDoor.PRising
end
section
namespace Go.Proofs.YtodocfjbpkicgaaDoor.PChunk
open Go Go.RowKit Go.Proofs.YtodocfjbpkicgaaDoor Go.Proofs.YtodocfjbpkicgaaDoor.All Go.Proofs.YtodocfjbpkicgaaDoorW.PrintWords Go.Proofs.YtodocfjbpkicgaaDoorW.PrintLast Go.Proofs.YtodocfjbpkicgaaDoor.PKinds Go.Proofs.YtodocfjbpkicgaaDoor.PRising
set_option linter.unusedVariables false
set_option linter.unusedSimpArgs false
def enc (kind : Int) : List S42 → S8 → List Int × Int
  | [], _ => ([], 0)
  | x :: r, (n, t, d, v, e, xp, xl, xn) =>
    if (kp kind n t d v e xp xl.toNat xn.toNat x.f0 x.f1).2.2 = 0 then
      (if (enc kind r (kp kind n t d v e xp xl.toNat xn.toNat x.f0 x.f1).2.1).2 = 0 then ((kp kind n t d v e xp xl.toNat xn.toNat x.f0 x.f1).1 ++ (enc kind r (kp kind n t d v e xp xl.toNat xn.toNat x.f0 x.f1).2.1).1, 0)
       else ([], (enc kind r (kp kind n t d v e xp xl.toNat xn.toNat x.f0 x.f1).2.1).2))
    else ([], (kp kind n t d v e xp xl.toNat xn.toNat x.f0 x.f1).2.2)
end Go.Proofs.YtodocfjbpkicgaaDoor.PChunk
end
section
namespace Go.Proofs.YtodocfjbpkicgaaDoor.PSlowB
open Go Go.RowKit Go.Proofs.YtodocfjbpkicgaaDoor Go.Proofs.YtodocfjbpkicgaaDoor.All Go.Proofs.YtodocfjbpkicgaaDoorW.PrintWords Go.Proofs.YtodocfjbpkicgaaDoorW.PrintLast Go.Proofs.YtodocfjbpkicgaaDoor.PKinds Go.Proofs.YtodocfjbpkicgaaDoor.PRising Go.Proofs.YtodocfjbpkicgaaDoor.PChunk
set_option linter.unusedVariables false
set_option linter.unusedSimpArgs false
def dec (kind : Int) : Nat → S8 → List Int → List S42 × Int × List Int
 | 0, _, R => ([], 0, R)
 | r + 1, (n, t, d, v, e, xp, xl, xn), R =>
  if (PKinds.kg kind n t d v e xp xl.toNat xn.toNat R).2.2.2.2 = 0 then
   (⟨(PKinds.kg kind n t d v e xp xl.toNat xn.toNat R).1, (PKinds.kg kind n t d v e xp xl.toNat xn.toNat R).2.1⟩ :: (dec kind r (PKinds.kg kind n t d v e xp xl.toNat xn.toNat R).2.2.1 (R.drop (PKinds.kg kind n t d v e xp xl.toNat xn.toNat R).2.2.2.1.toNat)).1,
    (dec kind r (PKinds.kg kind n t d v e xp xl.toNat xn.toNat R).2.2.1 (R.drop (PKinds.kg kind n t d v e xp xl.toNat xn.toNat R).2.2.2.1.toNat)).2)
  else ([], (PKinds.kg kind n t d v e xp xl.toNat xn.toNat R).2.2.2.2, R)
theorem dec_succ (kind : Int) (r : Nat) (n t d v e xp : Int) (xl xn : Nat) (R : List Int) : dec kind (r + 1) (n, t, d, v, e, xp, (xl : Int), (xn : Int)) R =
    if (PKinds.kg kind n t d v e xp xl xn R).2.2.2.2 = 0 then
      (⟨(PKinds.kg kind n t d v e xp xl xn R).1, (PKinds.kg kind n t d v e xp xl xn R).2.1⟩ :: (dec kind r (PKinds.kg kind n t d v e xp xl xn R).2.2.1 (R.drop (PKinds.kg kind n t d v e xp xl xn R).2.2.2.1.toNat)).1,
        (dec kind r (PKinds.kg kind n t d v e xp xl xn R).2.2.1 (R.drop (PKinds.kg kind n t d v e xp xl xn R).2.2.2.1.toNat)).2)
    else ([], (PKinds.kg kind n t d v e xp xl xn R).2.2.2.2, R) := rfl
end Go.Proofs.YtodocfjbpkicgaaDoor.PSlowB
end
section
namespace Go.Proofs.YtodocfjbpkicgaaDoor.PBatch
open Go Go.RowKit Go.Proofs.YtodocfjbpkicgaaDoor Go.Proofs.YtodocfjbpkicgaaDoor.All Go.Proofs.YtodocfjbpkicgaaDoorW.PrintWords Go.Proofs.YtodocfjbpkicgaaDoorW.PrintLast Go.Proofs.YtodocfjbpkicgaaDoor.PKinds Go.Proofs.YtodocfjbpkicgaaDoor.PSlowB
set_option linter.unusedVariables false
set_option linter.unusedSimpArgs false
def nxs (kind : Int) : Nat → S8 → List Int → S8
 | 0, s, _ => s
 | r + 1, (n, t, d, v, e, xp, xl, xn), R =>
  if (PKinds.kg kind n t d v e xp xl.toNat xn.toNat R).2.2.2.2 = 0 then nxs kind r (PKinds.kg kind n t d v e xp xl.toNat xn.toNat R).2.2.1 (R.drop (PKinds.kg kind n t d v e xp xl.toNat xn.toNat R).2.2.2.1.toNat)
  else (n, t, d, v, e, xp, xl, xn)
theorem nxs_succ (kind : Int) (r : Nat) (n t d v e xp : Int) (xl xn : Nat) (R : List Int) : nxs kind (r + 1) (n, t, d, v, e, xp, (xl : Int), (xn : Int)) R =
    if (PKinds.kg kind n t d v e xp xl xn R).2.2.2.2 = 0 then nxs kind r (PKinds.kg kind n t d v e xp xl xn R).2.2.1 (R.drop (PKinds.kg kind n t d v e xp xl xn R).2.2.2.1.toNat)
    else (n, t, d, v, e, xp, (xl : Int), (xn : Int)) := rfl
abbrev NOut := List S42 × Int × Int × Int × Int × Int × Int × Int × Int × Option Int × List Int × Int × Int
def npk (L : List S42) (s : S8) (c : Option Int) (b : List Int) (u h : Int) : NOut := (L, s.1, s.2.1, s.2.2.1, s.2.2.2.1, s.2.2.2.2.1, s.2.2.2.2.2.1, s.2.2.2.2.2.2.1, s.2.2.2.2.2.2.2, c, b, u, h)
def NSays (B : Int) (out : List S42) (D : List S42 × Int × List Int) (s' : S8) (f : Nat → Option NOut) : Prop :=
 ∃ b' u' h', Ev f (npk (out ++ D.1) s' (if D.2.1 = 0 then none else some D.2.1) b' u' h') ∧ (D.2.1 = 0 → PFill.Inv D.2.2 b' u' h' ∧ Ok B s')
theorem Next_l0 (kind : Int) (hk : kind = 1 ∨ kind = 2) (N : Nat) (hN : N ≤ 65535) (base : Nat) (hbase : base ≤ 65535) :
    ∀ (r j : Nat) (R b : List Int) (u h : Int) (out : List S42) (n t d v e xp : Int) (xl xn : Nat), j + r = N → out.length = j → PFill.Inv R b u h → R.length < 70368744177664 → Ok ((base + j : Nat) : Int) (n, t, d, v, e, xp, (xl : Int), (xn : Int)) →
      NSays ((base + N : Nat) : Int) out (dec kind r (n, t, d, v, e, xp, (xl : Int), (xn : Int)) R) (nxs kind r (n, t, d, v, e, xp, (xl : Int), (xn : Int)) R)
        (fun k => A0w.l0 k kind out (N : Int) (j : Int) b u h n t d v e xp (xl : Int) (xn : Int)) := by
  intro r
  induction r with
  | zero =>
    intro j R b u h out n t d v e xp xl xn hj ho hI hRl hok
    obtain rfl : j = N := by omega
    have hnl : ¬ (j : Int) < (j : Int) := by omega
    refine ⟨b, u, h, ?_, fun _ => ⟨hI, hok⟩⟩
    show Ev _ (npk (out ++ []) (n, t, d, v, e, xp, (xl : Int), (xn : Int)) none b u h)
    rw [List.append_nil]
    exact Ev.step (fun k => by rw [A0w.l0, if_neg hnl]; rfl) (Ev.now _)
  | succ r ih =>
    intro j R b u h out n t d v e xp xl xn hj ho hI hRl hok
    have hlt : (j : Int) < (N : Int) := by omega
    obtain ⟨xl', xn', el, en, hx⟩ := hok.w
    have hx : xl + xn ≤ 64 := by
      have e1 : (xl : Int) = (xl' : Int) := el
      have e2 : (xn : Int) = (xn' : Int) := en
      omega
    have hp := hok.p0
    have hn0 : 0 ≤ n := hok.n0
    have hn1 : n ≤ ((base + j : Nat) : Int) := hok.n1
    have ho8 : out.length < 8796093022208 := by omega
    have hOne := One_is kind hk hI n t d v e xp xl xn hn0 hp hx
    have ko := kg_ok ((base + j : Nat) : Int) (by omega) kind n t d v e xp xl xn ⟨hn0, hn1⟩ hp hx R hI.bits hRl
    rw [dec_succ, nxs_succ]
    generalize PKinds.kg kind n t d v e xp xl xn R = K at *
    obtain ⟨T, V, s, b1, u1, h1, g1, g2⟩ := hOne
    obtain ⟨KT, KV, ⟨n', t', d', v', e', xp', al, an⟩, len, c⟩ := K
    have g1 : Ev (fun k => A01.f k kind b u h n t d v e xp (xl : Int) (xn : Int)) (pk8 T V s (if c = 0 then none else some c) b1 u1 h1) := g1
    by_cases c0 : c = 0
    · obtain ⟨q1, q2, q3, hI1⟩ := g2 c0
      obtain ⟨ko', m, hm1, hm2, _⟩ := ko c0
      have q1 : T = KT := q1
      have q2 : V = KV := q2
      have q3 : s = (n', t', d', v', e', xp', al, an) := q3
      have hm1 : len = (m : Int) := hm1
      subst hm1
      obtain ⟨yl, yn, e1, e2, hy⟩ := ko'.w
      have e1 : al = (yl : Int) := e1
      have e2 : an = (yn : Int) := e2
      subst e1 e2 q1 q2 q3
      rw [if_pos c0] at g1
      have hI1 : PFill.Inv (R.drop (m : Int).toNat) b1 u1 h1 := hI1
      have hok2 : Ok ((base + (j + 1) : Nat) : Int) (n', t', d', v', e', xp', (yl : Int), (yn : Int)) := by
        rw [show ((base + (j + 1) : Nat) : Int) = ((base + j : Nat) : Int) + 1 from by omega]
        exact ko'
      have l1 : (out ++ [(⟨T, V⟩ : S42)]).length = j + 1 := by rw [List.length_append, List.length_singleton, ho]
      have l3 : j + 1 + r = N := by omega
      have l4 : (R.drop (m : Int).toNat).length < 70368744177664 := Nat.lt_of_le_of_lt (by rw [List.length_drop]; exact Nat.sub_le _ _) hRl
      have wj : wrap64 ((j : Int) + 1) = ((j + 1 : Nat) : Int) := by rw [PBits.w64 _ (by omega)]; omega
      have hnext := ih (j + 1) (R.drop (m : Int).toNat) b1 u1 h1 (out ++ [⟨T, V⟩]) n' t' d' v' e' xp' yl yn l3 l1 hI1 l4 hok2
      generalize hD : dec kind r (n', t', d', v', e', xp', (yl : Int), (yn : Int)) (R.drop (m : Int).toNat) = D at hnext
      generalize hS : nxs kind r (n', t', d', v', e', xp', (yl : Int), (yn : Int)) (R.drop (m : Int).toNat) = s' at hnext
      obtain ⟨b2, u2, h2, f1, f2⟩ := hnext
      show NSays ((base + N : Nat) : Int) out (if c = 0 then (((⟨T, V⟩ : S42) :: D.1, D.2) : List S42 × Int × List Int) else ([], c, R)) (if c = 0 then s' else (n, t, d, v, e, xp, (xl : Int), (xn : Int))) _
      rw [if_pos c0, if_pos c0]
      refine ⟨b2, u2, h2, ?_, f2⟩
      rw [List.append_assoc] at f1
      refine Ev.step (fun k => by rw [A0w.l0, if_pos hlt]) (Ev.bind g1 ?_)
      exact Ev.congr (fun k => if_pos rfl) (Ev.congr (fun k => by rw [if_pos ho8, wj]; rfl) f1)
    · rw [if_neg c0] at g1
      have hDD : ∀ D : List S42 × Int × List Int, (if c = 0 then (((⟨KT, KV⟩ : S42) :: D.1, D.2) : List S42 × Int × List Int) else ([], c, R)) = ([], c, R) := fun D => if_neg c0
      have hSS : ∀ q : S8, (if c = 0 then q else (n, t, d, v, e, xp, (xl : Int), (xn : Int))) = (n, t, d, v, e, xp, (xl : Int), (xn : Int)) := fun q => if_neg c0
      show NSays ((base + N : Nat) : Int) out (if c = 0 then (((⟨KT, KV⟩ : S42) :: (dec kind r (n', t', d', v', e', xp', al, an) (R.drop len.toNat)).1, (dec kind r (n', t', d', v', e', xp', al, an) (R.drop len.toNat)).2) : List S42 × Int × List Int) else ([], c, R)) (if c = 0 then nxs kind r (n', t', d', v', e', xp', al, an) (R.drop len.toNat) else (n, t, d, v, e, xp, (xl : Int), (xn : Int))) _
      rw [hDD, hSS]
      refine ⟨b1, u1, h1, ?_, fun q => absurd q c0⟩
      show Ev _ (npk (out ++ []) (n, t, d, v, e, xp, (xl : Int), (xn : Int)) (if c = 0 then none else some c) b1 u1 h1)
      rw [List.append_nil, if_neg c0]
      refine Ev.step (fun k => by rw [A0w.l0, if_pos hlt]) (Ev.bind g1 ?_)
      exact Ev.congr (fun k => if_neg Bool.false_ne_true) (Ev.now _)
theorem Next_no (kind : Int) (hk : ¬ (kind = 1 ∨ kind = 2)) (q : Int) (b : List Int) (u h n t d v e xp xl xn : Int) : Ev (fun k => A0w.f k kind b u h n t d v e xp xl xn q) (npk [] (n, t, d, v, e, xp, xl, xn) (some 6) b u h) := by
 unfold A0w.f
 have c1 : ¬ kind = 1 := fun c => hk (.inl c)
 have c2 : (kind != 2) = true := bne_iff_ne.mpr (fun c => hk (.inr c))
 refine Ev.congr (fun k => if_neg c1) ?_
 rw [c2]
 exact Ev.step (fun k => by rw [A0w.j0, if_pos rfl]; rfl) (Ev.now _)
end Go.Proofs.YtodocfjbpkicgaaDoor.PBatch
end
section
namespace Go.Proofs.YtodocfjbpkicgaaDoor.Pure
open Go Go.RowKit Go.Proofs.YtodocfjbpkicgaaDoor Go.Proofs.YtodocfjbpkicgaaDoor.All Go.Proofs.YtodocfjbpkicgaaDoorW.PrintWords Go.Proofs.YtodocfjbpkicgaaDoorW.PrintLast Go.Proofs.YtodocfjbpkicgaaDoor.PKinds Go.Proofs.YtodocfjbpkicgaaDoor.PSlowB Go.Proofs.YtodocfjbpkicgaaDoor.PBatch
set_option linter.unusedVariables false
set_option linter.unusedSimpArgs false
theorem BatchTells_up : Ev (fun k => A1j.f k) true :=
 Ev.of A1j.mono (k := 300) (by decide +kernel)
theorem batch_no (c : Int) (h : c = 0 ∨ c = 2 ∨ c = 3 ∨ c = 4 ∨ c = 6) : A00.f (if c = 0 then none else some c) = some c := by
 have e : codeNo (if c = 0 then none else some c) = c := by
  rcases h with rfl | rfl | rfl | rfl | rfl <;> decide
 unfold A00.f
 rw [e]
def cntB (q : Int) : Nat := if q ≤ 0 then 0 else min q.toNat 32
theorem cntB_le (q : Int) : cntB q ≤ 32 := by
 unfold cntB
 split <;> omega
theorem cntB_lt (q : Int) (j : Nat) (h : j < cntB q) : (j : Int) < q ∧ (j : Int) < 32 := by
 unfold cntB at h
 split at h <;> omega
theorem cntB_ge (q : Int) (j : Nat) (h : j = cntB q) : ¬ ((j : Int) < q ∧ (j : Int) < 32) := by
 unfold cntB at h
 split at h <;> omega
theorem Next_any (kind : Int) (hk : kind = 1 ∨ kind = 2) (q : Int) (base : Nat) (hbase : base ≤ 60000) (R b : List Int) (u h : Int) (hI : PFill.Inv R b u h) (hRl : R.length < 70368744177664) (n t d v e xp : Int) (xl xn : Nat) (hok : Ok (base : Int) (n, t, d, v, e, xp, (xl : Int), (xn : Int))) :
    NSays ((base + cntB q : Nat) : Int) [] (dec kind (cntB q) (n, t, d, v, e, xp, (xl : Int), (xn : Int)) R) (nxs kind (cntB q) (n, t, d, v, e, xp, (xl : Int), (xn : Int)) R)
      (fun k => A0w.f k kind b u h n t d v e xp (xl : Int) (xn : Int) q) := by
  have hc := cntB_le q
  have hmn : mn q 32 = ((cntB q : Nat) : Int) ∨ (q ≤ 0 ∧ mn q 32 = q ∧ cntB q = 0) := by
    unfold mn cntB
    split <;> split <;> omega
  have hk2 : ∀ g : Nat → Option NOut, (∃ y, y = false ∧ g = (fun k => A0w.j0 k kind q y b u h n t d v e xp (xl : Int) (xn : Int))) → NSays ((base + cntB q : Nat) : Int) [] (dec kind (cntB q) (n, t, d, v, e, xp, (xl : Int), (xn : Int)) R) (nxs kind (cntB q) (n, t, d, v, e, xp, (xl : Int), (xn : Int)) R) g := by
    intro g hg
    obtain ⟨y, hy, hg⟩ := hg
    subst hy hg
    rcases hmn with hm | ⟨hq, hm, h0⟩
    · obtain ⟨b2, u2, h2, f1, f2⟩ := Next_l0 kind hk (cntB q) (by omega) base (by omega) (cntB q) 0 R b u h [] n t d v e xp xl xn (by omega) rfl hI hRl hok
      exact ⟨b2, u2, h2, Ev.step (fun k => by rw [A0w.j0, if_neg Bool.false_ne_true, hm]; rfl) f1, f2⟩
    · rw [h0]
      have hnl : ¬ (0 : Int) < q := by omega
      refine ⟨b, u, h, ?_, fun _ => ⟨hI, hok⟩⟩
      show Ev _ (npk ([] ++ []) (n, t, d, v, e, xp, (xl : Int), (xn : Int)) none b u h)
      refine Ev.step (fun k => by rw [A0w.j0, if_neg Bool.false_ne_true, hm]) ?_
      exact Ev.step (fun k => by rw [A0w.l0, if_neg hnl]; rfl) (Ev.now _)
  unfold A0w.f
  rcases hk with rfl | rfl
  · have := hk2 _ ⟨false, rfl, rfl⟩
    obtain ⟨b2, u2, h2, f1, f2⟩ := this
    exact ⟨b2, u2, h2, Ev.congr (fun k => if_pos rfl) f1, f2⟩
  · have := hk2 _ ⟨false, rfl, rfl⟩
    obtain ⟨b2, u2, h2, f1, f2⟩ := this
    exact ⟨b2, u2, h2, Ev.congr (fun k => if_neg (by decide)) f1, f2⟩
section
variable (kind : Int) (l : List Int) (i : Nat) (hi : i < l.length) (q : Int) (hq : rd l (i : Int) = q) (x13 : List S42) (x15 : Option Int) (b : List Int) (u h : Int) (s : S8)
include hi hq
end
end Go.Proofs.YtodocfjbpkicgaaDoor.Pure
end
