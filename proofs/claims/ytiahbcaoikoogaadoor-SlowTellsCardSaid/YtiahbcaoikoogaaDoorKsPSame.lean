-- declarations that this claim needs, copied by a program of the session
import Derived.Test.YtiahbcaoikoogaaDoorKsPXorRGet
import Derived.Test.YtiahbcaoikoogaaDoorKsAllx60
section
namespace Go.Proofs.YtiahbcaoikoogaaDoor.PKinds
open Go Go.RowKit Go.Proofs.YtiahbcaoikoogaaDoor Go.Proofs.YtiahbcaoikoogaaDoor.All Go.Proofs.YtiahbcaoikoogaaDoorW.PrintWords Go.Proofs.YtiahbcaoikoogaaDoorW.PrintLast
set_option linter.unusedVariables false
set_option linter.unusedSimpArgs false
abbrev O := Int × Int × S8 × Int × Int
def bad (c : Int) : O := (0, 0, z8, 0, c)
def kv (kind v e xp : Int) (xl xn : Nat) (R : List Int) : Int × Int × Int × Int × Int × Int :=
  if kind = 2 then (IntKind.u64.wrap (IntKind.u64.wrap (v + e) + IntKind.u64.wrap (PDod.gspec R).1), 0, 0, 0, (PDod.gspec R).2.1, (PDod.gspec R).2.2)
  else PXor.xg xp xl xn R
def fin (kind n t d v e xp : Int) (xl xn : Nat) (T m : Int) (W : Int × Int × Int × Int × Int × Int) : O :=
  if ¬ W.2.2.2.2.2 = 0 then bad W.2.2.2.2.2
  else if T ≤ t then bad 4
  else (T, W.1, aft kind n t d v e xp xl xn T W.1 W.2.1 W.2.2.1 W.2.2.2.1, wrap64 (m + W.2.2.2.2.1), 0)
def kg (kind n t d v e xp : Int) (xl xn : Nat) (R : List Int) : O :=
  if ¬ (kind = 1 ∨ kind = 2) then bad 6
  else if n = 0 then (if R.length < 128 then bad 2 else (wrap64 (Bs.number (R.take 64)), Bs.number ((R.drop 64).take 64), aft kind n t d v e xp xl xn (wrap64 (Bs.number (R.take 64))) (Bs.number ((R.drop 64).take 64)) 0 0 0, 128, 0))
  else if ¬ (PDod.gspec R).2.2 = 0 then bad (PDod.gspec R).2.2
  else fin kind n t d v e xp xl xn (wrap64 (wrap64 (t + d) + (PDod.gspec R).1)) (PDod.gspec R).2.1 (kv kind v e xp xl xn (R.drop (PDod.gspec R).2.1.toNat))
def gref (r : O) : Int × Int × Int × Int × Int × Int × Int × Int × Int × Int × Int × Int :=
  (r.1, r.2.1, r.2.2.1.1, r.2.2.1.2.1, r.2.2.1.2.2.1, r.2.2.1.2.2.2.1, r.2.2.1.2.2.2.2.1, r.2.2.1.2.2.2.2.2.1, r.2.2.1.2.2.2.2.2.2.1, r.2.2.1.2.2.2.2.2.2.2, r.2.2.2.1, r.2.2.2.2)
def gimp8 (r : O) : Int × Int × Int × Int × Int × Int × Int × Int × Int × Int × Int × Option Int :=
  (r.1, r.2.1, r.2.2.1.1, r.2.2.1.2.1, r.2.2.1.2.2.1, r.2.2.1.2.2.2.1, r.2.2.1.2.2.2.2.1, r.2.2.1.2.2.2.2.2.1, r.2.2.1.2.2.2.2.2.2.1, r.2.2.1.2.2.2.2.2.2.2, r.2.2.2.1, if r.2.2.2.2 = 0 then none else some r.2.2.2.2)
theorem gspec_fit (R : List Int) (hR : Bs.Bits R) (h : (PDod.gspec R).2.2 = 0) : ∃ m : Nat, (PDod.gspec R).2.1 = (m : Int) ∧ m ≤ R.length ∧ 1 ≤ R.length := by
  unfold PDod.gspec at h ⊢
  by_cases c : R.length < min (PDod.lead 4 R + 1) 4 + PDod.size (PDod.lead 4 R)
  · rw [if_pos c] at h
    exact absurd h (by decide)
  rw [if_neg c] at h ⊢
  by_cases e : PDod.ones (PDod.sgn ((R.drop (min (PDod.lead 4 R + 1) 4)).take (PDod.size (PDod.lead 4 R)))) = PDod.lead 4 R
  · rw [if_pos e]
    exact ⟨_, rfl, Nat.le_of_not_lt c, by omega⟩
  · rw [if_neg e] at h
    exact absurd h (by decide)
theorem RFin_is (kind n t d v e xp : Int) (xl xn : Nat) (hn : 0 ≤ n) (T m : Int) (W : Int × Int × Int × Int × Int × Int) :
    Ev (fun k => gaiterref01_GetSample.j1 k kind m W.2.2.2.2.2 W.2.2.2.2.1 n t d v e xp (xl : Int) (xn : Int) T W.1 W.2.1 W.2.2.1 W.2.2.2.1) (gref (fin kind n t d v e xp xl xn T m W)) := by
  unfold fin
  by_cases c1 : W.2.2.2.2.2 = 0
  · have c1n : ¬ ¬ W.2.2.2.2.2 = 0 := fun h => h c1
    rw [if_neg c1n]
    by_cases c2 : T ≤ t
    · rw [if_pos c2]
      exact Ev.step (fun k => by rw [gaiterref01_GetSample.j1, if_pos c1, if_pos c2]; rfl) (Ev.now (gref (bad 4)))
    · rw [if_neg c2]
      refine Ev.step (fun k => by rw [gaiterref01_GetSample.j1, if_pos c1, if_neg c2]) (Ev.bind (RAfter_is kind n t d v e xp xl xn T W.1 W.2.1 W.2.2.1 W.2.2.2.1 hn) ?_)
      exact Ev.now _
  · rw [if_pos c1]
    exact Ev.step (fun k => by rw [gaiterref01_GetSample.j1, if_neg c1]; rfl) (Ev.now (gref (bad W.2.2.2.2.2)))
theorem RGet_is (kind n t d v e xp : Int) (xl xn : Nat) (hn : 0 ≤ n) (hp : 0 ≤ xp ∧ xp < 18446744073709551616) (hx : xl + xn ≤ 64) (R : List Int) (hR : Bs.Bits R) (hl : R.length < 70368744177664) :
    Ev (fun k => gaiterref01_GetSample.f k kind n t d v e xp (xl : Int) (xn : Int) R) (gref (kg kind n t d v e xp xl xn R)) := by
  have main : ∀ b : Bool, b = decide (¬ (kind = 1 ∨ kind = 2)) → Ev (fun k => gaiterref01_GetSample.j0 k kind R b n t d v e xp (xl : Int) (xn : Int)) (gref (kg kind n t d v e xp xl xn R)) := by
    intro b hb
    unfold kg
    by_cases c1 : kind = 1 ∨ kind = 2
    · have c1n : ¬ ¬ (kind = 1 ∨ kind = 2) := fun h => h c1
      rw [decide_eq_false c1n] at hb
      subst hb
      rw [if_neg c1n]
      by_cases c2 : n = 0
      · rw [if_pos c2]
        by_cases c3 : R.length < 128
        · rw [if_pos c3]
          exact Ev.step (fun k => by rw [gaiterref01_GetSample.j0, if_neg Bool.false_ne_true, if_pos c2, if_pos (show (R.length : Int) < 128 by omega)]; rfl) (Ev.now (gref (bad 2)))
        · rw [if_neg c3]
          have e1 := PBits.Number_is (R.take 64) (hR.take 64) (by rw [List.length_take]; omega)
          have e2 := PBits.Number_is ((R.drop 64).take 64) ((hR.drop 64).take 64) (by rw [List.length_take]; omega)
          have ec : (R.take 128).drop 64 = (R.drop 64).take 64 := by rw [List.drop_take]
          have e3 := RAfter_is kind n t d v e xp xl xn (wrap64 (Bs.number (R.take 64))) (Bs.number ((R.drop 64).take 64)) 0 0 0 hn
          refine Ev.step (fun k => by rw [gaiterref01_GetSample.j0, if_neg Bool.false_ne_true, if_pos c2, if_neg (show ¬ (R.length : Int) < 128 by omega), if_pos (show (64 : Int) ≤ (R.length : Int) by omega)]) (Ev.bind e1 ?_)
          refine Ev.congr (fun k => by rw [if_pos (by decide), if_pos (show (128 : Int) ≤ (R.length : Int) by omega), ec]) (Ev.bind e2 ?_)
          refine Ev.bind e3 ?_
          exact Ev.now _
      rw [if_neg c2]
      have g1 := PDod.RGet_is R hR (by omega)
      have hfit := gspec_fit R hR
      generalize PDod.gspec R = G at g1 hfit
      refine Ev.step (fun k => by rw [gaiterref01_GetSample.j0, if_neg Bool.false_ne_true, if_neg c2]) (Ev.bind g1 ?_)
      by_cases c3 : G.2.2 = 0
      · have c3n : ¬ ¬ G.2.2 = 0 := fun h => h c3
        rw [if_neg c3n]
        obtain ⟨m, hm1, hm2, _⟩ := hfit c3
        have i1 : (0 : Int) ≤ (m : Int) := Int.natCast_nonneg m
        have i2 : (m : Int) ≤ (R.length : Int) := Int.ofNat_le.mpr hm2
        have hd := List.length_drop (l := R) (i := m)
        rw [hm1, Int.toNat_natCast]
        refine Ev.congr (fun k => by rw [if_pos c3]) ?_
        unfold kv
        by_cases c4 : kind = 2
        · have g2 := PDod.RGet_is (R.drop m) (hR.drop m) (by omega)
          rw [if_pos c4]
          refine Ev.congr (fun k => by rw [if_pos c4, if_pos i1, if_pos i2]) (Ev.bind g2 ?_)
          rw [wrap_add3]
          exact RFin_is kind n t d v e xp xl xn hn _ _ (_, 0, 0, 0, _, _)
        · have g2 := PXor.RGet_is xp hp xl xn hx (R.drop m) (hR.drop m)
          rw [if_neg c4]
          refine Ev.congr (fun k => by rw [if_neg c4, if_pos i1, if_pos i2]) (Ev.bind g2 ?_)
          rw [wrap_add3]
          exact RFin_is kind n t d v e xp xl xn hn _ _ (PXor.xg xp xl xn (R.drop m))
      · rw [if_pos c3]
        exact Ev.congr (fun k => if_neg c3) (Ev.now (gref (bad G.2.2)))
    · rw [decide_eq_true c1] at hb
      subst hb
      rw [if_pos c1]
      exact Ev.step (fun k => by rw [gaiterref01_GetSample.j0, if_pos rfl]; rfl) (Ev.now (gref (bad 6)))
  unfold gaiterref01_GetSample.f
  by_cases c1 : kind = 1
  · simp only [if_pos c1]
    exact main false (decide_eq_false (fun h => h (.inl c1))).symm
  · simp only [if_neg c1]
    refine main _ ?_
    by_cases c2 : kind = 2
    · have hh : ¬ ¬ (kind = 1 ∨ kind = 2) := fun h => h (.inr c2)
      rw [bne_eq_false_iff_eq.mpr c2]
      exact (decide_eq_false hh).symm
    · have hh : ¬ (kind = 1 ∨ kind = 2) := fun h => h.elim c1 c2
      rw [bne_iff_ne.mpr c2]
      exact (decide_eq_true hh).symm
end Go.Proofs.YtiahbcaoikoogaaDoor.PKinds
end
section
namespace Go.Proofs.YtiahbcaoikoogaaDoor.PKinds
open Go Go.RowKit Go.Proofs.YtiahbcaoikoogaaDoor Go.Proofs.YtiahbcaoikoogaaDoor.All Go.Proofs.YtiahbcaoikoogaaDoorW.PrintWords Go.Proofs.YtiahbcaoikoogaaDoorW.PrintLast
set_option linter.unusedVariables false
set_option linter.unusedSimpArgs false
theorem Fin_is (kind n t d v e xp : Int) (xl xn : Nat) (hn : n > 0) (T m : Int) (W : Int × Int × Int × Int × Int × Int) :
    Ev (fun k => kinds_Get.j0 k kind (wrap64 (m + W.2.2.2.2.1)) (if W.2.2.2.2.2 = 0 then none else some W.2.2.2.2.2) n t d v e xp (xl : Int) (xn : Int) T W.1 W.2.1 W.2.2.1 W.2.2.2.1) (gimp8 (fin kind n t d v e xp xl xn T m W)) := by
  unfold fin
  by_cases c1 : W.2.2.2.2.2 = 0
  · have c1n : ¬ ¬ W.2.2.2.2.2 = 0 := fun h => h c1
    rw [if_neg c1n, if_pos c1]
    by_cases c2 : T ≤ t
    · rw [if_pos c2]
      exact Ev.step (fun k => by rw [kinds_Get.j0, if_pos (show (none : Option Int).isNone = true from rfl), if_pos hn, if_pos c2]; rfl) (Ev.now (gimp8 (bad 4)))
    · rw [if_neg c2]
      refine Ev.step (fun k => by rw [kinds_Get.j0, if_pos (show (none : Option Int).isNone = true from rfl), if_pos hn, if_neg c2]) (Ev.bind (After_is kind n t d v e xp xl xn T W.1 W.2.1 W.2.2.1 W.2.2.2.1 (by omega)) ?_)
      exact Ev.now _
  · rw [if_pos c1, if_neg c1]
    refine Ev.step (fun k => ?_) (Ev.now (gimp8 (bad W.2.2.2.2.2)))
    rw [kinds_Get.j0, if_neg (show ¬ (some W.2.2.2.2.2).isNone = true from Bool.false_ne_true)]
    unfold gimp8 bad z8
    rw [if_neg c1]
    rfl
theorem restL_add (L : List Int) (hL : L.length < 70368744177664) (a : Int) (m : Nat) (hm : m ≤ (PDod.restL L a).length) (h1 : 1 ≤ (PDod.restL L a).length) : PDod.restL L (wrap64 (a + (m : Int))) = (PDod.restL L a).drop m := by
  unfold PDod.restL at hm h1 ⊢
  by_cases c : a < 0 ∨ a > (L.length : Int)
  · rw [if_pos c] at h1
    exact absurd h1 (by decide)
  rw [if_neg c] at hm ⊢
  rw [List.length_drop] at hm
  have hw : wrap64 (a + (m : Int)) = a + (m : Int) := PBits.w64 _ (by omega)
  rw [hw, if_neg (by omega), List.drop_drop]
  congr 1
  omega
theorem first_is (b : List Int) (hb : Bs.Bytes b) (hl : 8 * b.length < 70368744177664) (a : Int) (ha : -9223372036854775808 ≤ a ∧ a < 9223372036854775808) :
    Ev (fun k => kinds_first.f k b a) (if (PDod.restL (Bs.flat b) a).length < 128 then (0, 0, 0, some 2) else (wrap64 (Bs.number ((PDod.restL (Bs.flat b) a).take 64)), Bs.number (((PDod.restL (Bs.flat b) a).drop 64).take 64), 128, none)) := by
  have hfl := Bs.flat_length b
  have e1 := PBits.Take_is b hb (by omega) a 64
  have e2 := PBits.Take_is b hb (by omega) (wrap64 (a + 64)) 64
  generalize Bs.flat b = L at *
  unfold kinds_first.f
  refine Ev.bind e1 ?_
  unfold PDod.restL
  by_cases c : a < 0 ∨ a > (L.length : Int)
  · rw [PBits.tk_no (by omega), if_pos c]
    exact Ev.congr (fun k => if_neg Bool.false_ne_true) (Ev.now _)
  rw [if_neg c]
  have hd := List.length_drop (l := L) (i := a.toNat)
  by_cases c1 : (L.drop a.toNat).length < 64
  · rw [PBits.tk_no (by omega), if_pos (by omega)]
    exact Ev.congr (fun k => if_neg Bool.false_ne_true) (Ev.now _)
  rw [PBits.tk_yes (by omega)]
  refine Ev.congr (fun k => if_pos rfl) (Ev.bind e2 ?_)
  have hw : wrap64 (a + 64) = a + 64 := PBits.w64 _ (by omega)
  by_cases c2 : (L.drop a.toNat).length < 128
  · rw [hw, PBits.tk_no (by omega), if_pos c2]
    exact Ev.congr (fun k => if_neg Bool.false_ne_true) (Ev.now _)
  rw [hw, PBits.tk_yes (by omega), if_neg c2]
  have e64 : (64 : Int).toNat = 64 := rfl
  have ea : (a + 64).toNat = a.toNat + 64 := by omega
  rw [e64, ea, ← List.drop_drop]
  exact Ev.congr (fun k => if_pos rfl) (Ev.now _)
theorem Get_is (kind n t d v e xp : Int) (xl xn : Nat) (hn : 0 ≤ n) (hp : 0 ≤ xp ∧ xp < 18446744073709551616) (hx : xl + xn ≤ 64) (b : List Int) (hb : Bs.Bytes b) (hl : 8 * b.length < 70368744177664) (a : Int) (ha : -9223372036854775808 ≤ a ∧ a < 9223372036854775808) :
    Ev (fun k => kinds_Get.f k kind n t d v e xp (xl : Int) (xn : Int) b a) (gimp8 (kg kind n t d v e xp xl xn (PDod.restL (Bs.flat b) a))) := by
  have hfl := Bs.flat_length b
  have hL : (Bs.flat b).length < 70368744177664 := by omega
  unfold kinds_Get.f kg
  rw [known_is]
  simp only [Option.bind_some]
  by_cases c1 : kind = 1 ∨ kind = 2
  · have c1n : ¬ ¬ (kind = 1 ∨ kind = 2) := fun h => h c1
    rw [decide_eq_true c1, if_neg c1n]
    simp only [if_true]
    by_cases c2 : n = 0
    · have hng : ¬ n > 0 := by omega
      have e1 := first_is b hb hl a ha
      simp only [if_pos c2]
      refine Ev.bind e1 ?_
      generalize PDod.restL (Bs.flat b) a = R
      by_cases c3 : R.length < 128
      · simp only [if_pos c3]
        exact Ev.step (fun k => by rw [kinds_Get.j0, if_neg (show ¬ (some (2 : Int)).isNone = true from Bool.false_ne_true)]; rfl) (Ev.now (gimp8 (bad 2)))
      · simp only [if_neg c3]
        refine Ev.step (fun k => by rw [kinds_Get.j0, if_pos (show (none : Option Int).isNone = true from rfl), if_neg hng]) (Ev.bind (After_is kind n t d v e xp xl xn (wrap64 (Bs.number (R.take 64))) (Bs.number ((R.drop 64).take 64)) 0 0 0 hn) ?_)
        exact Ev.now _
    simp only [if_neg c2]
    have hng : n > 0 := by omega
    have g1 := PDod.Get_is b hb (by omega) a ha
    have hfit := gspec_fit _ (PDod.restL_bits (Bs.flat_bits b) a)
    have hadd := restL_add (Bs.flat b) hL a
    unfold kinds_next.f
    generalize PDod.restL (Bs.flat b) a = R at *
    generalize PDod.gspec R = G at *
    by_cases c3 : G.2.2 = 0
    · have c3n : ¬ ¬ G.2.2 = 0 := fun h => h c3
      obtain ⟨m, hm1, hm2, hm3⟩ := hfit c3
      have hr := hadd m hm2 hm3
      have hwr : -9223372036854775808 ≤ wrap64 (a + (m : Int)) ∧ wrap64 (a + (m : Int)) < 9223372036854775808 := by unfold wrap64; omega
      rw [if_neg c3n]
      unfold PDod.gimp at g1
      rw [if_pos c3, hm1] at g1
      rw [hm1, Int.toNat_natCast]
      unfold kv
      by_cases c4 : kind = 2
      · have g2 := PDod.Get_is b hb (by omega) (wrap64 (a + (m : Int))) hwr
        rw [hr] at g2
        rw [if_pos c4]
        simp only [if_pos c4]
        refine Ev.bind (Ev.bind g1 (Ev.congr (fun k => if_pos rfl) (Ev.bind g2 (Ev.now _)))) ?_
        exact Fin_is kind n t d v e xp xl xn hng _ _ (_, 0, 0, 0, _, _)
      · have g2 := PXor.Get_is b hb hl xp hp xl xn hx (wrap64 (a + (m : Int)))
        rw [hr] at g2
        rw [if_neg c4]
        simp only [if_neg c4]
        refine Ev.bind (Ev.bind g1 (Ev.congr (fun k => if_pos rfl) (Ev.bind g2 (Ev.now _)))) ?_
        exact Fin_is kind n t d v e xp xl xn hng _ _ (PXor.xg xp xl xn (R.drop m))
    · rw [if_pos c3]
      unfold PDod.gimp at g1
      rw [if_neg c3] at g1
      refine Ev.bind (Ev.bind g1 (Ev.congr (fun k => if_neg Bool.false_ne_true) (Ev.now _))) ?_
      refine Ev.step (fun k => ?_) (Ev.now (gimp8 (bad G.2.2)))
      rw [kinds_Get.j0, if_neg (show ¬ (some _).isNone = true from Bool.false_ne_true)]
      unfold gimp8 bad z8
      rw [if_neg c3]
      rfl
  · rw [decide_eq_false c1, if_pos c1]
    exact Ev.congr (fun k => if_neg Bool.false_ne_true) (Ev.now (gimp8 (bad 6)))
end Go.Proofs.YtiahbcaoikoogaaDoor.PKinds
end
section
namespace Go.Proofs.YtiahbcaoikoogaaDoor.PXor
open Go Go.RowKit Go.Proofs.YtiahbcaoikoogaaDoor Go.Proofs.YtiahbcaoikoogaaDoor.All Go.Proofs.YtiahbcaoikoogaaDoorW.PrintWords Go.Proofs.YtiahbcaoikoogaaDoorW.PrintLast
set_option linter.unusedVariables false
set_option linter.unusedSimpArgs false
set_option linter.unusedSectionVars false
theorem xg_ok (p : Int) (l n : Nat) (hln : l + n ≤ 64) (hp : 0 ≤ p ∧ p < 18446744073709551616) (R : List Int) (hR : Bs.Bits R) (h : (xg p l n R).2.2.2.2.2 = 0) :
    ∃ (d : Int) (m : Nat), 0 ≤ d ∧ d < 18446744073709551616 ∧ 1 ≤ m ∧ m ≤ R.length ∧ cb l n d = R.take m ∧ xg p l n R = (Go.bits .xor .u64 p d, Go.bits .xor .u64 p d, (cl l n d : Int), (cn l n d : Int), (m : Int), 0) := by
  have hbd : ∀ (h lead size : Nat), (bd p l n R h lead size).2.2.2.2.2 = 0 → ∃ (d : Int) (m : Nat), 0 ≤ d ∧ d < 18446744073709551616 ∧ 1 ≤ m ∧ m ≤ R.length ∧ cb l n d = R.take m ∧ bd p l n R h lead size = (Go.bits .xor .u64 p d, Go.bits .xor .u64 p d, (cl l n d : Int), (cn l n d : Int), (m : Int), 0) := by
    intro h lead size hh
    unfold bd at hh ⊢
    by_cases c0 : size = 0 ∨ lead + size > 64
    · rw [if_pos c0] at hh
      exact absurd hh (by decide)
    rw [if_neg c0] at hh ⊢
    by_cases c1 : R.length < h + size
    · rw [if_pos c1] at hh
      exact absurd hh (by decide)
    rw [if_neg c1] at hh ⊢
    by_cases c2 : cb l n (xv R h lead size) = R.take (h + size)
    · rw [if_pos c2]
      have hx := xv_range hR h lead size (by omega) (by omega)
      exact ⟨_, _, hx.1, hx.2, by omega, by omega, c2, rfl⟩
    · rw [if_neg c2] at hh
      exact absurd hh (by decide)
  unfold xg at h ⊢
  by_cases c0 : R.length = 0
  · rw [if_pos c0] at h
    exact absurd h (by decide)
  rw [if_neg c0] at h ⊢
  by_cases c1 : rd R 0 = 0
  · rw [if_pos c1]
    refine ⟨0, 1, by decide, by decide, by decide, by omega, ?_, ?_⟩
    · rw [take1 R (by omega) c1]
      unfold cb
      rw [if_pos rfl]
    · unfold cl cn
      rw [if_pos rfl, if_pos rfl, Ib.xor_u64_zero p hp]
      rfl
  rw [if_neg c1] at h ⊢
  by_cases c2 : R.length = 1
  · rw [if_pos c2] at h
    exact absurd h (by decide)
  rw [if_neg c2] at h ⊢
  by_cases c3 : rd R 1 = 1
  · rw [if_pos c3] at h ⊢
    by_cases c4 : R.length < 14
    · rw [if_pos c4] at h
      exact absurd h (by decide)
    rw [if_neg c4] at h ⊢
    exact hbd _ _ _ h
  · rw [if_neg c3] at h ⊢
    exact hbd _ _ _ h
end Go.Proofs.YtiahbcaoikoogaaDoor.PXor
end
section
namespace Go.Proofs.YtiahbcaoikoogaaDoor.PKinds
open Go Go.RowKit Go.Proofs.YtiahbcaoikoogaaDoor Go.Proofs.YtiahbcaoikoogaaDoor.All Go.Proofs.YtiahbcaoikoogaaDoorW.PrintWords Go.Proofs.YtiahbcaoikoogaaDoorW.PrintLast
set_option linter.unusedVariables false
set_option linter.unusedSimpArgs false
structure Ok (B : Int) (s : S8) : Prop where
  n0 : 0 ≤ s.1
  n1 : s.1 ≤ B
  p0 : 0 ≤ s.2.2.2.2.2.1 ∧ s.2.2.2.2.2.1 < 18446744073709551616
  w : ∃ xl xn : Nat, s.2.2.2.2.2.2.1 = (xl : Int) ∧ s.2.2.2.2.2.2.2 = (xn : Int) ∧ xl + xn ≤ 64
theorem ok_zero (B : Int) (hB : 0 ≤ B) : Ok B z8 := ⟨Int.le_refl _, hB, by decide, 0, 0, rfl, rfl, by decide⟩
theorem ok_aft (B : Int) (hB : B < 1000000) (kind n t d v e xp xl xn T V ap al an : Int) (hn : 0 ≤ n ∧ n ≤ B) (hV : 0 ≤ V ∧ V < 18446744073709551616) (hap : 0 ≤ ap ∧ ap < 18446744073709551616) (hw : ∃ x y : Nat, al = (x : Int) ∧ an = (y : Int) ∧ x + y ≤ 64) : Ok (B + 1) (aft kind n t d v e xp xl xn T V ap al an) := by
  have hw1 : wrap64 (n + 1) = n + 1 := PBits.w64 _ (by omega)
  have z : ∃ x y : Nat, (0 : Int) = (x : Int) ∧ (0 : Int) = (y : Int) ∧ x + y ≤ 64 := ⟨0, 0, rfl, rfl, by decide⟩
  unfold aft
  rw [hw1]
  refine ⟨by show 0 ≤ n + 1; omega, by show n + 1 ≤ B + 1; omega, ?_, ?_⟩
  · show 0 ≤ (if kind = 1 then (if n = 0 then V else ap) else 0) ∧ (if kind = 1 then (if n = 0 then V else ap) else 0) < 18446744073709551616
    by_cases c : kind = 1
    · rw [if_pos c]
      by_cases c' : n = 0
      · rw [if_pos c']; exact hV
      · rw [if_neg c']; exact hap
    · rw [if_neg c]; decide
  · show ∃ x y : Nat, (if kind = 1 then (if n = 0 then 0 else al) else 0) = (x : Int) ∧ (if kind = 1 then (if n = 0 then 0 else an) else 0) = (y : Int) ∧ x + y ≤ 64
    by_cases c : kind = 1
    · rw [if_pos c, if_pos c]
      by_cases c' : n = 0
      · rw [if_pos c', if_pos c']; exact z
      · rw [if_neg c', if_neg c']; exact hw
    · rw [if_neg c, if_neg c]; exact z
theorem u64_is (x : Int) : 0 ≤ IntKind.u64.wrap x ∧ IntKind.u64.wrap x < 18446744073709551616 := u64_range x
theorem kv_ok (kind v e xp : Int) (xl xn : Nat) (hp : 0 ≤ xp ∧ xp < 18446744073709551616) (hx : xl + xn ≤ 64) (R : List Int) (hR : Bs.Bits R) (h : (kv kind v e xp xl xn R).2.2.2.2.2 = 0) :
    (0 ≤ (kv kind v e xp xl xn R).1 ∧ (kv kind v e xp xl xn R).1 < 18446744073709551616) ∧ (0 ≤ (kv kind v e xp xl xn R).2.1 ∧ (kv kind v e xp xl xn R).2.1 < 18446744073709551616) ∧
    (∃ x y : Nat, (kv kind v e xp xl xn R).2.2.1 = (x : Int) ∧ (kv kind v e xp xl xn R).2.2.2.1 = (y : Int) ∧ x + y ≤ 64) ∧ ∃ m : Nat, (kv kind v e xp xl xn R).2.2.2.2.1 = (m : Int) ∧ m ≤ R.length := by
  unfold kv at h ⊢
  by_cases c : kind = 2
  · rw [if_pos c] at h ⊢
    obtain ⟨m, h1, h2, _⟩ := gspec_fit R hR h
    exact ⟨u64_is _, by show (0 : Int) ≤ 0 ∧ (0 : Int) < _; decide, ⟨0, 0, rfl, rfl, by decide⟩, m, h1, h2⟩
  · rw [if_neg c] at h ⊢
    obtain ⟨d, m, d0, d1, m1, m2, _, hG⟩ := PXor.xg_ok xp xl xn hx hp R hR h
    rw [hG]
    have hr := PXor.xor_range xp d hp ⟨d0, d1⟩
    exact ⟨hr, hr, ⟨_, _, rfl, rfl, PXor.cb_ok xl xn d hx d0 d1⟩, m, rfl, m2⟩
theorem kg_ok (B : Int) (hB : B < 1000000) (kind n t d v e xp : Int) (xl xn : Nat) (hn : 0 ≤ n ∧ n ≤ B) (hp : 0 ≤ xp ∧ xp < 18446744073709551616) (hx : xl + xn ≤ 64) (R : List Int) (hR : Bs.Bits R) (hl : R.length < 70368744177664) (h : (kg kind n t d v e xp xl xn R).2.2.2.2 = 0) :
    Ok (B + 1) (kg kind n t d v e xp xl xn R).2.2.1 ∧ ∃ m : Nat, (kg kind n t d v e xp xl xn R).2.2.2.1 = (m : Int) ∧ m ≤ R.length ∧ 1 ≤ R.length := by
  have z : ∃ x y : Nat, (0 : Int) = (x : Int) ∧ (0 : Int) = (y : Int) ∧ x + y ≤ 64 := ⟨0, 0, rfl, rfl, by decide⟩
  unfold kg at h ⊢
  by_cases c1 : ¬ (kind = 1 ∨ kind = 2)
  · rw [if_pos c1] at h
    exact absurd h (by decide)
  rw [if_neg c1] at h ⊢
  by_cases c2 : n = 0
  · rw [if_pos c2] at h ⊢
    by_cases c3 : R.length < 128
    · rw [if_pos c3] at h
      exact absurd h (by decide)
    rw [if_neg c3]
    have hnr := PXor.num_range hR 64 64 (by omega)
    have k64 : (2 : Int) ^ 64 = 18446744073709551616 := by decide
    rw [k64] at hnr
    exact ⟨ok_aft B hB kind n t d v e xp xl xn _ _ 0 0 0 hn hnr (by decide) z, 128, rfl, by omega, by omega⟩
  rw [if_neg c2] at h ⊢
  by_cases c3 : (PDod.gspec R).2.2 = 0
  · have c3n : ¬ ¬ (PDod.gspec R).2.2 = 0 := fun h => h c3
    rw [if_neg c3n] at h ⊢
    obtain ⟨m, hm1, hm2, hm3⟩ := gspec_fit R hR c3
    have hd := List.length_drop (l := R) (i := m)
    rw [hm1, Int.toNat_natCast] at h ⊢
    have hv := kv_ok kind v e xp xl xn hp hx (R.drop m) (hR.drop m)
    generalize kv kind v e xp xl xn (R.drop m) = W at *
    generalize wrap64 (wrap64 (t + d) + (PDod.gspec R).1) = T at *
    unfold fin at h ⊢
    by_cases c4 : W.2.2.2.2.2 = 0
    · have c4n : ¬ ¬ W.2.2.2.2.2 = 0 := fun h => h c4
      rw [if_neg c4n] at h ⊢
      by_cases c5 : T ≤ t
      · rw [if_pos c5] at h
        exact absurd h (by show ¬ ((4 : Int) = 0); decide)
      rw [if_neg c5]
      obtain ⟨v1, v2, v3, m2, v4, v5⟩ := hv c4
      refine ⟨ok_aft B hB kind n t d v e xp xl xn T _ _ _ _ hn v1 v2 v3, m + m2, ?_, by omega, hm3⟩
      show wrap64 ((m : Int) + W.2.2.2.2.1) = _
      rw [v4, PBits.w64 _ (by omega)]
      omega
    · rw [if_pos c4] at h
      exact absurd h c4
  · rw [if_pos c3] at h
    exact absurd h c3
end Go.Proofs.YtiahbcaoikoogaaDoor.PKinds
end
section
namespace Go.Proofs.YtiahbcaoikoogaaDoor.PKinds
open Go Go.RowKit Go.Proofs.YtiahbcaoikoogaaDoor Go.Proofs.YtiahbcaoikoogaaDoor.All Go.Proofs.YtiahbcaoikoogaaDoorW.PrintWords Go.Proofs.YtiahbcaoikoogaaDoorW.PrintLast
set_option linter.unusedVariables false
set_option linter.unusedSimpArgs false
theorem fin_code (kind n t d v e xp : Int) (xl xn : Nat) (T m : Int) (W : Int × Int × Int × Int × Int × Int) (hW : W.2.2.2.2.2 = 0 ∨ W.2.2.2.2.2 = 2 ∨ W.2.2.2.2.2 = 3) : (fin kind n t d v e xp xl xn T m W).2.2.2.2 = 0 ∨ (fin kind n t d v e xp xl xn T m W).2.2.2.2 = 2 ∨ (fin kind n t d v e xp xl xn T m W).2.2.2.2 = 3 ∨ (fin kind n t d v e xp xl xn T m W).2.2.2.2 = 4 := by
  unfold fin
  split
  · rcases hW with h | h | h
    · exact .inl h
    · exact .inr (.inl h)
    · exact .inr (.inr (.inl h))
  · split
    · exact .inr (.inr (.inr rfl))
    · exact .inl rfl
theorem kbd_code (p : Int) (l n : Nat) (R : List Int) (h lead size : Nat) : (PXor.bd p l n R h lead size).2.2.2.2.2 = 0 ∨ (PXor.bd p l n R h lead size).2.2.2.2.2 = 2 ∨ (PXor.bd p l n R h lead size).2.2.2.2.2 = 3 := by
  unfold PXor.bd
  split
  · exact .inr (.inr rfl)
  · split
    · exact .inr (.inl rfl)
    · split
      · exact .inl rfl
      · exact .inr (.inr rfl)
theorem kxg_code (p : Int) (l n : Nat) (R : List Int) : (PXor.xg p l n R).2.2.2.2.2 = 0 ∨ (PXor.xg p l n R).2.2.2.2.2 = 2 ∨ (PXor.xg p l n R).2.2.2.2.2 = 3 := by
  unfold PXor.xg
  split
  · exact .inr (.inl rfl)
  · split
    · exact .inl rfl
    · split
      · exact .inr (.inl rfl)
      · split
        · split
          · exact .inr (.inl rfl)
          · exact kbd_code ..
        · exact kbd_code ..
theorem kv_code (kind v e xp : Int) (xl xn : Nat) (R : List Int) : (kv kind v e xp xl xn R).2.2.2.2.2 = 0 ∨ (kv kind v e xp xl xn R).2.2.2.2.2 = 2 ∨ (kv kind v e xp xl xn R).2.2.2.2.2 = 3 := by
  unfold kv
  split
  · exact PDod.gspec_code R
  · exact kxg_code xp xl xn R
theorem kg_code (kind n t d v e xp : Int) (xl xn : Nat) (R : List Int) : (kg kind n t d v e xp xl xn R).2.2.2.2 = 0 ∨ (kg kind n t d v e xp xl xn R).2.2.2.2 = 2 ∨ (kg kind n t d v e xp xl xn R).2.2.2.2 = 3 ∨ (kg kind n t d v e xp xl xn R).2.2.2.2 = 4 ∨ (kg kind n t d v e xp xl xn R).2.2.2.2 = 6 := by
  unfold kg
  split
  · exact .inr (.inr (.inr (.inr rfl)))
  · split
    · split
      · exact .inr (.inl rfl)
      · exact .inl rfl
    · split
      · rcases PDod.gspec_code R with h | h | h
        · exact .inl h
        · exact .inr (.inl h)
        · exact .inr (.inr (.inl h))
      · rcases fin_code kind n t d v e xp xl xn (wrap64 (wrap64 (t + d) + (PDod.gspec R).1)) (PDod.gspec R).2.1 _ (kv_code kind v e xp xl xn (R.drop (PDod.gspec R).2.1.toNat)) with h | h | h | h
        · exact .inl h
        · exact .inr (.inl h)
        · exact .inr (.inr (.inl h))
        · exact .inr (.inr (.inr (.inl h)))
end Go.Proofs.YtiahbcaoikoogaaDoor.PKinds
end
section
namespace Go.Proofs.YtiahbcaoikoogaaDoor.PSlow
open Go Go.RowKit Go.Proofs.YtiahbcaoikoogaaDoor Go.Proofs.YtiahbcaoikoogaaDoor.All Go.Proofs.YtiahbcaoikoogaaDoorW.PrintWords Go.Proofs.YtiahbcaoikoogaaDoorW.PrintLast Go.Proofs.YtiahbcaoikoogaaDoor.PKinds
set_option linter.unusedVariables false
set_option linter.unusedSimpArgs false
theorem rest_drop (L : List Int) (a : Nat) (h : a ≤ L.length) : PDod.restL L (a : Int) = L.drop a := by
  unfold PDod.restL
  rw [if_neg (by omega), Int.toNat_natCast]
theorem mn_lt (a : Int) (h : a < 8) : mn a 8 = a := by
  unfold mn
  split <;> omega
theorem slow_end (kind : Int) (b : List Int) (hb : Bs.Bytes b) (hl : b.length ≤ 600) (nn at_ : Nat) (out : List S59) (n t d v e xp xl xn : Int) (ha : at_ ≤ (Bs.flat b).length) :
    ∃ c : Int, Ev (fun k => slow_Decode.l0 k kind b out (at_ : Int) (nn : Int) (nn : Int) n t d v e xp xl xn) (out, if c = 0 then none else some c) ∧ Ev (fun k => gaiterref09_Decode.l0 k kind (nn : Int) ((Bs.flat b).drop at_) out (nn : Int) n t d v e xp xl xn) (out, c) ∧ (c = 0 ∨ c = 3) := by
  have hnl : ¬ (nn : Int) < (nn : Int) := by omega
  have hfl := Bs.flat_length b
  have hw8 : wrap64 (8 * (b.length : Int)) = ((Bs.flat b).length : Int) := by rw [PBits.w64 _ (by omega), hfl]; omega
  have hRb := (Bs.flat_bits b).drop at_
  have hd := List.length_drop (l := Bs.flat b) (i := at_)
  have hwr : wrap64 (((Bs.flat b).length : Int) - (at_ : Int)) = (((Bs.flat b).drop at_).length : Int) := by rw [PBits.w64 _ (by omega), hd]; omega
  have g1 := PBits.Take_is b hb (by omega) (at_ : Int)
  by_cases c1 : ((Bs.flat b).drop at_).length ≥ 8
  · have c1' : (((Bs.flat b).drop at_).length : Int) ≥ 8 := by omega
    refine ⟨3, ?_, Ev.step (fun k => by rw [gaiterref09_Decode.l0, if_neg hnl, if_pos c1']) (Ev.now _), .inr rfl⟩
    refine Ev.step (fun k => by rw [slow_Decode.l0, if_neg hnl, hw8, hwr]) (Ev.bind (g1 _) ?_)
    exact Ev.congr (fun k => if_pos c1') (Ev.now _)
  · have c1' : ¬ (((Bs.flat b).drop at_).length : Int) ≥ 8 := by omega
    have g2 := PBits.Number_is _ hRb (by omega)
    have g1 := g1 (((Bs.flat b).drop at_).length : Int)
    rw [PBits.tk_yes (by omega), Int.toNat_natCast, Int.toNat_natCast, List.take_of_length_le (Nat.le_refl _)] at g1
    have hmn := mn_lt (((Bs.flat b).drop at_).length : Int) (by omega)
    by_cases c2 : Bs.number ((Bs.flat b).drop at_) = 0
    · refine ⟨0, ?_, Ev.step (fun k => by rw [gaiterref09_Decode.l0, if_neg hnl, if_neg c1']) (Ev.bind g2 (Ev.congr (fun k => if_pos c2) (Ev.now _))), .inl rfl⟩
      refine Ev.step (fun k => by rw [slow_Decode.l0, if_neg hnl, hw8, hwr, hmn]) (Ev.bind g1 ?_)
      exact Ev.congr (fun k => by rw [if_neg c1', if_pos rfl, if_pos c2]) (Ev.now (out, none))
    · refine ⟨3, ?_, Ev.step (fun k => by rw [gaiterref09_Decode.l0, if_neg hnl, if_neg c1']) (Ev.bind g2 (Ev.congr (fun k => if_neg c2) (Ev.now _))), .inr rfl⟩
      refine Ev.step (fun k => by rw [slow_Decode.l0, if_neg hnl, hw8, hwr, hmn]) (Ev.bind g1 ?_)
      exact Ev.congr (fun k => by rw [if_neg c1', if_pos rfl, if_neg c2]) (Ev.now (out, some 3))
theorem slow_l0 (kind : Int) (b : List Int) (hb : Bs.Bytes b) (hl : b.length ≤ 600) (nn : Nat) (hnn : nn ≤ 65535) :
    ∀ (r j at_ : Nat) (out : List S59) (n t d v e xp : Int) (xl xn : Nat), j + r = nn → out.length = j → at_ ≤ (Bs.flat b).length → Ok (j : Int) (n, t, d, v, e, xp, (xl : Int), (xn : Int)) →
      ∃ (M : List S59) (c : Int), Ev (fun k => slow_Decode.l0 k kind b out (at_ : Int) (nn : Int) (j : Int) n t d v e xp (xl : Int) (xn : Int)) (M, if c = 0 then none else some c) ∧
        Ev (fun k => gaiterref09_Decode.l0 k kind (nn : Int) ((Bs.flat b).drop at_) out (j : Int) n t d v e xp (xl : Int) (xn : Int)) (M, c) ∧ (c = 0 ∨ c = 2 ∨ c = 3 ∨ c = 4 ∨ c = 6) ∧ M.length ≤ nn := by
  intro r
  induction r with
  | zero =>
    intro j at_ out n t d v e xp xl xn hj ho ha hok
    obtain rfl : j = nn := by omega
    obtain ⟨c, h1, h2, h3⟩ := slow_end kind b hb hl j at_ out n t d v e xp (xl : Int) (xn : Int) ha
    exact ⟨out, c, h1, h2, h3.elim .inl (fun h => .inr (.inr (.inl h))), by omega⟩
  | succ r ih =>
    intro j at_ out n t d v e xp xl xn hj ho ha hok
    have hlt : (j : Int) < (nn : Int) := by omega
    obtain ⟨xl', xn', el, en, hx⟩ := hok.w
    have hx : xl + xn ≤ 64 := by
      have e1 : (xl : Int) = (xl' : Int) := el
      have e2 : (xn : Int) = (xn' : Int) := en
      omega
    have hp := hok.p0
    have hn0 : 0 ≤ n := hok.n0
    have hn1 : n ≤ (j : Int) := hok.n1
    have hfl := Bs.flat_length b
    have hd := List.length_drop (l := Bs.flat b) (i := at_)
    have g1 := PKinds.Get_is kind n t d v e xp xl xn hn0 hp hx b hb (by omega) (at_ : Int) (by omega)
    rw [rest_drop _ _ ha] at g1
    have hRb := (Bs.flat_bits b).drop at_
    have g2 := PKinds.RGet_is kind n t d v e xp xl xn hn0 hp hx _ hRb (by omega)
    have kc := kg_code kind n t d v e xp xl xn ((Bs.flat b).drop at_)
    have ko := kg_ok (j : Int) (by omega) kind n t d v e xp xl xn ⟨hn0, hn1⟩ hp hx _ hRb (by omega)
    generalize PKinds.kg kind n t d v e xp xl xn ((Bs.flat b).drop at_) = K at *
    obtain ⟨T, V, ⟨n', t', d', v', e', xp', al, an⟩, len, c⟩ := K
    have ho8 : out.length < 8796093022208 := by omega
    by_cases c0 : c = 0
    · obtain ⟨ko', m, hm1, hm2, hm3⟩ := ko c0
      have hm1 : len = (m : Int) := hm1
      subst hm1
      obtain ⟨yl, yn, e1, e2, hy⟩ := ko'.w
      have e1 : al = (yl : Int) := e1
      have e2 : an = (yn : Int) := e2
      subst e1 e2 c0
      have g1 : Ev (fun k => kinds_Get.f k kind n t d v e xp (xl : Int) (xn : Int) b (at_ : Int)) (T, V, n', t', d', v', e', xp', (yl : Int), (yn : Int), (m : Int), none) := g1
      have g2 : Ev (fun k => gaiterref01_GetSample.f k kind n t d v e xp (xl : Int) (xn : Int) ((Bs.flat b).drop at_)) (T, V, n', t', d', v', e', xp', (yl : Int), (yn : Int), (m : Int), 0) := g2
      have hok2 : Ok ((j + 1 : Nat) : Int) (n', t', d', v', e', xp', (yl : Int), (yn : Int)) := by
        rw [show ((j + 1 : Nat) : Int) = (j : Int) + 1 from by omega]
        exact ko'
      have l1 : (out ++ [(⟨T, V⟩ : S59)]).length = j + 1 := by rw [List.length_append, List.length_singleton, ho]
      have l2 : at_ + m ≤ (Bs.flat b).length := by omega
      have l3 : j + 1 + r = nn := by omega
      have wj : wrap64 ((j : Int) + 1) = ((j + 1 : Nat) : Int) := by rw [PBits.w64 _ (by omega)]; omega
      have wa : wrap64 ((at_ : Int) + (m : Int)) = ((at_ + m : Nat) : Int) := by rw [PBits.w64 _ (by omega)]; omega
      obtain ⟨M, c, h1, h2, h3, h4⟩ := ih (j + 1) (at_ + m) (out ++ [⟨T, V⟩]) n' t' d' v' e' xp' yl yn l3 l1 l2 hok2
      refine ⟨M, c, ?_, ?_, h3, h4⟩
      · refine Ev.step (fun k => by rw [slow_Decode.l0, if_pos hlt]) (Ev.bind g1 ?_)
        refine Ev.congr (fun k => by rw [if_pos (show (none : Option Int).isNone = true from rfl), if_pos ho8, wa, wj]) h1
      · refine Ev.step (fun k => by rw [gaiterref09_Decode.l0, if_pos hlt]) (Ev.bind g2 ?_)
        rw [← List.drop_drop] at h2
        have hm2' : (m : Int) ≤ (((Bs.flat b).drop at_).length : Int) := Int.ofNat_le.mpr hm2
        refine Ev.congr (fun k => by rw [if_pos rfl, if_pos ho8, if_pos (Int.natCast_nonneg m), if_pos hm2', Int.toNat_natCast, wj]) h2
    · have g1 : Ev (fun k => kinds_Get.f k kind n t d v e xp (xl : Int) (xn : Int) b (at_ : Int)) (T, V, n', t', d', v', e', xp', al, an, len, some c) := by
        have h := g1
        unfold gimp8 at h
        rw [if_neg c0] at h
        exact h
      have g2 : Ev (fun k => gaiterref01_GetSample.f k kind n t d v e xp (xl : Int) (xn : Int) ((Bs.flat b).drop at_)) (T, V, n', t', d', v', e', xp', al, an, len, c) := g2
      refine ⟨out, c, ?_, ?_, kc, by omega⟩
      · refine Ev.step (fun k => by rw [slow_Decode.l0, if_pos hlt]) (Ev.bind g1 ?_)
        rw [if_neg c0]
        exact Ev.congr (fun k => if_neg Bool.false_ne_true) (Ev.now (out, some c))
      · refine Ev.step (fun k => by rw [gaiterref09_Decode.l0, if_pos hlt]) (Ev.bind g2 ?_)
        exact Ev.congr (fun k => if_neg c0) (Ev.now (out, c))
theorem Decode_is (kind : Int) (b : List Int) (hb : Bs.Bytes b) (hl : b.length ≤ 600) (n : Int) :
    ∃ (M : List S59) (c : Int), Ev (fun k => slow_Decode.f k kind b n) (M, if c = 0 then none else some c) ∧ Ev (fun k => gaiterref09_Decode.f k kind b n) (M, c) ∧ (c = 0 ∨ c = 1 ∨ c = 2 ∨ c = 3 ∨ c = 4 ∨ c = 6) ∧ M.length ≤ 65535 := by
  have hno : ∀ x, x = true → (Ev (fun k => slow_Decode.j0 k kind b n x) (([] : List S59), some 1) ∧ Ev (fun k => gaiterref09_Decode.j0 k kind b n x) (([] : List S59), 1)) := by
    intro x hx
    subst hx
    exact ⟨Ev.step (fun k => by rw [slow_Decode.j0, if_pos rfl]) (Ev.now _), Ev.step (fun k => by rw [gaiterref09_Decode.j0, if_pos rfl]) (Ev.now _)⟩
  unfold slow_Decode.f gaiterref09_Decode.f
  by_cases c1 : n < 1
  · simp only [if_pos c1]
    obtain ⟨h1, h2⟩ := hno true rfl
    exact ⟨[], 1, h1, h2, .inr (.inl rfl), by decide⟩
  simp only [if_neg c1]
  by_cases c2 : n > 65535
  · obtain ⟨h1, h2⟩ := hno _ (decide_eq_true c2)
    exact ⟨[], 1, h1, h2, .inr (.inl rfl), by decide⟩
  rw [decide_eq_false c2]
  obtain ⟨nn, rfl⟩ : ∃ m : Nat, n = (m : Int) := ⟨n.toNat, by omega⟩
  have hz : Ok ((0 : Nat) : Int) (0, 0, 0, 0, 0, 0, ((0 : Nat) : Int), ((0 : Nat) : Int)) := ok_zero 0 (Int.le_refl _)
  obtain ⟨M, c, h1, h2, h3, h4⟩ := slow_l0 kind b hb hl nn (by omega) nn 0 0 [] 0 0 0 0 0 0 0 0 (by omega) rfl (Nat.zero_le _) hz
  have hf := PBits.Flat_is b hb (by omega)
  rw [List.drop_zero] at h2
  refine ⟨M, c, Ev.step (fun k => by rw [slow_Decode.j0, if_neg Bool.false_ne_true]; rfl) h1, Ev.step (fun k => by rw [gaiterref09_Decode.j0, if_neg Bool.false_ne_true]) (Ev.bind hf h2), ?_, by omega⟩
  rcases h3 with h | h | h | h | h
  · exact .inl h
  · exact .inr (.inr (.inl h))
  · exact .inr (.inr (.inr (.inl h)))
  · exact .inr (.inr (.inr (.inr (.inl h))))
  · exact .inr (.inr (.inr (.inr (.inr h))))
end Go.Proofs.YtiahbcaoikoogaaDoor.PSlow
end
section
namespace Go.Proofs.YtiahbcaoikoogaaDoor.PRising
open Go Go.RowKit Go.Proofs.YtiahbcaoikoogaaDoor Go.Proofs.YtiahbcaoikoogaaDoor.All Go.Proofs.YtiahbcaoikoogaaDoorW.PrintWords Go.Proofs.YtiahbcaoikoogaaDoorW.PrintLast
set_option linter.unusedVariables false
set_option linter.unusedSimpArgs false
def Rg (x : S59) : Prop := (-9223372036854775808 ≤ x.f0 ∧ x.f0 < 9223372036854775808) ∧ (0 ≤ x.f1 ∧ x.f1 < 18446744073709551616)
structure Asc (M : List S59) : Prop where
  rng : ∀ x ∈ M, Rg x
  inc : ∀ (i j : Nat) (hi : i < M.length) (hj : j < M.length), j = i + 1 → M[i].f0 < M[j].f0
theorem Asc.nil : Asc [] := ⟨fun x h => by simp at h, fun i j hi _ _ => absurd hi (Nat.not_lt_zero i)⟩
theorem Asc.snoc {M : List S59} (h : Asc M) {x : S59} (hx : Rg x) (hl : ∀ (i : Nat) (hi : i < M.length), i + 1 = M.length → M[i].f0 < x.f0) : Asc (M ++ [x]) := by
  refine ⟨fun y hy => ?_, fun i j hi hj e => ?_⟩
  · rcases List.mem_append.mp hy with hy | hy
    · exact h.rng y hy
    · rw [List.mem_singleton.mp hy]; exact hx
  · have hi' : i < M.length + 1 := by rw [List.length_append] at hi; exact hi
    have hj' : j < M.length + 1 := by rw [List.length_append] at hj; exact hj
    have him : i < M.length := by omega
    rw [List.getElem_append_left him]
    by_cases c : j < M.length
    · rw [List.getElem_append_left c]
      exact h.inc i j him c e
    · have ej : j = M.length := by omega
      subst ej
      rw [List.getElem_append_right (Nat.le_refl _)]
      have h0 := hl i him (by omega)
      simpa using h0
end Go.Proofs.YtiahbcaoikoogaaDoor.PRising
end
section
namespace Go.Proofs.YtiahbcaoikoogaaDoor.PSame
open Go Go.RowKit Go.Proofs.YtiahbcaoikoogaaDoor Go.Proofs.YtiahbcaoikoogaaDoor.All Go.Proofs.YtiahbcaoikoogaaDoorW.PrintWords Go.Proofs.YtiahbcaoikoogaaDoorW.PrintLast
set_option linter.unusedVariables false
set_option linter.unusedSimpArgs false
theorem Same_l0 (M : List S59) (hM : M.length ≤ 1000000) : ∀ (r i : Nat), i + r = M.length → Ev (fun k => gaiterlaw00_Same.l0 k M M (i : Int)) 1 := by
  intro r
  induction r with
  | zero =>
    intro i hi
    have hnl : ¬ (i : Int) < (M.length : Int) := by omega
    exact Ev.step (fun k => by rw [gaiterlaw00_Same.l0, if_neg hnl]) (Ev.now _)
  | succ r ih =>
    intro i hi
    have hlt : (i : Int) < (M.length : Int) := by omega
    have wi : wrap64 ((i : Int) + 1) = ((i + 1 : Nat) : Int) := by rw [PBits.w64 _ (by omega)]; omega
    refine Ev.step (fun k => by rw [gaiterlaw00_Same.l0, if_pos hlt, if_pos (Int.natCast_nonneg i), if_pos hlt, beq_self_eq_true, beq_self_eq_true, Bool.not_true, Bool.or_self, if_neg Bool.false_ne_true, wi]) (ih (i + 1) (by omega))
theorem Same_is (M : List S59) (hM : M.length ≤ 1000000) : Ev (fun k => gaiterlaw00_Same.f k M M) 1 := by
  unfold gaiterlaw00_Same.f
  refine Ev.congr (fun k => if_pos rfl) ?_
  exact Same_l0 M hM M.length 0 (by omega)
end Go.Proofs.YtiahbcaoikoogaaDoor.PSame
end
