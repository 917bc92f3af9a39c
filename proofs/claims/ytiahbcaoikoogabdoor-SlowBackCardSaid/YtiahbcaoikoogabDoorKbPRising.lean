-- declarations that this claim needs, copied by a program of the session
import Derived.Test.YtiahbcaoikoogabDoorKbPKindsGetP
import Derived.Test.YtiahbcaoikoogabDoorKbAllx16
section
namespace Go.Proofs.YtiahbcaoikoogabDoor.PXor
open Go Go.RowKit Go.Proofs.YtiahbcaoikoogabDoor Go.Proofs.YtiahbcaoikoogabDoor.All Go.Proofs.YtiahbcaoikoogabDoorW.PrintWords Go.Proofs.YtiahbcaoikoogabDoorW.PrintLast
set_option linter.unusedVariables false
set_option linter.unusedSimpArgs false
set_option linter.unusedSectionVars false
theorem window_back (d : Int) (h0 : 0 < d) (h1 : d < 18446744073709551616) (l n : Nat) (h : l + n ≤ 64) (hl : l ≤ LL d) (hn : LL d + SS d ≤ l + n) : (d / 2 ^ (64 - l - n) % 2 ^ n) * 2 ^ (64 - l - n) = d := by
  have hw := win d h0 h1
  have g1 := hw.lt
  have g2 := hw.pos
  have g3 := hw.le
  have hhi := hw.hi
  have hmul := hw.mul
  have p1 : (2 : Int) ^ (64 - LL d) ≤ 2 ^ (64 - l) := PBits.pow_le (by omega)
  have p2 : (2 : Int) ^ (64 - l) = 2 ^ n * 2 ^ (64 - l - n) := by rw [← pow_mul]; congr 1; omega
  have p3 : (2 : Int) ^ (64 - LL d - SS d) = 2 ^ (64 - LL d - SS d - (64 - l - n)) * 2 ^ (64 - l - n) := by rw [← pow_mul]; congr 1; omega
  have hp := Bs.pow_pos (64 - l - n)
  have hlt : d / 2 ^ (64 - l - n) < 2 ^ n := Int.ediv_lt_of_lt_mul hp (by omega)
  have hge : 0 ≤ d / 2 ^ (64 - l - n) := Int.ediv_nonneg (Int.le_of_lt h0) (Int.le_of_lt hp)
  rw [Int.emod_eq_of_lt hge hlt]
  refine Int.ediv_mul_cancel ?_
  refine ⟨d / 2 ^ (64 - LL d - SS d) * 2 ^ (64 - LL d - SS d - (64 - l - n)), ?_⟩
  generalize d / 2 ^ (64 - LL d - SS d) = q at hmul
  rw [p3, ← Int.mul_assoc] at hmul
  rw [Int.mul_comm (2 ^ (64 - l - n))]
  exact hmul
theorem xv_low (d : Int) (h0 : 0 < d) (h1 : d < 18446744073709551616) (l n : Nat) (h : l + n ≤ 64) (hl : l ≤ LL d) (hn : LL d + SS d ≤ l + n) (H S : List Int) : xv (H ++ (Bs.low (d / 2 ^ (64 - l - n)) n ++ S)) H.length l n = d := by
  unfold xv
  rw [List.drop_left, List.take_append_of_le_length (by rw [Bs.low_length]; exact Nat.le_refl _), List.take_of_length_le (by rw [Bs.low_length]; exact Nat.le_refl _), Bs.number_low]
  exact window_back d h0 h1 l n h hl hn
theorem xg_own (p v : Int) (hp : 0 ≤ p ∧ p < 18446744073709551616) (hv : 0 ≤ v ∧ v < 18446744073709551616) (l n : Nat) (hln : l + n ≤ 64) {d : Int} (hd : Go.bits .xor .u64 v p = d) (S : List Int) :
    xg p l n (cb l n d ++ S) = (v, v, (cl l n d : Int), (cn l n d : Int), ((cb l n d).length : Int), 0) := by
  have hr := xor_range v p hv hp
  have hback : Go.bits .xor .u64 p d = v := by
    rw [← hd, xor_comm p _ hp hr]
    rw [xor_comm v p hv hp]
    exact xor_back p v hp hv
  rw [hd] at hr
  unfold xg
  by_cases h0 : d = 0
  · subst h0
    have e : cb l n 0 = [0] := by unfold cb; rw [if_pos rfl]
    rw [e]
    have ev : p = v := by rw [← hback, Ib.xor_u64_zero p hp]
    rw [if_neg (by simp), if_pos (show rd ([0] ++ S) 0 = 0 from rfl), ev]
    unfold cl cn
    rw [if_pos rfl, if_pos rfl]
    rfl
  have hw := win d (by omega) hr.2
  have hs := SS_le d (by omega) hr.2
  have g1 := hw.lt
  have g2 := hw.pos
  have g3 := hw.le
  by_cases hc : 0 < n ∧ l ≤ LL d ∧ LL d + SS d ≤ l + n
  · have e : cb l n d = [1, 0] ++ Bs.low (d / 2 ^ (64 - l - n)) n := by unfold cb; rw [if_neg h0, if_pos hc]
    have ecl : cl l n d = l := by unfold cl; rw [if_neg h0, if_pos hc]
    have ecn : cn l n d = n := by unfold cn; rw [if_neg h0, if_pos hc]
    have hx : xv (cb l n d ++ S) 2 l n = d := by
      rw [e, List.append_assoc]
      exact xv_low d (by omega) hr.2 l n hln hc.2.1 hc.2.2 [1, 0] S
    have hlen : (cb l n d).length = 2 + n := by rw [e, List.length_append, Bs.low_length]; rfl
    have r0 : rd (cb l n d ++ S) 0 = 1 := by rw [e]; rfl
    have r1 : rd (cb l n d ++ S) 1 = 0 := by rw [e]; rfl
    have l1 : (cb l n d ++ S).length = 2 + n + S.length := by rw [List.length_append, hlen]
    rw [if_neg (by omega), r0, if_neg (by decide), if_neg (by omega), r1, if_neg (by decide)]
    unfold bd
    rw [if_neg (by omega), if_neg (by omega), hx, if_pos (by rw [← hlen, List.take_left]), hback, hlen]
  · have e : cb l n d = [1, 1] ++ Bs.low (LL d : Int) 6 ++ Bs.low ((SS d : Int) - 1) 6 ++ Bs.low (d / 2 ^ (64 - LL d - SS d)) (SS d) := by unfold cb; rw [if_neg h0, if_neg hc]
    have ecl : cl l n d = LL d := by unfold cl; rw [if_neg h0, if_neg hc]
    have ecn : cn l n d = SS d := by unfold cn; rw [if_neg h0, if_neg hc]
    have hlen : (cb l n d).length = 14 + SS d := by
      rw [e, List.length_append, List.length_append, List.length_append, Bs.low_length, Bs.low_length, Bs.low_length]; rfl
    have r0 : rd (cb l n d ++ S) 0 = 1 := by rw [e]; rfl
    have r1 : rd (cb l n d ++ S) 1 = 1 := by rw [e]; rfl
    have l1 : (cb l n d ++ S).length = 14 + SS d + S.length := by rw [List.length_append, hlen]
    have d2 : ((cb l n d ++ S).drop 2).take 6 = Bs.low (LL d : Int) 6 := by
      rw [e]
      simp only [List.append_assoc]
      show (Bs.low (LL d : Int) 6 ++ (Bs.low ((SS d : Int) - 1) 6 ++ (Bs.low (d / 2 ^ (64 - LL d - SS d)) (SS d) ++ S))).take 6 = _
      rw [List.take_append_of_le_length (by rw [Bs.low_length]; exact Nat.le_refl _), List.take_of_length_le (by rw [Bs.low_length]; exact Nat.le_refl _)]
    have e14 : ([1, 1] ++ Bs.low (LL d : Int) 6).length = 8 := by rw [List.length_append, Bs.low_length]; rfl
    have e14' : ([1, 1] ++ Bs.low (LL d : Int) 6 ++ Bs.low ((SS d : Int) - 1) 6).length = 14 := by rw [List.length_append, Bs.low_length, e14]
    have d8 : ((cb l n d ++ S).drop 8).take 6 = Bs.low ((SS d : Int) - 1) 6 := by
      rw [e, List.append_assoc, List.append_assoc, ← e14, List.drop_left, List.take_append_of_le_length (by rw [Bs.low_length]; exact Nat.le_refl _), List.take_of_length_le (by rw [Bs.low_length]; exact Nat.le_refl _)]
    have k6 : (2 : Int) ^ 6 = 64 := by decide
    have eld : ld (cb l n d ++ S) = LL d := by
      unfold ld
      rw [d2, Bs.number_low, k6]
      omega
    have esd : sd (cb l n d ++ S) = SS d := by
      unfold sd
      rw [d8, Bs.number_low, k6]
      omega
    have hx : xv (cb l n d ++ S) 14 (LL d) (SS d) = d := by
      rw [e, List.append_assoc, ← e14']
      exact xv_low d (by omega) hr.2 (LL d) (SS d) g3 (Nat.le_refl _) (Nat.le_refl _) _ S
    rw [if_neg (by omega), r0, if_neg (by decide), if_neg (by omega), r1, if_pos rfl, if_neg (by omega), eld, esd]
    unfold bd
    rw [if_neg (by omega), if_neg (by omega), hx, if_pos (by rw [← hlen, List.take_left]), hback, hlen]
theorem xg_ok (p : Int) (l n : Nat) (hln : l + n ≤ 64) (hp : 0 ≤ p ∧ p < 18446744073709551616) (R : List Int) (hR : Bs.Bits R) (h : (xg p l n R).2.2.2.2.2 = 0) :
    ∃ (d : Int) (m : Nat), 0 ≤ d ∧ d < 18446744073709551616 ∧ 1 ≤ m ∧ m ≤ R.length ∧ cb l n d = R.take m ∧ xg p l n R = (Go.bits .xor .u64 p d, Go.bits .xor .u64 p d, (cl l n d : Int), (cn l n d : Int), (m : Int), 0) := by
  have hbd : ∀ (h lead size : Nat), (bd p l n R h lead size).2.2.2.2.2 = 0 → ∃ (d : Int) (m : Nat), 0 ≤ d ∧ d < 18446744073709551616 ∧ 1 ≤ m ∧ m ≤ R.length ∧ cb l n d = R.take m ∧ bd p l n R h lead size = (Go.bits .xor .u64 p d, Go.bits .xor .u64 p d, (cl l n d : Int), (cn l n d : Int), (m : Int), 0) := by
    intro h lead size hh
    unfold bd at hh ⊢
    by_cases c0 : size = 0 ∨ lead + size > 64
    · rw [if_pos c0] at hh
      exact absurd hh (by decide)
    rw [if_neg c0] at hh ⊢
    by_cases c1 : R.length < h + size
    · rw [if_pos c1] at hh
      exact absurd hh (by decide)
    rw [if_neg c1] at hh ⊢
    by_cases c2 : cb l n (xv R h lead size) = R.take (h + size)
    · rw [if_pos c2]
      have hx := xv_range hR h lead size (by omega) (by omega)
      exact ⟨_, _, hx.1, hx.2, by omega, by omega, c2, rfl⟩
    · rw [if_neg c2] at hh
      exact absurd hh (by decide)
  unfold xg at h ⊢
  by_cases c0 : R.length = 0
  · rw [if_pos c0] at h
    exact absurd h (by decide)
  rw [if_neg c0] at h ⊢
  by_cases c1 : rd R 0 = 0
  · rw [if_pos c1]
    refine ⟨0, 1, by decide, by decide, by decide, by omega, ?_, ?_⟩
    · rw [take1 R (by omega) c1]
      unfold cb
      rw [if_pos rfl]
    · unfold cl cn
      rw [if_pos rfl, if_pos rfl, Ib.xor_u64_zero p hp]
      rfl
  rw [if_neg c1] at h ⊢
  by_cases c2 : R.length = 1
  · rw [if_pos c2] at h
    exact absurd h (by decide)
  rw [if_neg c2] at h ⊢
  by_cases c3 : rd R 1 = 1
  · rw [if_pos c3] at h ⊢
    by_cases c4 : R.length < 14
    · rw [if_pos c4] at h
      exact absurd h (by decide)
    rw [if_neg c4] at h ⊢
    exact hbd _ _ _ h
  · rw [if_neg c3] at h ⊢
    exact hbd _ _ _ h
end Go.Proofs.YtiahbcaoikoogabDoor.PXor
end
section
namespace Go.Proofs.YtiahbcaoikoogabDoor.PKinds
open Go Go.RowKit Go.Proofs.YtiahbcaoikoogabDoor Go.Proofs.YtiahbcaoikoogabDoor.All Go.Proofs.YtiahbcaoikoogabDoorW.PrintWords Go.Proofs.YtiahbcaoikoogabDoorW.PrintLast
set_option linter.unusedVariables false
set_option linter.unusedSimpArgs false
structure Ok (B : Int) (s : S8) : Prop where
  n0 : 0 ≤ s.1
  n1 : s.1 ≤ B
  p0 : 0 ≤ s.2.2.2.2.2.1 ∧ s.2.2.2.2.2.1 < 18446744073709551616
  w : ∃ xl xn : Nat, s.2.2.2.2.2.2.1 = (xl : Int) ∧ s.2.2.2.2.2.2.2 = (xn : Int) ∧ xl + xn ≤ 64
theorem ok_zero (B : Int) (hB : 0 ≤ B) : Ok B z8 := ⟨Int.le_refl _, hB, by decide, 0, 0, rfl, rfl, by decide⟩
theorem ok_aft (B : Int) (hB : B < 1000000) (kind n t d v e xp xl xn T V ap al an : Int) (hn : 0 ≤ n ∧ n ≤ B) (hV : 0 ≤ V ∧ V < 18446744073709551616) (hap : 0 ≤ ap ∧ ap < 18446744073709551616) (hw : ∃ x y : Nat, al = (x : Int) ∧ an = (y : Int) ∧ x + y ≤ 64) : Ok (B + 1) (aft kind n t d v e xp xl xn T V ap al an) := by
  have hw1 : wrap64 (n + 1) = n + 1 := PBits.w64 _ (by omega)
  have z : ∃ x y : Nat, (0 : Int) = (x : Int) ∧ (0 : Int) = (y : Int) ∧ x + y ≤ 64 := ⟨0, 0, rfl, rfl, by decide⟩
  unfold aft
  rw [hw1]
  refine ⟨by show 0 ≤ n + 1; omega, by show n + 1 ≤ B + 1; omega, ?_, ?_⟩
  · show 0 ≤ (if kind = 1 then (if n = 0 then V else ap) else 0) ∧ (if kind = 1 then (if n = 0 then V else ap) else 0) < 18446744073709551616
    by_cases c : kind = 1
    · rw [if_pos c]
      by_cases c' : n = 0
      · rw [if_pos c']; exact hV
      · rw [if_neg c']; exact hap
    · rw [if_neg c]; decide
  · show ∃ x y : Nat, (if kind = 1 then (if n = 0 then 0 else al) else 0) = (x : Int) ∧ (if kind = 1 then (if n = 0 then 0 else an) else 0) = (y : Int) ∧ x + y ≤ 64
    by_cases c : kind = 1
    · rw [if_pos c, if_pos c]
      by_cases c' : n = 0
      · rw [if_pos c', if_pos c']; exact z
      · rw [if_neg c', if_neg c']; exact hw
    · rw [if_neg c, if_neg c]; exact z
theorem kp_ok (B : Int) (hB : B < 1000000) (kind n t d v e xp : Int) (xl xn : Nat) (T V : Int) (hn : 0 ≤ n ∧ n ≤ B) (hV : 0 ≤ V ∧ V < 18446744073709551616) (hp : 0 ≤ xp ∧ xp < 18446744073709551616) (hx : xl + xn ≤ 64) (h : (kp kind n t d v e xp xl xn T V).2.2 = 0) :
    Ok (B + 1) (kp kind n t d v e xp xl xn T V).2.1 := by
  have z : ∃ x y : Nat, (0 : Int) = (x : Int) ∧ (0 : Int) = (y : Int) ∧ x + y ≤ 64 := ⟨0, 0, rfl, rfl, by decide⟩
  unfold kp at h ⊢
  by_cases c1 : ¬ (kind = 1 ∨ kind = 2)
  · rw [if_pos c1] at h
    exact absurd h (by decide)
  rw [if_neg c1] at h ⊢
  by_cases c2 : n = 0
  · rw [if_pos c2]
    exact ok_aft B hB kind n t d v e xp xl xn T V 0 0 0 hn hV (by decide) z
  rw [if_neg c2] at h ⊢
  by_cases c3 : T ≤ t
  · rw [if_pos c3] at h
    exact absurd h (by decide)
  rw [if_neg c3] at h ⊢
  by_cases c4 : kind = 2
  · rw [if_pos c4]
    exact ok_aft B hB kind n t d v e xp xl xn T V 0 0 0 hn hV (by decide) z
  · rw [if_neg c4]
    have hr := PXor.xor_range V xp hV hp
    exact ok_aft B hB kind n t d v e xp xl xn T V V _ _ hn hV hV ⟨_, _, rfl, rfl, PXor.cb_ok xl xn _ hx hr.1 hr.2⟩
theorem u64_is (x : Int) : 0 ≤ IntKind.u64.wrap x ∧ IntKind.u64.wrap x < 18446744073709551616 := u64_range x
theorem kv_ok (kind v e xp : Int) (xl xn : Nat) (hp : 0 ≤ xp ∧ xp < 18446744073709551616) (hx : xl + xn ≤ 64) (R : List Int) (hR : Bs.Bits R) (h : (kv kind v e xp xl xn R).2.2.2.2.2 = 0) :
    (0 ≤ (kv kind v e xp xl xn R).1 ∧ (kv kind v e xp xl xn R).1 < 18446744073709551616) ∧ (0 ≤ (kv kind v e xp xl xn R).2.1 ∧ (kv kind v e xp xl xn R).2.1 < 18446744073709551616) ∧
    (∃ x y : Nat, (kv kind v e xp xl xn R).2.2.1 = (x : Int) ∧ (kv kind v e xp xl xn R).2.2.2.1 = (y : Int) ∧ x + y ≤ 64) ∧ ∃ m : Nat, (kv kind v e xp xl xn R).2.2.2.2.1 = (m : Int) ∧ m ≤ R.length := by
  unfold kv at h ⊢
  by_cases c : kind = 2
  · rw [if_pos c] at h ⊢
    obtain ⟨m, h1, h2, _⟩ := gspec_fit R hR h
    exact ⟨u64_is _, by show (0 : Int) ≤ 0 ∧ (0 : Int) < _; decide, ⟨0, 0, rfl, rfl, by decide⟩, m, h1, h2⟩
  · rw [if_neg c] at h ⊢
    obtain ⟨d, m, d0, d1, m1, m2, _, hG⟩ := PXor.xg_ok xp xl xn hx hp R hR h
    rw [hG]
    have hr := PXor.xor_range xp d hp ⟨d0, d1⟩
    exact ⟨hr, hr, ⟨_, _, rfl, rfl, PXor.cb_ok xl xn d hx d0 d1⟩, m, rfl, m2⟩
theorem kg_ok (B : Int) (hB : B < 1000000) (kind n t d v e xp : Int) (xl xn : Nat) (hn : 0 ≤ n ∧ n ≤ B) (hp : 0 ≤ xp ∧ xp < 18446744073709551616) (hx : xl + xn ≤ 64) (R : List Int) (hR : Bs.Bits R) (hl : R.length < 70368744177664) (h : (kg kind n t d v e xp xl xn R).2.2.2.2 = 0) :
    Ok (B + 1) (kg kind n t d v e xp xl xn R).2.2.1 ∧ ∃ m : Nat, (kg kind n t d v e xp xl xn R).2.2.2.1 = (m : Int) ∧ m ≤ R.length ∧ 1 ≤ R.length := by
  have z : ∃ x y : Nat, (0 : Int) = (x : Int) ∧ (0 : Int) = (y : Int) ∧ x + y ≤ 64 := ⟨0, 0, rfl, rfl, by decide⟩
  unfold kg at h ⊢
  by_cases c1 : ¬ (kind = 1 ∨ kind = 2)
  · rw [if_pos c1] at h
    exact absurd h (by decide)
  rw [if_neg c1] at h ⊢
  by_cases c2 : n = 0
  · rw [if_pos c2] at h ⊢
    by_cases c3 : R.length < 128
    · rw [if_pos c3] at h
      exact absurd h (by decide)
    rw [if_neg c3]
    have hnr := PXor.num_range hR 64 64 (by omega)
    have k64 : (2 : Int) ^ 64 = 18446744073709551616 := by decide
    rw [k64] at hnr
    exact ⟨ok_aft B hB kind n t d v e xp xl xn _ _ 0 0 0 hn hnr (by decide) z, 128, rfl, by omega, by omega⟩
  rw [if_neg c2] at h ⊢
  by_cases c3 : (PDod.gspec R).2.2 = 0
  · have c3n : ¬ ¬ (PDod.gspec R).2.2 = 0 := fun h => h c3
    rw [if_neg c3n] at h ⊢
    obtain ⟨m, hm1, hm2, hm3⟩ := gspec_fit R hR c3
    have hd := List.length_drop (l := R) (i := m)
    rw [hm1, Int.toNat_natCast] at h ⊢
    have hv := kv_ok kind v e xp xl xn hp hx (R.drop m) (hR.drop m)
    generalize kv kind v e xp xl xn (R.drop m) = W at *
    generalize wrap64 (wrap64 (t + d) + (PDod.gspec R).1) = T at *
    unfold fin at h ⊢
    by_cases c4 : W.2.2.2.2.2 = 0
    · have c4n : ¬ ¬ W.2.2.2.2.2 = 0 := fun h => h c4
      rw [if_neg c4n] at h ⊢
      by_cases c5 : T ≤ t
      · rw [if_pos c5] at h
        exact absurd h (by show ¬ ((4 : Int) = 0); decide)
      rw [if_neg c5]
      obtain ⟨v1, v2, v3, m2, v4, v5⟩ := hv c4
      refine ⟨ok_aft B hB kind n t d v e xp xl xn T _ _ _ _ hn v1 v2 v3, m + m2, ?_, by omega, hm3⟩
      show wrap64 ((m : Int) + W.2.2.2.2.1) = _
      rw [v4, PBits.w64 _ (by omega)]
      omega
    · rw [if_pos c4] at h
      exact absurd h c4
  · rw [if_pos c3] at h
    exact absurd h c3
end Go.Proofs.YtiahbcaoikoogabDoor.PKinds
end
section
namespace Go.Proofs.YtiahbcaoikoogabDoor.PDod
open Go Go.RowKit Go.Proofs.YtiahbcaoikoogabDoor Go.Proofs.YtiahbcaoikoogabDoor.All Go.Proofs.YtiahbcaoikoogabDoorW.PrintWords Go.Proofs.YtiahbcaoikoogabDoorW.PrintLast
set_option linter.unusedVariables false
set_option linter.unusedSimpArgs false
theorem lead_ones : ∀ (o f : Nat) (T : List Int), o ≤ f → lead f (List.replicate o 1 ++ T) = o + lead (f - o) T := by
  intro o
  induction o with
  | zero => intro f T h; rw [List.replicate_zero, List.nil_append, Nat.sub_zero, Nat.zero_add]
  | succ o ih =>
    intro f T h
    obtain ⟨f, rfl⟩ : ∃ g, f = g + 1 := ⟨f - 1, by omega⟩
    rw [List.replicate_succ, List.cons_append]
    simp only [lead, if_true]
    rw [ih f T (by omega), Nat.add_sub_add_right]
    omega
theorem lead_dodL (v : Int) (S : List Int) : lead 4 (dodL v ++ S) = ones v := by
  have ho := ones_le v
  unfold dodL
  generalize Bs.low (v % 18446744073709551616) (size (ones v)) = M
  generalize ones v = o at ho
  rw [List.append_assoc, List.append_assoc, lead_ones o 4 _ ho]
  by_cases c : o < 4
  · rw [if_pos c, List.cons_append]
    obtain ⟨f, hf⟩ : ∃ f, 4 - o = f + 1 := ⟨3 - o, by omega⟩
    rw [hf]
    simp only [lead, show ¬ ((0 : Int) = 1) from by decide, if_false]
    rfl
  · rw [show 4 - o = 0 from by omega]
    rfl
theorem sgn_low (v : Int) (hv : -9223372036854775808 ≤ v ∧ v < 9223372036854775808) : sgn (Bs.low (v % 18446744073709551616) (size (ones v))) = v := by
  unfold sgn
  rw [Bs.low_length, Bs.number_low]
  unfold ones
  split
  · subst v; decide
  split
  · show (if v % 18446744073709551616 % 128 < 64 then v % 18446744073709551616 % 128 else v % 18446744073709551616 % 128 - 128) = v
    split <;> omega
  split
  · show (if v % 18446744073709551616 % 512 < 256 then v % 18446744073709551616 % 512 else v % 18446744073709551616 % 512 - 512) = v
    split <;> omega
  split
  · show (if v % 18446744073709551616 % 4096 < 2048 then v % 18446744073709551616 % 4096 else v % 18446744073709551616 % 4096 - 4096) = v
    split <;> omega
  · show (if v % 18446744073709551616 % 18446744073709551616 < 9223372036854775808 then v % 18446744073709551616 % 18446744073709551616 else v % 18446744073709551616 % 18446744073709551616 - 18446744073709551616) = v
    split <;> omega
theorem dodL_body (v : Int) (S : List Int) : ((dodL v ++ S).drop (min (ones v + 1) 4)).take (size (ones v)) = Bs.low (v % 18446744073709551616) (size (ones v)) := by
  have ho := ones_le v
  unfold dodL
  have hl : (Bs.low (v % 18446744073709551616) (size (ones v))).length = size (ones v) := Bs.low_length _ _
  generalize Bs.low (v % 18446744073709551616) (size (ones v)) = M at hl
  generalize ones v = o at ho hl
  have hh : (List.replicate o (1 : Int) ++ (if o < 4 then [0] else [])).length = min (o + 1) 4 := by
    rw [List.length_append, List.length_replicate]
    split
    · rw [List.length_singleton]; omega
    · rw [List.length_nil]; omega
  generalize List.replicate o (1 : Int) ++ (if o < 4 then [0] else []) = H at hh
  rw [List.append_assoc, ← hh, List.drop_left, ← hl, List.take_left]
theorem gspec_dodL (v : Int) (hv : -9223372036854775808 ≤ v ∧ v < 9223372036854775808) (S : List Int) : gspec (dodL v ++ S) = (v, ((dodL v).length : Int), 0) := by
  unfold gspec
  rw [lead_dodL, dodL_body, sgn_low v hv, dodL_length, if_neg (by rw [List.length_append, dodL_length]; omega), if_pos rfl]
theorem gspec_back (R : List Int) (hR : Bs.Bits R) (h : (gspec R).2.2 = 0) : ∃ m : Nat, (gspec R).2.1 = (m : Int) ∧ m ≤ R.length ∧ dodL (gspec R).1 = R.take m := by
  have hdt := dodL_take R hR (lead 4 R) rfl
  unfold gspec at h ⊢
  by_cases c : R.length < min (lead 4 R + 1) 4 + size (lead 4 R)
  · rw [if_pos c] at h
    exact absurd h (by decide)
  rw [if_neg c] at h ⊢
  by_cases e : ones (sgn ((R.drop (min (lead 4 R + 1) 4)).take (size (lead 4 R)))) = lead 4 R
  · rw [if_pos e]
    exact ⟨_, rfl, Nat.le_of_not_lt c, hdt (Nat.le_of_not_lt c) e⟩
  · rw [if_neg e] at h
    exact absurd h (by decide)
theorem pow_mono (a b : Nat) (h : a ≤ b) : (2 : Int) ^ a ≤ 2 ^ b := PBits.pow_le h
theorem sgn_range (M : List Int) (hM : Bs.Bits M) (h64 : M.length ≤ 64) : -9223372036854775808 ≤ sgn M ∧ sgn M < 9223372036854775808 := by
  have hr := Bs.number_range hM
  have k63 : (2 : Int) ^ 63 = 9223372036854775808 := by decide
  have p1 : (2 : Int) ^ (M.length - 1) ≤ 2 ^ 63 := pow_mono _ _ (by omega)
  by_cases h0 : M.length = 0
  · have e : M = [] := List.eq_nil_of_length_eq_zero h0
    subst e
    decide
  have p2 : (2 : Int) ^ M.length = 2 * 2 ^ (M.length - 1) := by
    conv => lhs; rw [show M.length = (M.length - 1) + 1 from by omega, Int.pow_succ]
    omega
  unfold sgn
  rw [k63] at p1
  generalize Bs.number M = x at *
  generalize (2 : Int) ^ (M.length - 1) = q at *
  generalize (2 : Int) ^ M.length = r at *
  split <;> omega
theorem gspec_range (R : List Int) (hR : Bs.Bits R) : -9223372036854775808 ≤ (gspec R).1 ∧ (gspec R).1 < 9223372036854775808 := by
  unfold gspec
  split
  · decide
  · split
    · refine sgn_range _ ((hR.drop _).take _) ?_
      have h1 := size_le (lead 4 R)
      rw [List.length_take]
      omega
    · decide
end Go.Proofs.YtiahbcaoikoogabDoor.PDod
end
section
namespace Go.Proofs.YtiahbcaoikoogabDoor.PKinds
open Go Go.RowKit Go.Proofs.YtiahbcaoikoogabDoor Go.Proofs.YtiahbcaoikoogabDoor.All Go.Proofs.YtiahbcaoikoogabDoorW.PrintWords Go.Proofs.YtiahbcaoikoogabDoorW.PrintLast
set_option linter.unusedVariables false
set_option linter.unusedSimpArgs false
theorem wr_range (x : Int) : -9223372036854775808 ≤ wrap64 x ∧ wrap64 x < 9223372036854775808 := by unfold wrap64; omega
theorem dt_back (t d T : Int) (hT : -9223372036854775808 ≤ T ∧ T < 9223372036854775808) : wrap64 (wrap64 (t + d) + dt t d T) = T := by
  unfold dt wrap64
  omega
theorem dv_back (v e V : Int) (hV : 0 ≤ V ∧ V < 18446744073709551616) : IntKind.u64.wrap (IntKind.u64.wrap (v + e) + IntKind.u64.wrap (dv v e V)) = V := by
  unfold dv
  simp only [Ib.wrap_u64]
  unfold wrap64
  omega
theorem i64_back (T : Int) (hT : -9223372036854775808 ≤ T ∧ T < 9223372036854775808) : wrap64 (IntKind.u64.wrap T % 2 ^ 64) = T := by
  rw [PDod.pow64, Ib.wrap_u64]
  unfold wrap64
  omega
theorem u64_back (V : Int) (hV : 0 ≤ V ∧ V < 18446744073709551616) : V % 2 ^ 64 = V := by
  rw [PDod.pow64]
  omega
theorem dodL_pos (v : Int) : 1 ≤ (PDod.dodL v).length := by
  rw [PDod.dodL_length]
  omega
theorem two64 (A B S : List Int) (hA : A.length = 64) (hB : B.length = 64) : (A ++ B ++ S).take 64 = A ∧ ((A ++ B ++ S).drop 64).take 64 = B ∧ 128 ≤ (A ++ B ++ S).length := by
  refine ⟨?_, ?_, ?_⟩
  · rw [List.append_assoc, ← hA, List.take_left]
  · rw [List.append_assoc]
    conv => lhs; arg 2; rw [← hA]
    rw [List.drop_left, ← hB, List.take_left]
  · rw [List.length_append, List.length_append]; omega
theorem fin_yes (kind n t d v e xp : Int) (xl xn : Nat) (T m : Int) (W : Int × Int × Int × Int × Int × Int) (h : W.2.2.2.2.2 = 0) (hT : ¬ T ≤ t) :
    fin kind n t d v e xp xl xn T m W = (T, W.1, aft kind n t d v e xp xl xn T W.1 W.2.1 W.2.2.1 W.2.2.2.1, wrap64 (m + W.2.2.2.2.1), 0) := by
  unfold fin
  rw [if_neg (fun c => c h), if_neg hT]
theorem len_sum (A B : List Int) (h : A.length + B.length ≤ 1000) : wrap64 ((A.length : Int) + (B.length : Int)) = ((A ++ B).length : Int) := by
  rw [List.length_append, PBits.w64 _ (by omega)]
  omega
theorem kg_own (kind n t d v e xp : Int) (xl xn : Nat) (T V : Int) (hn : 0 ≤ n) (hT : -9223372036854775808 ≤ T ∧ T < 9223372036854775808) (hV : 0 ≤ V ∧ V < 18446744073709551616) (hp : 0 ≤ xp ∧ xp < 18446744073709551616) (hx : xl + xn ≤ 64)
    (h : (kp kind n t d v e xp xl xn T V).2.2 = 0) (S : List Int) :
    kg kind n t d v e xp xl xn ((kp kind n t d v e xp xl xn T V).1 ++ S) = (T, V, (kp kind n t d v e xp xl xn T V).2.1, ((kp kind n t d v e xp xl xn T V).1.length : Int), 0) ∧ 2 ≤ (kp kind n t d v e xp xl xn T V).1.length := by
  unfold kp at h ⊢
  unfold kg
  by_cases c1 : ¬ (kind = 1 ∨ kind = 2)
  · rw [if_pos c1] at h
    exact absurd h (by decide)
  rw [if_neg c1] at h ⊢
  rw [if_neg c1]
  by_cases c2 : n = 0
  · rw [if_pos c2, if_pos c2]
    obtain ⟨q1, q2, q3⟩ := two64 (Bs.low (IntKind.u64.wrap T) 64) (Bs.low V 64) S (Bs.low_length _ _) (Bs.low_length _ _)
    have hl : (Bs.low (IntKind.u64.wrap T) 64 ++ Bs.low V 64).length = 128 := by rw [List.length_append, Bs.low_length, Bs.low_length]
    show (if (Bs.low (IntKind.u64.wrap T) 64 ++ Bs.low V 64 ++ S).length < 128 then _ else _) = (T, V, _, ((Bs.low (IntKind.u64.wrap T) 64 ++ Bs.low V 64).length : Int), 0) ∧ 2 ≤ (Bs.low (IntKind.u64.wrap T) 64 ++ Bs.low V 64).length
    rw [if_neg (Nat.not_lt_of_le q3), q1, q2, Bs.number_low, Bs.number_low, i64_back T hT, u64_back V hV, hl]
    exact ⟨rfl, by decide⟩
  rw [if_neg c2] at h ⊢
  rw [if_neg c2]
  by_cases c3 : T ≤ t
  · rw [if_pos c3] at h
    exact absurd h (by decide)
  rw [if_neg c3] at h ⊢
  have g1 := PDod.gspec_dodL (dt t d T) (by unfold dt; exact wr_range _)
  have l1 := dodL_len (dt t d T)
  have p1 := dodL_pos (dt t d T)
  have b1 := dt_back t d T hT
  generalize hA : PDod.dodL (dt t d T) = A at *
  by_cases c4 : kind = 2
  · rw [if_pos c4] at h ⊢
    have g2 := PDod.gspec_dodL (dv v e V) (by unfold dv; exact wr_range _) S
    have l2 := dodL_len (dv v e V)
    have p2 := dodL_pos (dv v e V)
    have b2 := dv_back v e V hV
    generalize PDod.dodL (dv v e V) = B at *
    have g1 := g1 (B ++ S)
    rw [← List.append_assoc] at g1
    have hs := len_sum A B (by omega)
    show (if ¬ (PDod.gspec (A ++ B ++ S)).2.2 = 0 then _ else _) = _ ∧ 2 ≤ (A ++ B).length
    rw [g1]
    refine ⟨?_, by rw [List.length_append]; omega⟩
    rw [if_neg (fun c => c rfl)]
    show fin kind n t d v e xp xl xn (wrap64 (wrap64 (t + d) + dt t d T)) (A.length : Int) (kv kind v e xp xl xn ((A ++ B ++ S).drop (A.length : Int).toNat)) = _
    rw [Int.toNat_natCast, List.append_assoc, List.drop_left, b1]
    unfold kv
    rw [if_pos c4, g2, fin_yes _ _ _ _ _ _ _ _ _ _ _ _ rfl c3]
    show (T, IntKind.u64.wrap (IntKind.u64.wrap (v + e) + IntKind.u64.wrap (dv v e V)), aft kind n t d v e xp xl xn T (IntKind.u64.wrap (IntKind.u64.wrap (v + e) + IntKind.u64.wrap (dv v e V))) 0 0 0, wrap64 ((A.length : Int) + (B.length : Int)), 0) = _
    rw [b2, hs]
  · rw [if_neg c4] at h ⊢
    have hr := PXor.xor_range V xp hV hp
    have hc := PXor.cb_short xl xn (dx V xp) hx hr.1 hr.2
    have g2 := PXor.xg_own xp V hp hV xl xn hx (d := dx V xp) rfl S
    generalize PXor.cb xl xn (dx V xp) = B at *
    have g1 := g1 (B ++ S)
    rw [← List.append_assoc] at g1
    have hs := len_sum A B (by omega)
    show (if ¬ (PDod.gspec (A ++ B ++ S)).2.2 = 0 then _ else _) = _ ∧ 2 ≤ (A ++ B).length
    rw [g1]
    refine ⟨?_, by rw [List.length_append]; omega⟩
    rw [if_neg (fun c => c rfl)]
    show fin kind n t d v e xp xl xn (wrap64 (wrap64 (t + d) + dt t d T)) (A.length : Int) (kv kind v e xp xl xn ((A ++ B ++ S).drop (A.length : Int).toNat)) = _
    rw [Int.toNat_natCast, List.append_assoc, List.drop_left, b1]
    unfold kv
    rw [if_neg c4, g2, fin_yes _ _ _ _ _ _ _ _ _ _ _ _ rfl c3]
    show (T, V, aft kind n t d v e xp xl xn T V V (PXor.cl xl xn (dx V xp) : Int) (PXor.cn xl xn (dx V xp) : Int), wrap64 ((A.length : Int) + (B.length : Int)), 0) = _
    rw [hs]
theorem kp_bits (kind n t d v e xp : Int) (xl xn : Nat) (T V : Int) : Bs.Bits (kp kind n t d v e xp xl xn T V).1 := by
  unfold kp
  split
  · exact Bs.Bits.nil
  · split
    · exact (Bs.low_bits _ _).append (Bs.low_bits _ _)
    · split
      · exact Bs.Bits.nil
      · split
        · exact (PDod.dodL_bits _).append (PDod.dodL_bits _)
        · exact (PDod.dodL_bits _).append (PXor.cb_bits _ _ _)
theorem kp_len (kind n t d v e xp : Int) (xl xn : Nat) (T V : Int) (hV : 0 ≤ V ∧ V < 18446744073709551616) (hp : 0 ≤ xp ∧ xp < 18446744073709551616) (hx : xl + xn ≤ 64) : (kp kind n t d v e xp xl xn T V).1.length ≤ 1000 := by
  have h1 := dodL_len (dt t d T)
  have h2 := dodL_len (dv v e V)
  have hr := PXor.xor_range V xp hV hp
  have h3 := (PXor.cb_short xl xn (dx V xp) hx hr.1 hr.2).2
  unfold kp
  split
  · decide
  · split
    · rw [List.length_append, Bs.low_length, Bs.low_length]; decide
    · split
      · decide
      · split
        · rw [List.length_append]; omega
        · rw [List.length_append]; omega
theorem kp_step (kind n t d v e xp : Int) (xl xn : Nat) (T V : Int) (hk : kind = 1 ∨ kind = 2) (ht : n = 0 ∨ ¬ T ≤ t) :
    (kp kind n t d v e xp xl xn T V).2.2 = 0 ∧ (kp kind n t d v e xp xl xn T V).2.1.1 = wrap64 (n + 1) ∧ (kp kind n t d v e xp xl xn T V).2.1.2.1 = T := by
  unfold kp
  rw [if_neg (fun h => h hk)]
  by_cases c2 : n = 0
  · rw [if_pos c2]
    exact ⟨rfl, rfl, rfl⟩
  rw [if_neg c2, if_neg (ht.resolve_left c2)]
  by_cases c4 : kind = 2
  · rw [if_pos c4]
    exact ⟨rfl, rfl, rfl⟩
  · rw [if_neg c4]
    exact ⟨rfl, rfl, rfl⟩
end Go.Proofs.YtiahbcaoikoogabDoor.PKinds
end
section
namespace Go.Proofs.YtiahbcaoikoogabDoor.PKinds
open Go Go.RowKit Go.Proofs.YtiahbcaoikoogabDoor Go.Proofs.YtiahbcaoikoogabDoor.All Go.Proofs.YtiahbcaoikoogabDoorW.PrintWords Go.Proofs.YtiahbcaoikoogabDoorW.PrintLast
set_option linter.unusedVariables false
set_option linter.unusedSimpArgs false
theorem dt_again (t d g : Int) (hg : -9223372036854775808 ≤ g ∧ g < 9223372036854775808) : dt t d (wrap64 (wrap64 (t + d) + g)) = g := by
  unfold dt wrap64
  omega
theorem dv_again (v e g : Int) (hg : -9223372036854775808 ≤ g ∧ g < 9223372036854775808) : dv v e (IntKind.u64.wrap (IntKind.u64.wrap (v + e) + IntKind.u64.wrap g)) = g := by
  unfold dv
  simp only [Ib.wrap_u64]
  unfold wrap64
  omega
theorem low_first (M : List Int) (hM : Bs.Bits M) (hl : M.length = 64) : Bs.low (IntKind.u64.wrap (wrap64 (Bs.number M))) 64 = M := by
  have h1 : Bs.low (IntKind.u64.wrap (wrap64 (Bs.number M))) 64 = Bs.low (Bs.number M) 64 := by
    refine Bs.low_congr ?_
    rw [PDod.pow64, Ib.wrap_u64]
    unfold wrap64
    omega
  have h2 := Bs.low_number hM
  rw [hl] at h2
  rw [h1, h2]
theorem kg_no (kind n t d v e xp : Int) (xl xn : Nat) (R : List Int) (h : (kg kind n t d v e xp xl xn R).2.2.2.2 = 0) : kind = 1 ∨ kind = 2 := by
  by_cases c1 : kind = 1 ∨ kind = 2
  · exact c1
  · unfold kg at h
    rw [if_pos c1] at h
    exact absurd h (by decide)
theorem sum_le (m1 m2 L D : Nat) (hd : D = L - m1) (h1 : m1 ≤ L) (h2 : m2 ≤ D) : m1 + m2 ≤ L := by omega
theorem sum_wrap (m1 m2 : Nat) (h : m1 + m2 < 70368744177664) : wrap64 ((m1 : Int) + (m2 : Int)) = ((m1 + m2 : Nat) : Int) := by rw [PBits.w64 _ (by omega)]; omega
theorem fin_zero (kind n t d v e xp : Int) (xl xn : Nat) (T m : Int) (W : Int × Int × Int × Int × Int × Int) (h : (fin kind n t d v e xp xl xn T m W).2.2.2.2 = 0) : W.2.2.2.2.2 = 0 ∧ ¬ T ≤ t := by
  unfold fin at h
  by_cases c1 : W.2.2.2.2.2 = 0
  · rw [if_neg (fun c => c c1)] at h
    by_cases c2 : T ≤ t
    · rw [if_pos c2] at h
      exact absurd h (by show ¬ ((4 : Int) = 0); decide)
    · exact ⟨c1, c2⟩
  · rw [if_pos c1] at h
    exact absurd h c1
theorem kg_canon (kind n t d v e xp : Int) (xl xn : Nat) (hn : 0 ≤ n) (hp : 0 ≤ xp ∧ xp < 18446744073709551616) (hx : xl + xn ≤ 64) (R : List Int) (hR : Bs.Bits R) (hl : R.length < 70368744177664) (h : (kg kind n t d v e xp xl xn R).2.2.2.2 = 0) :
    ∃ (T V : Int) (s : S8) (m : Nat), kg kind n t d v e xp xl xn R = (T, V, s, (m : Int), 0) ∧ m ≤ R.length ∧ kp kind n t d v e xp xl xn T V = (R.take m, s, 0) ∧
      (-9223372036854775808 ≤ T ∧ T < 9223372036854775808) ∧ (0 ≤ V ∧ V < 18446744073709551616) := by
  have hk := kg_no kind n t d v e xp xl xn R h
  have hkn : ¬ ¬ (kind = 1 ∨ kind = 2) := fun c => c hk
  unfold kg at h ⊢
  rw [if_neg hkn] at h ⊢
  by_cases c2 : n = 0
  · rw [if_pos c2] at h ⊢
    by_cases c3 : R.length < 128
    · rw [if_pos c3] at h
      exact absurd h (by decide)
    rw [if_neg c3]
    have l1 : (R.take 64).length = 64 := by rw [List.length_take]; omega
    have l2 : ((R.drop 64).take 64).length = 64 := by rw [List.length_take, List.length_drop]; omega
    have b1 := low_first (R.take 64) (hR.take 64) l1
    have b2 := Bs.low_number ((hR.drop 64).take 64)
    rw [l2] at b2
    have hr2 := PXor.num_range hR 64 64 (by omega)
    have k64 : (2 : Int) ^ 64 = 18446744073709551616 := by decide
    rw [k64] at hr2
    refine ⟨_, _, _, 128, rfl, by omega, ?_, wr_range _, hr2⟩
    unfold kp
    rw [if_neg hkn, if_pos c2, b1, b2]
    have e : R.take 64 ++ (R.drop 64).take 64 = R.take 128 := (List.take_add (i := 64) (j := 64)).symm
    rw [e]
  rw [if_neg c2] at h ⊢
  by_cases c3 : (PDod.gspec R).2.2 = 0
  · rw [if_neg (fun c => c c3)] at h ⊢
    obtain ⟨m1, hm1, hm2, hm3⟩ := PDod.gspec_back R hR c3
    have g1r := PDod.gspec_range R hR
    have hd1 := dt_again t d (PDod.gspec R).1 g1r
    have hd := List.length_drop (l := R) (i := m1)
    obtain ⟨f1, f2⟩ := fin_zero kind n t d v e xp xl xn _ _ _ h
    rw [fin_yes _ _ _ _ _ _ _ _ _ _ _ _ f1 f2]
    rw [hm1, Int.toNat_natCast] at f1 ⊢
    have hTr := wr_range (wrap64 (t + d) + (PDod.gspec R).1)
    generalize (PDod.gspec R).1 = g1 at *
    generalize wrap64 (wrap64 (t + d) + g1) = T at *
    unfold kv at f1 ⊢
    by_cases c4 : kind = 2
    · rw [if_pos c4] at f1 ⊢
      have f1 : (PDod.gspec (R.drop m1)).2.2 = 0 := f1
      obtain ⟨m2, hn1, hn2, hn3⟩ := PDod.gspec_back (R.drop m1) (hR.drop m1) f1
      have g2r := PDod.gspec_range (R.drop m1) (hR.drop m1)
      have hd2 := dv_again v e (PDod.gspec (R.drop m1)).1 g2r
      have hVr := u64_range (IntKind.u64.wrap (v + e) + IntKind.u64.wrap (PDod.gspec (R.drop m1)).1)
      have hle := sum_le m1 m2 _ _ hd hm2 hn2
      have hsum := sum_wrap m1 m2 (Nat.lt_of_le_of_lt hle hl)
      refine ⟨T, IntKind.u64.wrap (IntKind.u64.wrap (v + e) + IntKind.u64.wrap (PDod.gspec (R.drop m1)).1), aft kind n t d v e xp xl xn T (IntKind.u64.wrap (IntKind.u64.wrap (v + e) + IntKind.u64.wrap (PDod.gspec (R.drop m1)).1)) 0 0 0, m1 + m2, ?_, hle, ?_, hTr, hVr⟩
      · show (T, _, aft kind n t d v e xp xl xn T _ 0 0 0, wrap64 ((m1 : Int) + (PDod.gspec (R.drop m1)).2.1), (0 : Int)) = _
        rw [hn1, hsum]
      · unfold kp
        rw [if_neg hkn, if_neg c2, if_neg f2, if_pos c4, hd1, hd2, hm3, hn3, ← List.take_add]
    · rw [if_neg c4] at f1 ⊢
      obtain ⟨x, m2, x0, x1, y1, y2, y3, hG⟩ := PXor.xg_ok xp xl xn hx hp (R.drop m1) (hR.drop m1) f1
      rw [hG]
      have hVr := PXor.xor_range xp x hp ⟨x0, x1⟩
      have hback : dx (Go.bits .xor .u64 xp x) xp = x := PXor.xor_back xp x hp ⟨x0, x1⟩
      have hle := sum_le m1 m2 _ _ hd hm2 y2
      have hsum := sum_wrap m1 m2 (Nat.lt_of_le_of_lt hle hl)
      refine ⟨T, Go.bits .xor .u64 xp x, aft kind n t d v e xp xl xn T (Go.bits .xor .u64 xp x) (Go.bits .xor .u64 xp x) (PXor.cl xl xn x) (PXor.cn xl xn x), m1 + m2, ?_, hle, ?_, hTr, hVr⟩
      · show (T, _, aft kind n t d v e xp xl xn T _ _ _ _, wrap64 ((m1 : Int) + (m2 : Int)), (0 : Int)) = _
        rw [hsum]
      · unfold kp
        rw [if_neg hkn, if_neg c2, if_neg f2, if_neg c4, hback, hd1, hm3, y3, ← List.take_add]
  · rw [if_pos c3] at h
    exact absurd h c3
end Go.Proofs.YtiahbcaoikoogabDoor.PKinds
end
section
namespace Go.Proofs.YtiahbcaoikoogabDoor.PRising
open Go Go.RowKit Go.Proofs.YtiahbcaoikoogabDoor Go.Proofs.YtiahbcaoikoogabDoor.All Go.Proofs.YtiahbcaoikoogabDoorW.PrintWords Go.Proofs.YtiahbcaoikoogabDoorW.PrintLast
set_option linter.unusedVariables false
set_option linter.unusedSimpArgs false
def Rg (x : S48) : Prop := (-9223372036854775808 ≤ x.f0 ∧ x.f0 < 9223372036854775808) ∧ (0 ≤ x.f1 ∧ x.f1 < 18446744073709551616)
theorem rdT (M : List S48) (i : Nat) (h : i < M.length) : rd_T48 M (i : Int) = M[i] := by
  unfold rd_T48
  rw [Int.toNat_natCast, List.getD_eq_getElem?_getD, List.getElem?_eq_getElem h]
  rfl
structure Asc (M : List S48) : Prop where
  rng : ∀ x ∈ M, Rg x
  inc : ∀ (i j : Nat) (hi : i < M.length) (hj : j < M.length), j = i + 1 → M[i].f0 < M[j].f0
theorem Asc.nil : Asc [] := ⟨fun x h => by simp at h, fun i j hi _ _ => absurd hi (Nat.not_lt_zero i)⟩
theorem Asc.snoc {M : List S48} (h : Asc M) {x : S48} (hx : Rg x) (hl : ∀ (i : Nat) (hi : i < M.length), i + 1 = M.length → M[i].f0 < x.f0) : Asc (M ++ [x]) := by
  refine ⟨fun y hy => ?_, fun i j hi hj e => ?_⟩
  · rcases List.mem_append.mp hy with hy | hy
    · exact h.rng y hy
    · rw [List.mem_singleton.mp hy]; exact hx
  · have hi' : i < M.length + 1 := by rw [List.length_append] at hi; exact hi
    have hj' : j < M.length + 1 := by rw [List.length_append] at hj; exact hj
    have him : i < M.length := by omega
    rw [List.getElem_append_left him]
    by_cases c : j < M.length
    · rw [List.getElem_append_left c]
      exact h.inc i j him c e
    · have ej : j = M.length := by omega
      subst ej
      rw [List.getElem_append_right (Nat.le_refl _)]
      have h0 := hl i him (by omega)
      simpa using h0
theorem Rising_l0 (xs : List S48) (hx : ∀ x ∈ xs, Rg x) (hn : xs.length ≤ 65535) : ∀ (r i : Nat) (M : List S48), i + r = xs.length → M.length ≤ i → Asc M →
    ∃ M', Ev (fun k => gaiterlaw00_Rising.l0 k xs M (i : Int)) M' ∧ M'.length ≤ xs.length ∧ Asc M' := by
  intro r
  induction r with
  | zero =>
    intro i M hi hM hA
    have hnl : ¬ (i : Int) < (xs.length : Int) := by omega
    exact ⟨M, Ev.step (fun k => by rw [gaiterlaw00_Rising.l0, if_neg hnl]) (Ev.now _), by omega, hA⟩
  | succ r ih =>
    intro i M hi hM hA
    have hil : i < xs.length := by omega
    have hlt : (i : Int) < (xs.length : Int) := by omega
    have hrd := rdT xs i hil
    have hr := hx xs[i] (List.getElem_mem hil)
    generalize xs[i] = x at hrd hr
    have wi : wrap64 ((i : Int) + 1) = ((i + 1 : Nat) : Int) := by rw [PBits.w64 _ (by omega)]; omega
    have h8 : M.length < 8796093022208 := by omega
    have hy : (⟨x.f0, x.f1⟩ : S48) = x := rfl
    have hsl : (M ++ [x]).length ≤ i + 1 := by rw [List.length_append, List.length_singleton]; omega
    by_cases c0 : M.length = 0
    · have c0' : (M.length : Int) = 0 := by omega
      obtain ⟨M', e1, e2, e3⟩ := ih (i + 1) (M ++ [x]) (by omega) hsl (hA.snoc hr (fun j hj _ => absurd hj (by omega)))
      exact ⟨M', Ev.step (fun k => by rw [gaiterlaw00_Rising.l0, if_pos hlt, if_pos c0', if_pos (Int.natCast_nonneg i), if_pos h8, hrd, wi]) e1, e2, e3⟩
    · have c0' : ¬ (M.length : Int) = 0 := by omega
      have wl : wrap64 ((M.length : Int) - 1) = ((M.length - 1 : Nat) : Int) := by rw [PBits.w64 _ (by omega)]; omega
      have hl1 : M.length - 1 < M.length := by omega
      have hrl := rdT M (M.length - 1) hl1
      have hb : ((M.length - 1 : Nat) : Int) < (M.length : Int) := by omega
      by_cases c1 : x.f0 > M[M.length - 1].f0
      · obtain ⟨M', e1, e2, e3⟩ := ih (i + 1) (M ++ [x]) (by omega) hsl (hA.snoc hr (fun j hj he => by
          obtain rfl : j = M.length - 1 := by omega
          exact c1))
        exact ⟨M', Ev.step (fun k => by rw [gaiterlaw00_Rising.l0, if_pos hlt, if_neg c0', if_pos (Int.natCast_nonneg i), wl, if_pos (Int.natCast_nonneg _), if_pos hb, hrd, hrl, if_pos c1, if_pos h8, wi]) e1, e2, e3⟩
      · obtain ⟨M', e1, e2, e3⟩ := ih (i + 1) M (by omega) (by omega) hA
        exact ⟨M', Ev.step (fun k => by rw [gaiterlaw00_Rising.l0, if_pos hlt, if_neg c0', if_pos (Int.natCast_nonneg i), wl, if_pos (Int.natCast_nonneg _), if_pos hb, hrd, hrl, if_neg c1, wi]) e1, e2, e3⟩
theorem Rising_is (xs : List S48) (hx : ∀ x ∈ xs, Rg x) (hn : xs.length ≤ 65535) : ∃ M, Ev (fun k => gaiterlaw00_Rising.f k xs) M ∧ M.length ≤ xs.length ∧ Asc M :=
  Rising_l0 xs hx hn xs.length 0 [] (by omega) (Nat.le_refl _) Asc.nil
end Go.Proofs.YtiahbcaoikoogabDoor.PRising
end
