-- declarations that this claim needs, copied by a program of the session
import Derived.Test.YtiahbcaoikoogaaDoorKbPKindsGetP
import Derived.Test.YtiahbcaoikoogaaDoorKbAllx40
section
namespace Go.Proofs.YtiahbcaoikoogaaDoor.PXor
open Go Go.RowKit Go.Proofs.YtiahbcaoikoogaaDoor Go.Proofs.YtiahbcaoikoogaaDoor.All Go.Proofs.YtiahbcaoikoogaaDoorW.PrintWords Go.Proofs.YtiahbcaoikoogaaDoorW.PrintLast
set_option linter.unusedVariables false
set_option linter.unusedSimpArgs false
set_option linter.unusedSectionVars false
theorem window_back (d : Int) (h0 : 0 < d) (h1 : d < 18446744073709551616) (l n : Nat) (h : l + n ≤ 64) (hl : l ≤ LL d) (hn : LL d + SS d ≤ l + n) : (d / 2 ^ (64 - l - n) % 2 ^ n) * 2 ^ (64 - l - n) = d := by
  have hw := win d h0 h1
  have g1 := hw.lt
  have g2 := hw.pos
  have g3 := hw.le
  have hhi := hw.hi
  have hmul := hw.mul
  have p1 : (2 : Int) ^ (64 - LL d) ≤ 2 ^ (64 - l) := PBits.pow_le (by omega)
  have p2 : (2 : Int) ^ (64 - l) = 2 ^ n * 2 ^ (64 - l - n) := by rw [← pow_mul]; congr 1; omega
  have p3 : (2 : Int) ^ (64 - LL d - SS d) = 2 ^ (64 - LL d - SS d - (64 - l - n)) * 2 ^ (64 - l - n) := by rw [← pow_mul]; congr 1; omega
  have hp := Bs.pow_pos (64 - l - n)
  have hlt : d / 2 ^ (64 - l - n) < 2 ^ n := Int.ediv_lt_of_lt_mul hp (by omega)
  have hge : 0 ≤ d / 2 ^ (64 - l - n) := Int.ediv_nonneg (Int.le_of_lt h0) (Int.le_of_lt hp)
  rw [Int.emod_eq_of_lt hge hlt]
  refine Int.ediv_mul_cancel ?_
  refine ⟨d / 2 ^ (64 - LL d - SS d) * 2 ^ (64 - LL d - SS d - (64 - l - n)), ?_⟩
  generalize d / 2 ^ (64 - LL d - SS d) = q at hmul
  rw [p3, ← Int.mul_assoc] at hmul
  rw [Int.mul_comm (2 ^ (64 - l - n))]
  exact hmul
theorem xv_low (d : Int) (h0 : 0 < d) (h1 : d < 18446744073709551616) (l n : Nat) (h : l + n ≤ 64) (hl : l ≤ LL d) (hn : LL d + SS d ≤ l + n) (H S : List Int) : xv (H ++ (Bs.low (d / 2 ^ (64 - l - n)) n ++ S)) H.length l n = d := by
  unfold xv
  rw [List.drop_left, List.take_append_of_le_length (by rw [Bs.low_length]; exact Nat.le_refl _), List.take_of_length_le (by rw [Bs.low_length]; exact Nat.le_refl _), Bs.number_low]
  exact window_back d h0 h1 l n h hl hn
theorem xg_own (p v : Int) (hp : 0 ≤ p ∧ p < 18446744073709551616) (hv : 0 ≤ v ∧ v < 18446744073709551616) (l n : Nat) (hln : l + n ≤ 64) {d : Int} (hd : Go.bits .xor .u64 v p = d) (S : List Int) :
    xg p l n (cb l n d ++ S) = (v, v, (cl l n d : Int), (cn l n d : Int), ((cb l n d).length : Int), 0) := by
  have hr := xor_range v p hv hp
  have hback : Go.bits .xor .u64 p d = v := by
    rw [← hd, xor_comm p _ hp hr]
    rw [xor_comm v p hv hp]
    exact xor_back p v hp hv
  rw [hd] at hr
  unfold xg
  by_cases h0 : d = 0
  · subst h0
    have e : cb l n 0 = [0] := by unfold cb; rw [if_pos rfl]
    rw [e]
    have ev : p = v := by rw [← hback, Ib.xor_u64_zero p hp]
    rw [if_neg (by simp), if_pos (show rd ([0] ++ S) 0 = 0 from rfl), ev]
    unfold cl cn
    rw [if_pos rfl, if_pos rfl]
    rfl
  have hw := win d (by omega) hr.2
  have hs := SS_le d (by omega) hr.2
  have g1 := hw.lt
  have g2 := hw.pos
  have g3 := hw.le
  by_cases hc : 0 < n ∧ l ≤ LL d ∧ LL d + SS d ≤ l + n
  · have e : cb l n d = [1, 0] ++ Bs.low (d / 2 ^ (64 - l - n)) n := by unfold cb; rw [if_neg h0, if_pos hc]
    have ecl : cl l n d = l := by unfold cl; rw [if_neg h0, if_pos hc]
    have ecn : cn l n d = n := by unfold cn; rw [if_neg h0, if_pos hc]
    have hx : xv (cb l n d ++ S) 2 l n = d := by
      rw [e, List.append_assoc]
      exact xv_low d (by omega) hr.2 l n hln hc.2.1 hc.2.2 [1, 0] S
    have hlen : (cb l n d).length = 2 + n := by rw [e, List.length_append, Bs.low_length]; rfl
    have r0 : rd (cb l n d ++ S) 0 = 1 := by rw [e]; rfl
    have r1 : rd (cb l n d ++ S) 1 = 0 := by rw [e]; rfl
    have l1 : (cb l n d ++ S).length = 2 + n + S.length := by rw [List.length_append, hlen]
    rw [if_neg (by omega), r0, if_neg (by decide), if_neg (by omega), r1, if_neg (by decide)]
    unfold bd
    rw [if_neg (by omega), if_neg (by omega), hx, if_pos (by rw [← hlen, List.take_left]), hback, hlen]
  · have e : cb l n d = [1, 1] ++ Bs.low (LL d : Int) 6 ++ Bs.low ((SS d : Int) - 1) 6 ++ Bs.low (d / 2 ^ (64 - LL d - SS d)) (SS d) := by unfold cb; rw [if_neg h0, if_neg hc]
    have ecl : cl l n d = LL d := by unfold cl; rw [if_neg h0, if_neg hc]
    have ecn : cn l n d = SS d := by unfold cn; rw [if_neg h0, if_neg hc]
    have hlen : (cb l n d).length = 14 + SS d := by
      rw [e, List.length_append, List.length_append, List.length_append, Bs.low_length, Bs.low_length, Bs.low_length]; rfl
    have r0 : rd (cb l n d ++ S) 0 = 1 := by rw [e]; rfl
    have r1 : rd (cb l n d ++ S) 1 = 1 := by rw [e]; rfl
    have l1 : (cb l n d ++ S).length = 14 + SS d + S.length := by rw [List.length_append, hlen]
    have d2 : ((cb l n d ++ S).drop 2).take 6 = Bs.low (LL d : Int) 6 := by
      rw [e]
      simp only [List.append_assoc]
      show (Bs.low (LL d : Int) 6 ++ (Bs.low ((SS d : Int) - 1) 6 ++ (Bs.low (d / 2 ^ (64 - LL d - SS d)) (SS d) ++ S))).take 6 = _
      rw [List.take_append_of_le_length (by rw [Bs.low_length]; exact Nat.le_refl _), List.take_of_length_le (by rw [Bs.low_length]; exact Nat.le_refl _)]
    have e14 : ([1, 1] ++ Bs.low (LL d : Int) 6).length = 8 := by rw [List.length_append, Bs.low_length]; rfl
    have e14' : ([1, 1] ++ Bs.low (LL d : Int) 6 ++ Bs.low ((SS d : Int) - 1) 6).length = 14 := by rw [List.length_append, Bs.low_length, e14]
    have d8 : ((cb l n d ++ S).drop 8).take 6 = Bs.low ((SS d : Int) - 1) 6 := by
      rw [e, List.append_assoc, List.append_assoc, ← e14, List.drop_left, List.take_append_of_le_length (by rw [Bs.low_length]; exact Nat.le_refl _), List.take_of_length_le (by rw [Bs.low_length]; exact Nat.le_refl _)]
    have k6 : (2 : Int) ^ 6 = 64 := by decide
    have eld : ld (cb l n d ++ S) = LL d := by
      unfold ld
      rw [d2, Bs.number_low, k6]
      omega
    have esd : sd (cb l n d ++ S) = SS d := by
      unfold sd
      rw [d8, Bs.number_low, k6]
      omega
    have hx : xv (cb l n d ++ S) 14 (LL d) (SS d) = d := by
      rw [e, List.append_assoc, ← e14']
      exact xv_low d (by omega) hr.2 (LL d) (SS d) g3 (Nat.le_refl _) (Nat.le_refl _) _ S
    rw [if_neg (by omega), r0, if_neg (by decide), if_neg (by omega), r1, if_pos rfl, if_neg (by omega), eld, esd]
    unfold bd
    rw [if_neg (by omega), if_neg (by omega), hx, if_pos (by rw [← hlen, List.take_left]), hback, hlen]
end Go.Proofs.YtiahbcaoikoogaaDoor.PXor
end
section
namespace Go.Proofs.YtiahbcaoikoogaaDoor.PKinds
open Go Go.RowKit Go.Proofs.YtiahbcaoikoogaaDoor Go.Proofs.YtiahbcaoikoogaaDoor.All Go.Proofs.YtiahbcaoikoogaaDoorW.PrintWords Go.Proofs.YtiahbcaoikoogaaDoorW.PrintLast
set_option linter.unusedVariables false
set_option linter.unusedSimpArgs false
structure Ok (B : Int) (s : S8) : Prop where
  n0 : 0 ≤ s.1
  n1 : s.1 ≤ B
  p0 : 0 ≤ s.2.2.2.2.2.1 ∧ s.2.2.2.2.2.1 < 18446744073709551616
  w : ∃ xl xn : Nat, s.2.2.2.2.2.2.1 = (xl : Int) ∧ s.2.2.2.2.2.2.2 = (xn : Int) ∧ xl + xn ≤ 64
theorem ok_aft (B : Int) (hB : B < 1000000) (kind n t d v e xp xl xn T V ap al an : Int) (hn : 0 ≤ n ∧ n ≤ B) (hV : 0 ≤ V ∧ V < 18446744073709551616) (hap : 0 ≤ ap ∧ ap < 18446744073709551616) (hw : ∃ x y : Nat, al = (x : Int) ∧ an = (y : Int) ∧ x + y ≤ 64) : Ok (B + 1) (aft kind n t d v e xp xl xn T V ap al an) := by
  have hw1 : wrap64 (n + 1) = n + 1 := PBits.w64 _ (by omega)
  have z : ∃ x y : Nat, (0 : Int) = (x : Int) ∧ (0 : Int) = (y : Int) ∧ x + y ≤ 64 := ⟨0, 0, rfl, rfl, by decide⟩
  unfold aft
  rw [hw1]
  refine ⟨by show 0 ≤ n + 1; omega, by show n + 1 ≤ B + 1; omega, ?_, ?_⟩
  · show 0 ≤ (if kind = 1 then (if n = 0 then V else ap) else 0) ∧ (if kind = 1 then (if n = 0 then V else ap) else 0) < 18446744073709551616
    by_cases c : kind = 1
    · rw [if_pos c]
      by_cases c' : n = 0
      · rw [if_pos c']; exact hV
      · rw [if_neg c']; exact hap
    · rw [if_neg c]; decide
  · show ∃ x y : Nat, (if kind = 1 then (if n = 0 then 0 else al) else 0) = (x : Int) ∧ (if kind = 1 then (if n = 0 then 0 else an) else 0) = (y : Int) ∧ x + y ≤ 64
    by_cases c : kind = 1
    · rw [if_pos c, if_pos c]
      by_cases c' : n = 0
      · rw [if_pos c', if_pos c']; exact z
      · rw [if_neg c', if_neg c']; exact hw
    · rw [if_neg c, if_neg c]; exact z
theorem kp_ok (B : Int) (hB : B < 1000000) (kind n t d v e xp : Int) (xl xn : Nat) (T V : Int) (hn : 0 ≤ n ∧ n ≤ B) (hV : 0 ≤ V ∧ V < 18446744073709551616) (hp : 0 ≤ xp ∧ xp < 18446744073709551616) (hx : xl + xn ≤ 64) (h : (kp kind n t d v e xp xl xn T V).2.2 = 0) :
    Ok (B + 1) (kp kind n t d v e xp xl xn T V).2.1 := by
  have z : ∃ x y : Nat, (0 : Int) = (x : Int) ∧ (0 : Int) = (y : Int) ∧ x + y ≤ 64 := ⟨0, 0, rfl, rfl, by decide⟩
  unfold kp at h ⊢
  by_cases c1 : ¬ (kind = 1 ∨ kind = 2)
  · rw [if_pos c1] at h
    exact absurd h (by decide)
  rw [if_neg c1] at h ⊢
  by_cases c2 : n = 0
  · rw [if_pos c2]
    exact ok_aft B hB kind n t d v e xp xl xn T V 0 0 0 hn hV (by decide) z
  rw [if_neg c2] at h ⊢
  by_cases c3 : T ≤ t
  · rw [if_pos c3] at h
    exact absurd h (by decide)
  rw [if_neg c3] at h ⊢
  by_cases c4 : kind = 2
  · rw [if_pos c4]
    exact ok_aft B hB kind n t d v e xp xl xn T V 0 0 0 hn hV (by decide) z
  · rw [if_neg c4]
    have hr := PXor.xor_range V xp hV hp
    exact ok_aft B hB kind n t d v e xp xl xn T V V _ _ hn hV hV ⟨_, _, rfl, rfl, PXor.cb_ok xl xn _ hx hr.1 hr.2⟩
end Go.Proofs.YtiahbcaoikoogaaDoor.PKinds
end
section
namespace Go.Proofs.YtiahbcaoikoogaaDoor.PDod
open Go Go.RowKit Go.Proofs.YtiahbcaoikoogaaDoor Go.Proofs.YtiahbcaoikoogaaDoor.All Go.Proofs.YtiahbcaoikoogaaDoorW.PrintWords Go.Proofs.YtiahbcaoikoogaaDoorW.PrintLast
set_option linter.unusedVariables false
set_option linter.unusedSimpArgs false
theorem lead_ones : ∀ (o f : Nat) (T : List Int), o ≤ f → lead f (List.replicate o 1 ++ T) = o + lead (f - o) T := by
  intro o
  induction o with
  | zero => intro f T h; rw [List.replicate_zero, List.nil_append, Nat.sub_zero, Nat.zero_add]
  | succ o ih =>
    intro f T h
    obtain ⟨f, rfl⟩ : ∃ g, f = g + 1 := ⟨f - 1, by omega⟩
    rw [List.replicate_succ, List.cons_append]
    simp only [lead, if_true]
    rw [ih f T (by omega), Nat.add_sub_add_right]
    omega
theorem lead_dodL (v : Int) (S : List Int) : lead 4 (dodL v ++ S) = ones v := by
  have ho := ones_le v
  unfold dodL
  generalize Bs.low (v % 18446744073709551616) (size (ones v)) = M
  generalize ones v = o at ho
  rw [List.append_assoc, List.append_assoc, lead_ones o 4 _ ho]
  by_cases c : o < 4
  · rw [if_pos c, List.cons_append]
    obtain ⟨f, hf⟩ : ∃ f, 4 - o = f + 1 := ⟨3 - o, by omega⟩
    rw [hf]
    simp only [lead, show ¬ ((0 : Int) = 1) from by decide, if_false]
    rfl
  · rw [show 4 - o = 0 from by omega]
    rfl
theorem sgn_low (v : Int) (hv : -9223372036854775808 ≤ v ∧ v < 9223372036854775808) : sgn (Bs.low (v % 18446744073709551616) (size (ones v))) = v := by
  unfold sgn
  rw [Bs.low_length, Bs.number_low]
  unfold ones
  split
  · subst v; decide
  split
  · show (if v % 18446744073709551616 % 128 < 64 then v % 18446744073709551616 % 128 else v % 18446744073709551616 % 128 - 128) = v
    split <;> omega
  split
  · show (if v % 18446744073709551616 % 512 < 256 then v % 18446744073709551616 % 512 else v % 18446744073709551616 % 512 - 512) = v
    split <;> omega
  split
  · show (if v % 18446744073709551616 % 4096 < 2048 then v % 18446744073709551616 % 4096 else v % 18446744073709551616 % 4096 - 4096) = v
    split <;> omega
  · show (if v % 18446744073709551616 % 18446744073709551616 < 9223372036854775808 then v % 18446744073709551616 % 18446744073709551616 else v % 18446744073709551616 % 18446744073709551616 - 18446744073709551616) = v
    split <;> omega
theorem dodL_body (v : Int) (S : List Int) : ((dodL v ++ S).drop (min (ones v + 1) 4)).take (size (ones v)) = Bs.low (v % 18446744073709551616) (size (ones v)) := by
  have ho := ones_le v
  unfold dodL
  have hl : (Bs.low (v % 18446744073709551616) (size (ones v))).length = size (ones v) := Bs.low_length _ _
  generalize Bs.low (v % 18446744073709551616) (size (ones v)) = M at hl
  generalize ones v = o at ho hl
  have hh : (List.replicate o (1 : Int) ++ (if o < 4 then [0] else [])).length = min (o + 1) 4 := by
    rw [List.length_append, List.length_replicate]
    split
    · rw [List.length_singleton]; omega
    · rw [List.length_nil]; omega
  generalize List.replicate o (1 : Int) ++ (if o < 4 then [0] else []) = H at hh
  rw [List.append_assoc, ← hh, List.drop_left, ← hl, List.take_left]
theorem gspec_dodL (v : Int) (hv : -9223372036854775808 ≤ v ∧ v < 9223372036854775808) (S : List Int) : gspec (dodL v ++ S) = (v, ((dodL v).length : Int), 0) := by
  unfold gspec
  rw [lead_dodL, dodL_body, sgn_low v hv, dodL_length, if_neg (by rw [List.length_append, dodL_length]; omega), if_pos rfl]
end Go.Proofs.YtiahbcaoikoogaaDoor.PDod
end
section
namespace Go.Proofs.YtiahbcaoikoogaaDoor.PKinds
open Go Go.RowKit Go.Proofs.YtiahbcaoikoogaaDoor Go.Proofs.YtiahbcaoikoogaaDoor.All Go.Proofs.YtiahbcaoikoogaaDoorW.PrintWords Go.Proofs.YtiahbcaoikoogaaDoorW.PrintLast
set_option linter.unusedVariables false
set_option linter.unusedSimpArgs false
theorem wr_range (x : Int) : -9223372036854775808 ≤ wrap64 x ∧ wrap64 x < 9223372036854775808 := by unfold wrap64; omega
theorem dt_back (t d T : Int) (hT : -9223372036854775808 ≤ T ∧ T < 9223372036854775808) : wrap64 (wrap64 (t + d) + dt t d T) = T := by
  unfold dt wrap64
  omega
theorem dv_back (v e V : Int) (hV : 0 ≤ V ∧ V < 18446744073709551616) : IntKind.u64.wrap (IntKind.u64.wrap (v + e) + IntKind.u64.wrap (dv v e V)) = V := by
  unfold dv
  simp only [Ib.wrap_u64]
  unfold wrap64
  omega
theorem i64_back (T : Int) (hT : -9223372036854775808 ≤ T ∧ T < 9223372036854775808) : wrap64 (IntKind.u64.wrap T % 2 ^ 64) = T := by
  rw [PDod.pow64, Ib.wrap_u64]
  unfold wrap64
  omega
theorem u64_back (V : Int) (hV : 0 ≤ V ∧ V < 18446744073709551616) : V % 2 ^ 64 = V := by
  rw [PDod.pow64]
  omega
theorem dodL_pos (v : Int) : 1 ≤ (PDod.dodL v).length := by
  rw [PDod.dodL_length]
  omega
theorem two64 (A B S : List Int) (hA : A.length = 64) (hB : B.length = 64) : (A ++ B ++ S).take 64 = A ∧ ((A ++ B ++ S).drop 64).take 64 = B ∧ 128 ≤ (A ++ B ++ S).length := by
  refine ⟨?_, ?_, ?_⟩
  · rw [List.append_assoc, ← hA, List.take_left]
  · rw [List.append_assoc]
    conv => lhs; arg 2; rw [← hA]
    rw [List.drop_left, ← hB, List.take_left]
  · rw [List.length_append, List.length_append]; omega
theorem fin_yes (kind n t d v e xp : Int) (xl xn : Nat) (T m : Int) (W : Int × Int × Int × Int × Int × Int) (h : W.2.2.2.2.2 = 0) (hT : ¬ T ≤ t) :
    fin kind n t d v e xp xl xn T m W = (T, W.1, aft kind n t d v e xp xl xn T W.1 W.2.1 W.2.2.1 W.2.2.2.1, wrap64 (m + W.2.2.2.2.1), 0) := by
  unfold fin
  rw [if_neg (fun c => c h), if_neg hT]
theorem len_sum (A B : List Int) (h : A.length + B.length ≤ 1000) : wrap64 ((A.length : Int) + (B.length : Int)) = ((A ++ B).length : Int) := by
  rw [List.length_append, PBits.w64 _ (by omega)]
  omega
theorem kg_own (kind n t d v e xp : Int) (xl xn : Nat) (T V : Int) (hn : 0 ≤ n) (hT : -9223372036854775808 ≤ T ∧ T < 9223372036854775808) (hV : 0 ≤ V ∧ V < 18446744073709551616) (hp : 0 ≤ xp ∧ xp < 18446744073709551616) (hx : xl + xn ≤ 64)
    (h : (kp kind n t d v e xp xl xn T V).2.2 = 0) (S : List Int) :
    kg kind n t d v e xp xl xn ((kp kind n t d v e xp xl xn T V).1 ++ S) = (T, V, (kp kind n t d v e xp xl xn T V).2.1, ((kp kind n t d v e xp xl xn T V).1.length : Int), 0) ∧ 2 ≤ (kp kind n t d v e xp xl xn T V).1.length := by
  unfold kp at h ⊢
  unfold kg
  by_cases c1 : ¬ (kind = 1 ∨ kind = 2)
  · rw [if_pos c1] at h
    exact absurd h (by decide)
  rw [if_neg c1] at h ⊢
  rw [if_neg c1]
  by_cases c2 : n = 0
  · rw [if_pos c2, if_pos c2]
    obtain ⟨q1, q2, q3⟩ := two64 (Bs.low (IntKind.u64.wrap T) 64) (Bs.low V 64) S (Bs.low_length _ _) (Bs.low_length _ _)
    have hl : (Bs.low (IntKind.u64.wrap T) 64 ++ Bs.low V 64).length = 128 := by rw [List.length_append, Bs.low_length, Bs.low_length]
    show (if (Bs.low (IntKind.u64.wrap T) 64 ++ Bs.low V 64 ++ S).length < 128 then _ else _) = (T, V, _, ((Bs.low (IntKind.u64.wrap T) 64 ++ Bs.low V 64).length : Int), 0) ∧ 2 ≤ (Bs.low (IntKind.u64.wrap T) 64 ++ Bs.low V 64).length
    rw [if_neg (Nat.not_lt_of_le q3), q1, q2, Bs.number_low, Bs.number_low, i64_back T hT, u64_back V hV, hl]
    exact ⟨rfl, by decide⟩
  rw [if_neg c2] at h ⊢
  rw [if_neg c2]
  by_cases c3 : T ≤ t
  · rw [if_pos c3] at h
    exact absurd h (by decide)
  rw [if_neg c3] at h ⊢
  have g1 := PDod.gspec_dodL (dt t d T) (by unfold dt; exact wr_range _)
  have l1 := dodL_len (dt t d T)
  have p1 := dodL_pos (dt t d T)
  have b1 := dt_back t d T hT
  generalize hA : PDod.dodL (dt t d T) = A at *
  by_cases c4 : kind = 2
  · rw [if_pos c4] at h ⊢
    have g2 := PDod.gspec_dodL (dv v e V) (by unfold dv; exact wr_range _) S
    have l2 := dodL_len (dv v e V)
    have p2 := dodL_pos (dv v e V)
    have b2 := dv_back v e V hV
    generalize PDod.dodL (dv v e V) = B at *
    have g1 := g1 (B ++ S)
    rw [← List.append_assoc] at g1
    have hs := len_sum A B (by omega)
    show (if ¬ (PDod.gspec (A ++ B ++ S)).2.2 = 0 then _ else _) = _ ∧ 2 ≤ (A ++ B).length
    rw [g1]
    refine ⟨?_, by rw [List.length_append]; omega⟩
    rw [if_neg (fun c => c rfl)]
    show fin kind n t d v e xp xl xn (wrap64 (wrap64 (t + d) + dt t d T)) (A.length : Int) (kv kind v e xp xl xn ((A ++ B ++ S).drop (A.length : Int).toNat)) = _
    rw [Int.toNat_natCast, List.append_assoc, List.drop_left, b1]
    unfold kv
    rw [if_pos c4, g2, fin_yes _ _ _ _ _ _ _ _ _ _ _ _ rfl c3]
    show (T, IntKind.u64.wrap (IntKind.u64.wrap (v + e) + IntKind.u64.wrap (dv v e V)), aft kind n t d v e xp xl xn T (IntKind.u64.wrap (IntKind.u64.wrap (v + e) + IntKind.u64.wrap (dv v e V))) 0 0 0, wrap64 ((A.length : Int) + (B.length : Int)), 0) = _
    rw [b2, hs]
  · rw [if_neg c4] at h ⊢
    have hr := PXor.xor_range V xp hV hp
    have hc := PXor.cb_short xl xn (dx V xp) hx hr.1 hr.2
    have g2 := PXor.xg_own xp V hp hV xl xn hx (d := dx V xp) rfl S
    generalize PXor.cb xl xn (dx V xp) = B at *
    have g1 := g1 (B ++ S)
    rw [← List.append_assoc] at g1
    have hs := len_sum A B (by omega)
    show (if ¬ (PDod.gspec (A ++ B ++ S)).2.2 = 0 then _ else _) = _ ∧ 2 ≤ (A ++ B).length
    rw [g1]
    refine ⟨?_, by rw [List.length_append]; omega⟩
    rw [if_neg (fun c => c rfl)]
    show fin kind n t d v e xp xl xn (wrap64 (wrap64 (t + d) + dt t d T)) (A.length : Int) (kv kind v e xp xl xn ((A ++ B ++ S).drop (A.length : Int).toNat)) = _
    rw [Int.toNat_natCast, List.append_assoc, List.drop_left, b1]
    unfold kv
    rw [if_neg c4, g2, fin_yes _ _ _ _ _ _ _ _ _ _ _ _ rfl c3]
    show (T, V, aft kind n t d v e xp xl xn T V V (PXor.cl xl xn (dx V xp) : Int) (PXor.cn xl xn (dx V xp) : Int), wrap64 ((A.length : Int) + (B.length : Int)), 0) = _
    rw [hs]
theorem kp_bits (kind n t d v e xp : Int) (xl xn : Nat) (T V : Int) : Bs.Bits (kp kind n t d v e xp xl xn T V).1 := by
  unfold kp
  split
  · exact Bs.Bits.nil
  · split
    · exact (Bs.low_bits _ _).append (Bs.low_bits _ _)
    · split
      · exact Bs.Bits.nil
      · split
        · exact (PDod.dodL_bits _).append (PDod.dodL_bits _)
        · exact (PDod.dodL_bits _).append (PXor.cb_bits _ _ _)
theorem kp_len (kind n t d v e xp : Int) (xl xn : Nat) (T V : Int) (hV : 0 ≤ V ∧ V < 18446744073709551616) (hp : 0 ≤ xp ∧ xp < 18446744073709551616) (hx : xl + xn ≤ 64) : (kp kind n t d v e xp xl xn T V).1.length ≤ 1000 := by
  have h1 := dodL_len (dt t d T)
  have h2 := dodL_len (dv v e V)
  have hr := PXor.xor_range V xp hV hp
  have h3 := (PXor.cb_short xl xn (dx V xp) hx hr.1 hr.2).2
  unfold kp
  split
  · decide
  · split
    · rw [List.length_append, Bs.low_length, Bs.low_length]; decide
    · split
      · decide
      · split
        · rw [List.length_append]; omega
        · rw [List.length_append]; omega
theorem kp_step (kind n t d v e xp : Int) (xl xn : Nat) (T V : Int) (hk : kind = 1 ∨ kind = 2) (ht : n = 0 ∨ ¬ T ≤ t) :
    (kp kind n t d v e xp xl xn T V).2.2 = 0 ∧ (kp kind n t d v e xp xl xn T V).2.1.1 = wrap64 (n + 1) ∧ (kp kind n t d v e xp xl xn T V).2.1.2.1 = T := by
  unfold kp
  rw [if_neg (fun h => h hk)]
  by_cases c2 : n = 0
  · rw [if_pos c2]
    exact ⟨rfl, rfl, rfl⟩
  rw [if_neg c2, if_neg (ht.resolve_left c2)]
  by_cases c4 : kind = 2
  · rw [if_pos c4]
    exact ⟨rfl, rfl, rfl⟩
  · rw [if_neg c4]
    exact ⟨rfl, rfl, rfl⟩
end Go.Proofs.YtiahbcaoikoogaaDoor.PKinds
end
section
namespace Go.Proofs.YtiahbcaoikoogaaDoor.PRising
open Go Go.RowKit Go.Proofs.YtiahbcaoikoogaaDoor Go.Proofs.YtiahbcaoikoogaaDoor.All Go.Proofs.YtiahbcaoikoogaaDoorW.PrintWords Go.Proofs.YtiahbcaoikoogaaDoorW.PrintLast
set_option linter.unusedVariables false
set_option linter.unusedSimpArgs false
def Rg (x : S59) : Prop := (-9223372036854775808 ≤ x.f0 ∧ x.f0 < 9223372036854775808) ∧ (0 ≤ x.f1 ∧ x.f1 < 18446744073709551616)
theorem rdT (M : List S59) (i : Nat) (h : i < M.length) : rd_T59 M (i : Int) = M[i] := by
  unfold rd_T59
  rw [Int.toNat_natCast, List.getD_eq_getElem?_getD, List.getElem?_eq_getElem h]
  rfl
structure Asc (M : List S59) : Prop where
  rng : ∀ x ∈ M, Rg x
  inc : ∀ (i j : Nat) (hi : i < M.length) (hj : j < M.length), j = i + 1 → M[i].f0 < M[j].f0
theorem Asc.nil : Asc [] := ⟨fun x h => by simp at h, fun i j hi _ _ => absurd hi (Nat.not_lt_zero i)⟩
theorem Asc.snoc {M : List S59} (h : Asc M) {x : S59} (hx : Rg x) (hl : ∀ (i : Nat) (hi : i < M.length), i + 1 = M.length → M[i].f0 < x.f0) : Asc (M ++ [x]) := by
  refine ⟨fun y hy => ?_, fun i j hi hj e => ?_⟩
  · rcases List.mem_append.mp hy with hy | hy
    · exact h.rng y hy
    · rw [List.mem_singleton.mp hy]; exact hx
  · have hi' : i < M.length + 1 := by rw [List.length_append] at hi; exact hi
    have hj' : j < M.length + 1 := by rw [List.length_append] at hj; exact hj
    have him : i < M.length := by omega
    rw [List.getElem_append_left him]
    by_cases c : j < M.length
    · rw [List.getElem_append_left c]
      exact h.inc i j him c e
    · have ej : j = M.length := by omega
      subst ej
      rw [List.getElem_append_right (Nat.le_refl _)]
      have h0 := hl i him (by omega)
      simpa using h0
theorem Rising_l0 (xs : List S59) (hx : ∀ x ∈ xs, Rg x) (hn : xs.length ≤ 60) : ∀ (r i : Nat) (M : List S59), i + r = xs.length → M.length ≤ i → Asc M →
    ∃ M', Ev (fun k => gaiterlaw00_Rising.l0 k xs M (i : Int)) M' ∧ M'.length ≤ xs.length ∧ Asc M' := by
  intro r
  induction r with
  | zero =>
    intro i M hi hM hA
    have hnl : ¬ (i : Int) < (xs.length : Int) := by omega
    exact ⟨M, Ev.step (fun k => by rw [gaiterlaw00_Rising.l0, if_neg hnl]) (Ev.now _), by omega, hA⟩
  | succ r ih =>
    intro i M hi hM hA
    have hil : i < xs.length := by omega
    have hlt : (i : Int) < (xs.length : Int) := by omega
    have hrd := rdT xs i hil
    have hr := hx xs[i] (List.getElem_mem hil)
    generalize xs[i] = x at hrd hr
    have wi : wrap64 ((i : Int) + 1) = ((i + 1 : Nat) : Int) := by rw [PBits.w64 _ (by omega)]; omega
    have h8 : M.length < 8796093022208 := by omega
    have hy : (⟨x.f0, x.f1⟩ : S59) = x := rfl
    have hsl : (M ++ [x]).length ≤ i + 1 := by rw [List.length_append, List.length_singleton]; omega
    by_cases c0 : M.length = 0
    · have c0' : (M.length : Int) = 0 := by omega
      obtain ⟨M', e1, e2, e3⟩ := ih (i + 1) (M ++ [x]) (by omega) hsl (hA.snoc hr (fun j hj _ => absurd hj (by omega)))
      exact ⟨M', Ev.step (fun k => by rw [gaiterlaw00_Rising.l0, if_pos hlt, if_pos c0', if_pos (Int.natCast_nonneg i), if_pos h8, hrd, wi]) e1, e2, e3⟩
    · have c0' : ¬ (M.length : Int) = 0 := by omega
      have wl : wrap64 ((M.length : Int) - 1) = ((M.length - 1 : Nat) : Int) := by rw [PBits.w64 _ (by omega)]; omega
      have hl1 : M.length - 1 < M.length := by omega
      have hrl := rdT M (M.length - 1) hl1
      have hb : ((M.length - 1 : Nat) : Int) < (M.length : Int) := by omega
      by_cases c1 : x.f0 > M[M.length - 1].f0
      · obtain ⟨M', e1, e2, e3⟩ := ih (i + 1) (M ++ [x]) (by omega) hsl (hA.snoc hr (fun j hj he => by
          obtain rfl : j = M.length - 1 := by omega
          exact c1))
        exact ⟨M', Ev.step (fun k => by rw [gaiterlaw00_Rising.l0, if_pos hlt, if_neg c0', if_pos (Int.natCast_nonneg i), wl, if_pos (Int.natCast_nonneg _), if_pos hb, hrd, hrl, if_pos c1, if_pos h8, wi]) e1, e2, e3⟩
      · obtain ⟨M', e1, e2, e3⟩ := ih (i + 1) M (by omega) (by omega) hA
        exact ⟨M', Ev.step (fun k => by rw [gaiterlaw00_Rising.l0, if_pos hlt, if_neg c0', if_pos (Int.natCast_nonneg i), wl, if_pos (Int.natCast_nonneg _), if_pos hb, hrd, hrl, if_neg c1, wi]) e1, e2, e3⟩
theorem Rising_is (xs : List S59) (hx : ∀ x ∈ xs, Rg x) (hn : xs.length ≤ 60) : ∃ M, Ev (fun k => gaiterlaw00_Rising.f k xs) M ∧ M.length ≤ xs.length ∧ Asc M :=
  Rising_l0 xs hx hn xs.length 0 [] (by omega) (Nat.le_refl _) Asc.nil
end Go.Proofs.YtiahbcaoikoogaaDoor.PRising
end
section
namespace Go.Proofs.YtiahbcaoikoogaaDoor.Pure
open Go Go.RowKit Go.Proofs.YtiahbcaoikoogaaDoor Go.Proofs.YtiahbcaoikoogaaDoor.All Go.Proofs.YtiahbcaoikoogaaDoorW.PrintWords Go.Proofs.YtiahbcaoikoogaaDoorW.PrintLast Go.Proofs.YtiahbcaoikoogaaDoor.PKinds Go.Proofs.YtiahbcaoikoogaaDoor.PRising
set_option linter.unusedVariables false
set_option linter.unusedSimpArgs false
theorem KindsBack_up : Ev (fun k => gaiterlaw08_up.f k) true :=
  Ev.of gaiterlaw08_up.mono (k := 300) (by decide +kernel)
structure Sb (M : List S59) (i : Nat) (n t xp : Int) (xl xn : Nat) : Prop where
  num : n = (i : Int)
  tim : ∀ (j : Nat) (h : j < M.length), j + 1 = i → t = M[j].f0
  prv : 0 ≤ xp ∧ xp < 18446744073709551616
  win : xl + xn ≤ 64
def cds (kind : Int) : List S59 → S8 → List Int
  | [], _ => []
  | x :: r, (n, t, d, v, e, xp, xl, xn) => (kp kind n t d v e xp xl.toNat xn.toNat x.f0 x.f1).1 ++ cds kind r (kp kind n t d v e xp xl.toNat xn.toNat x.f0 x.f1).2.1
theorem cds_cons (kind : Int) (x : S59) (r : List S59) (n t d v e xp : Int) (xl xn : Nat) : cds kind (x :: r) (n, t, d, v, e, xp, (xl : Int), (xn : Int)) = (kp kind n t d v e xp xl xn x.f0 x.f1).1 ++ cds kind r (kp kind n t d v e xp xl xn x.f0 x.f1).2.1 := rfl
theorem kstep (kind : Int) (hk : kind = 1 ∨ kind = 2) (M : List S59) (hM : Asc M) (hM60 : M.length ≤ 60) (i : Nat) (hi : i < M.length) (n t d v e xp : Int) (xl xn : Nat) (s : Sb M i n t xp xl xn) :
    ∃ (b : List Int) (n' t' d' v' e' xp' : Int) (yl yn : Nat), kp kind n t d v e xp xl xn M[i].f0 M[i].f1 = (b, (n', t', d', v', e', xp', (yl : Int), (yn : Int)), 0) ∧ Bs.Bits b ∧ b.length ≤ 1000 ∧ 2 ≤ b.length ∧
      (∀ S, PKinds.kg kind n t d v e xp xl xn (b ++ S) = (M[i].f0, M[i].f1, (n', t', d', v', e', xp', (yl : Int), (yn : Int)), (b.length : Int), 0)) ∧ Sb M (i + 1) n' t' xp' yl yn := by
  have hr := hM.rng M[i] (List.getElem_mem hi)
  have hn := s.num
  have hn0 : 0 ≤ n := by omega
  have ht : n = 0 ∨ ¬ M[i].f0 ≤ t := by
    by_cases c : i = 0
    · exact .inl (by omega)
    · have e1 := s.tim (i - 1) (by omega) (by omega)
      have e2 := hM.inc (i - 1) i (by omega) hi (by omega)
      rw [← e1] at e2
      exact .inr (by omega)
  have k1 := kp_step kind n t d v e xp xl xn M[i].f0 M[i].f1 hk ht
  have k2 := kp_bits kind n t d v e xp xl xn M[i].f0 M[i].f1
  have k3 := kp_len kind n t d v e xp xl xn M[i].f0 M[i].f1 hr.2 s.prv s.win
  have k4 := kg_own kind n t d v e xp xl xn M[i].f0 M[i].f1 hn0 hr.1 hr.2 s.prv s.win k1.1
  have k5 := kp_ok (i : Int) (by omega) kind n t d v e xp xl xn M[i].f0 M[i].f1 ⟨hn0, by omega⟩ hr.2 s.prv s.win k1.1
  generalize kp kind n t d v e xp xl xn M[i].f0 M[i].f1 = K at *
  obtain ⟨b, ⟨n', t', d', v', e', xp', al, an⟩, c⟩ := K
  obtain ⟨yl, yn, e1, e2, hy⟩ := k5.w
  have e1 : al = (yl : Int) := e1
  have e2 : an = (yn : Int) := e2
  subst e1 e2
  have kc : c = 0 := k1.1
  have kn : n' = wrap64 (n + 1) := k1.2.1
  have kt : t' = M[i].f0 := k1.2.2
  subst kc
  have wn : wrap64 (n + 1) = n + 1 := PBits.w64 _ (by omega)
  refine ⟨b, n', t', d', v', e', xp', yl, yn, rfl, k2, k3, (k4 []).2, fun S => (k4 S).1, ?_, ?_, k5.p0, hy⟩
  · rw [kn, wn, hn]; omega
  · intro j hj he
    obtain rfl : j = i := by omega
    exact kt
section
variable (x2 x3 : List Int) (kind : Int) (hk : kind = 1 ∨ kind = 2) (M : List S59) (hM : Asc M) (hM60 : M.length ≤ 60)
include hk hM hM60
theorem KindsBack_l1 (F Q : List Int) (hF : Bs.Bits F) (hFl : F.length ≤ 100000) :
    ∀ (r i : Nat) (H : List Int) (n t d v e xp : Int) (xl xn : Nat), i + r = M.length → Sb M i n t xp xl xn → F = H ++ (cds kind (M.drop i) (n, t, d, v, e, xp, (xl : Int), (xn : Int)) ++ Q) →
      Ev (fun k => gaiterlaw08_KindsBack.l1 k true kind M (H.length : Int) (i : Int) (Bs.pack F) (F.length : Int) n t d v e xp (xl : Int) (xn : Int)) true := by
  intro r
  induction r with
  | zero =>
    intro i H n t d v e xp xl xn hi s hE
    have hnl : ¬ (i : Int) < (M.length : Int) := by omega
    exact Ev.step (fun k => by rw [gaiterlaw08_KindsBack.l1, if_neg hnl]) (Ev.now _)
  | succ r ih =>
    intro i H n t d v e xp xl xn hi s hE
    have hil : i < M.length := by omega
    have hlt : (i : Int) < (M.length : Int) := by omega
    have hrd := rdT M i hil
    have hr := hM.rng M[i] (List.getElem_mem hil)
    have hn0 : 0 ≤ n := by have := s.num; omega
    have g1 := Put_is kind n t d v e xp xl xn M[i].f0 M[i].f1 hn0 hr.2 s.prv s.win
    obtain ⟨b, n', t', d', v', e', xp', yl, yn, hK, hb, hb1, hb2, hown, s'⟩ := kstep kind hk M hM hM60 i hil n t d v e xp xl xn s
    rw [List.drop_eq_getElem_cons hil, cds_cons, hK] at hE
    rw [hK] at g1
    generalize M[i] = x at hrd hr g1 hK hown hE
    have g1 : Ev (fun k => kinds_Put.f k kind n t d v e xp (xl : Int) (xn : Int) x.f0 x.f1) (Bs.pack b, (b.length : Int), n', t', d', v', e', xp', (yl : Int), (yn : Int), none) := g1
    have hE2 : F = (H ++ b) ++ (cds kind (M.drop (i + 1)) (n', t', d', v', e', xp', (yl : Int), (yn : Int)) ++ Q) := by
      rw [hE]
      simp only [List.append_assoc]
    have hnext := ih (i + 1) (H ++ b) n' t' d' v' e' xp' yl yn (by omega) s' hE2
    have hpl : 8 * (Bs.pack F).length < 70368744177664 := by rw [Bs.pack_length]; omega
    have hHF : H.length + b.length ≤ F.length := by rw [hE2]; simp only [List.length_append]; omega
    have hget := PKinds.Get_is kind n t d v e xp xl xn hn0 s.prv s.win _ (Bs.pack_bytes hF) hpl (H.length : Int) (by omega)
    have hrest : ∃ S, PDod.restL (Bs.flat (Bs.pack F)) (H.length : Int) = b ++ S := by
      unfold PDod.restL
      rw [Bs.flat_pack hF]
      refine ⟨cds kind (M.drop (i + 1)) (n', t', d', v', e', xp', (yl : Int), (yn : Int)) ++ Q ++ List.replicate (8 * ((F.length + 7) / 8) - F.length) 0, ?_⟩
      rw [if_neg (by rw [List.length_append]; omega), Int.toNat_natCast]
      conv => lhs; rw [show F ++ List.replicate (8 * ((F.length + 7) / 8) - F.length) (0 : Int) = H ++ (b ++ (cds kind (M.drop (i + 1)) (n', t', d', v', e', xp', (yl : Int), (yn : Int)) ++ Q ++ List.replicate (8 * ((F.length + 7) / 8) - F.length) 0)) from by
        conv => lhs; arg 1; rw [hE2]
        simp only [List.append_assoc]]
      rw [List.drop_left]
    obtain ⟨S, hS⟩ := hrest
    rw [hS, hown S] at hget
    have hget : Ev (fun k => kinds_Get.f k kind n t d v e xp (xl : Int) (xn : Int) (Bs.pack F) (H.length : Int)) (x.f0, x.f1, n', t', d', v', e', xp', (yl : Int), (yn : Int), (b.length : Int), none) := hget
    have wo : wrap64 ((H.length : Int) + (b.length : Int)) = ((H ++ b).length : Int) := by rw [List.length_append, PBits.w64 _ (by omega)]; omega
    have wi : wrap64 ((i : Int) + 1) = ((i + 1 : Nat) : Int) := by rw [PBits.w64 _ (by omega)]; omega
    have g2 : ¬ (b.length : Int) < 2 := by omega
    refine Ev.step (fun k => by rw [gaiterlaw08_KindsBack.l1, if_pos hlt, if_pos (Int.natCast_nonneg i), hrd]) (Ev.bind g1 (Ev.bind hget ?_))
    simp only [if_true, Option.isNone_none, beq_self_eq_true, Bool.not_true, Bool.or_self, Bool.false_eq_true, if_false, if_neg g2, wo, wi]
    exact hnext
omit hk hM hM60
include hk hM hM60
theorem KindsBack_l0 (T : List Int) (hend : Bs.Bits T → T.length ≤ 60300 → Ev (fun k => (gaiterlaw00_Bits.f k x3).bind fun bt950 => ((bits_Join.f k (Bs.pack T) (T.length : Int) bt950.1 bt950.2).bind fun bt954 => (gaiterlaw08_KindsBack.l1 k true kind M (x2.length : Int) 0 bt954.1 bt954.2 0 0 0 0 0 0 0 0))) true) :
    ∀ (r i : Nat) (E : List Int) (n t d v e xp : Int) (xl xn : Nat), i + r = M.length → Sb M i n t xp xl xn → Bs.Bits E → E.length ≤ 300 + 1000 * i → E ++ cds kind (M.drop i) (n, t, d, v, e, xp, (xl : Int), (xn : Int)) = T →
      Ev (fun k => gaiterlaw08_KindsBack.l0 k x2 x3 true kind M (i : Int) (Bs.pack E) (E.length : Int) n t d v e xp (xl : Int) (xn : Int)) true := by
  intro r
  induction r with
  | zero =>
    intro i E n t d v e xp xl xn hi s hEb hEl hE
    have hnl : ¬ (i : Int) < (M.length : Int) := by omega
    rw [List.drop_of_length_le (by omega)] at hE
    have : E = T := by rw [← hE]; exact (List.append_nil E).symm
    subst this
    exact Ev.step (fun k => by rw [gaiterlaw08_KindsBack.l0, if_neg hnl]) (hend hEb (by omega))
  | succ r ih =>
    intro i E n t d v e xp xl xn hi s hEb hEl hE
    have hil : i < M.length := by omega
    have hlt : (i : Int) < (M.length : Int) := by omega
    have hrd := rdT M i hil
    have hr := hM.rng M[i] (List.getElem_mem hil)
    have hn0 : 0 ≤ n := by have := s.num; omega
    have g1 := Put_is kind n t d v e xp xl xn M[i].f0 M[i].f1 hn0 hr.2 s.prv s.win
    obtain ⟨b, n', t', d', v', e', xp', yl, yn, hK, hb, hb1, hb2, hown, s'⟩ := kstep kind hk M hM hM60 i hil n t d v e xp xl xn s
    rw [List.drop_eq_getElem_cons hil, cds_cons, hK] at hE
    rw [hK] at g1
    generalize M[i] = x at hrd hr g1 hK hown hE
    have g1 : Ev (fun k => kinds_Put.f k kind n t d v e xp (xl : Int) (xn : Int) x.f0 x.f1) (Bs.pack b, (b.length : Int), n', t', d', v', e', xp', (yl : Int), (yn : Int), none) := g1
    have hE2 : (E ++ b) ++ cds kind (M.drop (i + 1)) (n', t', d', v', e', xp', (yl : Int), (yn : Int)) = T := by
      rw [← hE]
      simp only [List.append_assoc]
    have hjoin := PBits.Join_is E b hEb hb (by omega)
    rw [← List.length_append] at hjoin
    have hnext := ih (i + 1) (E ++ b) n' t' d' v' e' xp' yl yn (by omega) s' (hEb.append hb) (by rw [List.length_append]; omega) hE2
    have wi : wrap64 ((i : Int) + 1) = ((i + 1 : Nat) : Int) := by rw [PBits.w64 _ (by omega)]; omega
    refine Ev.step (fun k => by rw [gaiterlaw08_KindsBack.l0, if_pos hlt, if_pos (Int.natCast_nonneg i), hrd, wi]) (Ev.bind g1 ?_)
    simp only [Option.isNone_none, if_true]
    refine Ev.bind hjoin ?_
    exact hnext
end
theorem KindsBack_j1 (x1 : List S59) (x2 x3 : List Int) (kind : Int) (hk : kind = 1 ∨ kind = 2) (h1 : ∀ x ∈ x1, Rg x) (h2 : Bs.Bytes x2) (h3 : Bs.Bytes x3) (n1 : x1.length ≤ 60) (n2 : x2.length ≤ 300) (n3 : x3.length ≤ 300) :
    Ev (fun k => gaiterlaw08_KindsBack.j1 k x1 x2 x3 true kind) true := by
  obtain ⟨M, e1, e2, hM⟩ := Rising_is x1 h1 n1
  have hM60 : M.length ≤ 60 := by omega
  have lP : (PBits.par x2).length = x2.length := PBits.par_length x2
  have lQ : (PBits.par x3).length = x3.length := PBits.par_length x3
  have hP := PBits.par_bits x2
  have hQ := PBits.par_bits x3
  have b2 := PBits.Bits_is x2 h2 (by omega)
  have b3 := PBits.Bits_is x3 h3 (by omega)
  rw [← lP] at b2
  rw [← lQ] at b3
  generalize PBits.par x2 = P at *
  generalize PBits.par x3 = Q at *
  have s0 : Sb M 0 0 0 0 0 0 := ⟨rfl, fun j _ h => absurd h (by omega), by decide, by decide⟩
  have hend : ∀ T, T = P ++ cds kind M (0, 0, 0, 0, 0, 0, 0, 0) → Bs.Bits T → T.length ≤ 60300 → Ev (fun k => (gaiterlaw00_Bits.f k x3).bind fun bt950 => ((bits_Join.f k (Bs.pack T) (T.length : Int) bt950.1 bt950.2).bind fun bt954 => (gaiterlaw08_KindsBack.l1 k true kind M (x2.length : Int) 0 bt954.1 bt954.2 0 0 0 0 0 0 0 0))) true := by
    intro T hT hTb hTl
    have hjoin := PBits.Join_is T Q hTb hQ (by omega)
    rw [← List.length_append] at hjoin
    have hF : (T ++ Q).length ≤ 100000 := by rw [List.length_append]; omega
    have hl1 := KindsBack_l1 kind hk M hM hM60 (T ++ Q) Q (hTb.append hQ) hF M.length 0 P 0 0 0 0 0 0 0 0 (by omega) s0 (by rw [hT, List.drop_zero, List.append_assoc]; rfl)
    rw [lP] at hl1
    refine Ev.bind b3 (Ev.bind hjoin ?_)
    exact hl1
  have hl0 := KindsBack_l0 x2 x3 kind hk M hM hM60 _ (hend _ rfl) M.length 0 P 0 0 0 0 0 0 0 0 (by omega) s0 hP (by omega) rfl
  refine Ev.step (fun k => by rw [gaiterlaw08_KindsBack.j1]) (Ev.bind e1 (Ev.bind b2 ?_))
  exact hl0
theorem KindsBack : gaiterlaw08_KindsBack.Pure := by
  intro x0 x1 x2 x3 _ _ h1 _ _ h2 _ _ h3
  have h1 : ∀ x ∈ x1, Rg x := fun x h => ⟨Ib.wf_i64 (h1 x h).1, Ib.wf_u64 (h1 x h).2⟩
  have h2 : Bs.Bytes x2 := fun x h => Ib.wf_u8 (h2 x h)
  have h3 : Bs.Bytes x3 := fun x h => Ib.wf_u8 (h3 x h)
  refine Ev.rounds (g := fun k => gaiterlaw08_KindsBack.f k x0 x1 x2 x3) ?_
  unfold gaiterlaw08_KindsBack.f
  refine Ev.bind KindsBack_up ?_
  have hout : ∀ x, x = true → Ev (fun k => gaiterlaw08_KindsBack.j0 k x0 x1 x2 x3 true x) true := by
    intro x hx
    subst hx
    exact Ev.step (fun k => by rw [gaiterlaw08_KindsBack.j0, if_pos rfl]) (Ev.now _)
  by_cases c1 : (x1.length : Int) > 60
  · simp only [if_pos c1]
    exact hout _ rfl
  simp only [if_neg c1]
  by_cases c2 : (x2.length : Int) > 300
  · simp only [if_pos c2]
    exact hout _ rfl
  simp only [if_neg c2]
  by_cases c3 : (x3.length : Int) > 300
  · exact hout _ (decide_eq_true c3)
  rw [decide_eq_false c3]
  by_cases c0 : x0 = true
  · exact Ev.step (fun k => by rw [gaiterlaw08_KindsBack.j0, if_neg Bool.false_ne_true, if_pos c0]) (KindsBack_j1 x1 x2 x3 2 (.inr rfl) h1 h2 h3 (by omega) (by omega) (by omega))
  · exact Ev.step (fun k => by rw [gaiterlaw08_KindsBack.j0, if_neg Bool.false_ne_true, if_neg c0]) (KindsBack_j1 x1 x2 x3 1 (.inl rfl) h1 h2 h3 (by omega) (by omega) (by omega))
end Go.Proofs.YtiahbcaoikoogaaDoor.Pure
end
