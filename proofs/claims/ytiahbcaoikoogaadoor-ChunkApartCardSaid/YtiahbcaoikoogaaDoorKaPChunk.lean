-- declarations that this claim needs, copied by a program of the session
import Derived.Test.YtiahbcaoikoogaaDoorKaPKindsGet
import Derived.Test.YtiahbcaoikoogaaDoorKaAllx52
section
namespace Go.Proofs.YtiahbcaoikoogaaDoor.PXor
open Go Go.RowKit Go.Proofs.YtiahbcaoikoogaaDoor Go.Proofs.YtiahbcaoikoogaaDoor.All Go.Proofs.YtiahbcaoikoogaaDoorW.PrintWords Go.Proofs.YtiahbcaoikoogaaDoorW.PrintLast
set_option linter.unusedVariables false
set_option linter.unusedSimpArgs false
set_option linter.unusedSectionVars false
theorem window_back (d : Int) (h0 : 0 < d) (h1 : d < 18446744073709551616) (l n : Nat) (h : l + n ≤ 64) (hl : l ≤ LL d) (hn : LL d + SS d ≤ l + n) : (d / 2 ^ (64 - l - n) % 2 ^ n) * 2 ^ (64 - l - n) = d := by
  have hw := win d h0 h1
  have g1 := hw.lt
  have g2 := hw.pos
  have g3 := hw.le
  have hhi := hw.hi
  have hmul := hw.mul
  have p1 : (2 : Int) ^ (64 - LL d) ≤ 2 ^ (64 - l) := PBits.pow_le (by omega)
  have p2 : (2 : Int) ^ (64 - l) = 2 ^ n * 2 ^ (64 - l - n) := by rw [← pow_mul]; congr 1; omega
  have p3 : (2 : Int) ^ (64 - LL d - SS d) = 2 ^ (64 - LL d - SS d - (64 - l - n)) * 2 ^ (64 - l - n) := by rw [← pow_mul]; congr 1; omega
  have hp := Bs.pow_pos (64 - l - n)
  have hlt : d / 2 ^ (64 - l - n) < 2 ^ n := Int.ediv_lt_of_lt_mul hp (by omega)
  have hge : 0 ≤ d / 2 ^ (64 - l - n) := Int.ediv_nonneg (Int.le_of_lt h0) (Int.le_of_lt hp)
  rw [Int.emod_eq_of_lt hge hlt]
  refine Int.ediv_mul_cancel ?_
  refine ⟨d / 2 ^ (64 - LL d - SS d) * 2 ^ (64 - LL d - SS d - (64 - l - n)), ?_⟩
  generalize d / 2 ^ (64 - LL d - SS d) = q at hmul
  rw [p3, ← Int.mul_assoc] at hmul
  rw [Int.mul_comm (2 ^ (64 - l - n))]
  exact hmul
theorem xv_low (d : Int) (h0 : 0 < d) (h1 : d < 18446744073709551616) (l n : Nat) (h : l + n ≤ 64) (hl : l ≤ LL d) (hn : LL d + SS d ≤ l + n) (H S : List Int) : xv (H ++ (Bs.low (d / 2 ^ (64 - l - n)) n ++ S)) H.length l n = d := by
  unfold xv
  rw [List.drop_left, List.take_append_of_le_length (by rw [Bs.low_length]; exact Nat.le_refl _), List.take_of_length_le (by rw [Bs.low_length]; exact Nat.le_refl _), Bs.number_low]
  exact window_back d h0 h1 l n h hl hn
theorem xg_own (p v : Int) (hp : 0 ≤ p ∧ p < 18446744073709551616) (hv : 0 ≤ v ∧ v < 18446744073709551616) (l n : Nat) (hln : l + n ≤ 64) {d : Int} (hd : Go.bits .xor .u64 v p = d) (S : List Int) :
    xg p l n (cb l n d ++ S) = (v, v, (cl l n d : Int), (cn l n d : Int), ((cb l n d).length : Int), 0) := by
  have hr := xor_range v p hv hp
  have hback : Go.bits .xor .u64 p d = v := by
    rw [← hd, xor_comm p _ hp hr]
    rw [xor_comm v p hv hp]
    exact xor_back p v hp hv
  rw [hd] at hr
  unfold xg
  by_cases h0 : d = 0
  · subst h0
    have e : cb l n 0 = [0] := by unfold cb; rw [if_pos rfl]
    rw [e]
    have ev : p = v := by rw [← hback, Ib.xor_u64_zero p hp]
    rw [if_neg (by simp), if_pos (show rd ([0] ++ S) 0 = 0 from rfl), ev]
    unfold cl cn
    rw [if_pos rfl, if_pos rfl]
    rfl
  have hw := win d (by omega) hr.2
  have hs := SS_le d (by omega) hr.2
  have g1 := hw.lt
  have g2 := hw.pos
  have g3 := hw.le
  by_cases hc : 0 < n ∧ l ≤ LL d ∧ LL d + SS d ≤ l + n
  · have e : cb l n d = [1, 0] ++ Bs.low (d / 2 ^ (64 - l - n)) n := by unfold cb; rw [if_neg h0, if_pos hc]
    have ecl : cl l n d = l := by unfold cl; rw [if_neg h0, if_pos hc]
    have ecn : cn l n d = n := by unfold cn; rw [if_neg h0, if_pos hc]
    have hx : xv (cb l n d ++ S) 2 l n = d := by
      rw [e, List.append_assoc]
      exact xv_low d (by omega) hr.2 l n hln hc.2.1 hc.2.2 [1, 0] S
    have hlen : (cb l n d).length = 2 + n := by rw [e, List.length_append, Bs.low_length]; rfl
    have r0 : rd (cb l n d ++ S) 0 = 1 := by rw [e]; rfl
    have r1 : rd (cb l n d ++ S) 1 = 0 := by rw [e]; rfl
    have l1 : (cb l n d ++ S).length = 2 + n + S.length := by rw [List.length_append, hlen]
    rw [if_neg (by omega), r0, if_neg (by decide), if_neg (by omega), r1, if_neg (by decide)]
    unfold bd
    rw [if_neg (by omega), if_neg (by omega), hx, if_pos (by rw [← hlen, List.take_left]), hback, hlen]
  · have e : cb l n d = [1, 1] ++ Bs.low (LL d : Int) 6 ++ Bs.low ((SS d : Int) - 1) 6 ++ Bs.low (d / 2 ^ (64 - LL d - SS d)) (SS d) := by unfold cb; rw [if_neg h0, if_neg hc]
    have ecl : cl l n d = LL d := by unfold cl; rw [if_neg h0, if_neg hc]
    have ecn : cn l n d = SS d := by unfold cn; rw [if_neg h0, if_neg hc]
    have hlen : (cb l n d).length = 14 + SS d := by
      rw [e, List.length_append, List.length_append, List.length_append, Bs.low_length, Bs.low_length, Bs.low_length]; rfl
    have r0 : rd (cb l n d ++ S) 0 = 1 := by rw [e]; rfl
    have r1 : rd (cb l n d ++ S) 1 = 1 := by rw [e]; rfl
    have l1 : (cb l n d ++ S).length = 14 + SS d + S.length := by rw [List.length_append, hlen]
    have d2 : ((cb l n d ++ S).drop 2).take 6 = Bs.low (LL d : Int) 6 := by
      rw [e]
      simp only [List.append_assoc]
      show (Bs.low (LL d : Int) 6 ++ (Bs.low ((SS d : Int) - 1) 6 ++ (Bs.low (d / 2 ^ (64 - LL d - SS d)) (SS d) ++ S))).take 6 = _
      rw [List.take_append_of_le_length (by rw [Bs.low_length]; exact Nat.le_refl _), List.take_of_length_le (by rw [Bs.low_length]; exact Nat.le_refl _)]
    have e14 : ([1, 1] ++ Bs.low (LL d : Int) 6).length = 8 := by rw [List.length_append, Bs.low_length]; rfl
    have e14' : ([1, 1] ++ Bs.low (LL d : Int) 6 ++ Bs.low ((SS d : Int) - 1) 6).length = 14 := by rw [List.length_append, Bs.low_length, e14]
    have d8 : ((cb l n d ++ S).drop 8).take 6 = Bs.low ((SS d : Int) - 1) 6 := by
      rw [e, List.append_assoc, List.append_assoc, ← e14, List.drop_left, List.take_append_of_le_length (by rw [Bs.low_length]; exact Nat.le_refl _), List.take_of_length_le (by rw [Bs.low_length]; exact Nat.le_refl _)]
    have k6 : (2 : Int) ^ 6 = 64 := by decide
    have eld : ld (cb l n d ++ S) = LL d := by
      unfold ld
      rw [d2, Bs.number_low, k6]
      omega
    have esd : sd (cb l n d ++ S) = SS d := by
      unfold sd
      rw [d8, Bs.number_low, k6]
      omega
    have hx : xv (cb l n d ++ S) 14 (LL d) (SS d) = d := by
      rw [e, List.append_assoc, ← e14']
      exact xv_low d (by omega) hr.2 (LL d) (SS d) g3 (Nat.le_refl _) (Nat.le_refl _) _ S
    rw [if_neg (by omega), r0, if_neg (by decide), if_neg (by omega), r1, if_pos rfl, if_neg (by omega), eld, esd]
    unfold bd
    rw [if_neg (by omega), if_neg (by omega), hx, if_pos (by rw [← hlen, List.take_left]), hback, hlen]
end Go.Proofs.YtiahbcaoikoogaaDoor.PXor
end
section
namespace Go.Proofs.YtiahbcaoikoogaaDoor.PKinds
open Go Go.RowKit Go.Proofs.YtiahbcaoikoogaaDoor Go.Proofs.YtiahbcaoikoogaaDoor.All Go.Proofs.YtiahbcaoikoogaaDoorW.PrintWords Go.Proofs.YtiahbcaoikoogaaDoorW.PrintLast
set_option linter.unusedVariables false
set_option linter.unusedSimpArgs false
structure Ok (B : Int) (s : S8) : Prop where
  n0 : 0 ≤ s.1
  n1 : s.1 ≤ B
  p0 : 0 ≤ s.2.2.2.2.2.1 ∧ s.2.2.2.2.2.1 < 18446744073709551616
  w : ∃ xl xn : Nat, s.2.2.2.2.2.2.1 = (xl : Int) ∧ s.2.2.2.2.2.2.2 = (xn : Int) ∧ xl + xn ≤ 64
theorem ok_zero (B : Int) (hB : 0 ≤ B) : Ok B z8 := ⟨Int.le_refl _, hB, by decide, 0, 0, rfl, rfl, by decide⟩
theorem ok_aft (B : Int) (hB : B < 1000000) (kind n t d v e xp xl xn T V ap al an : Int) (hn : 0 ≤ n ∧ n ≤ B) (hV : 0 ≤ V ∧ V < 18446744073709551616) (hap : 0 ≤ ap ∧ ap < 18446744073709551616) (hw : ∃ x y : Nat, al = (x : Int) ∧ an = (y : Int) ∧ x + y ≤ 64) : Ok (B + 1) (aft kind n t d v e xp xl xn T V ap al an) := by
  have hw1 : wrap64 (n + 1) = n + 1 := PBits.w64 _ (by omega)
  have z : ∃ x y : Nat, (0 : Int) = (x : Int) ∧ (0 : Int) = (y : Int) ∧ x + y ≤ 64 := ⟨0, 0, rfl, rfl, by decide⟩
  unfold aft
  rw [hw1]
  refine ⟨by show 0 ≤ n + 1; omega, by show n + 1 ≤ B + 1; omega, ?_, ?_⟩
  · show 0 ≤ (if kind = 1 then (if n = 0 then V else ap) else 0) ∧ (if kind = 1 then (if n = 0 then V else ap) else 0) < 18446744073709551616
    by_cases c : kind = 1
    · rw [if_pos c]
      by_cases c' : n = 0
      · rw [if_pos c']; exact hV
      · rw [if_neg c']; exact hap
    · rw [if_neg c]; decide
  · show ∃ x y : Nat, (if kind = 1 then (if n = 0 then 0 else al) else 0) = (x : Int) ∧ (if kind = 1 then (if n = 0 then 0 else an) else 0) = (y : Int) ∧ x + y ≤ 64
    by_cases c : kind = 1
    · rw [if_pos c, if_pos c]
      by_cases c' : n = 0
      · rw [if_pos c', if_pos c']; exact z
      · rw [if_neg c', if_neg c']; exact hw
    · rw [if_neg c, if_neg c]; exact z
theorem kp_ok (B : Int) (hB : B < 1000000) (kind n t d v e xp : Int) (xl xn : Nat) (T V : Int) (hn : 0 ≤ n ∧ n ≤ B) (hV : 0 ≤ V ∧ V < 18446744073709551616) (hp : 0 ≤ xp ∧ xp < 18446744073709551616) (hx : xl + xn ≤ 64) (h : (kp kind n t d v e xp xl xn T V).2.2 = 0) :
    Ok (B + 1) (kp kind n t d v e xp xl xn T V).2.1 := by
  have z : ∃ x y : Nat, (0 : Int) = (x : Int) ∧ (0 : Int) = (y : Int) ∧ x + y ≤ 64 := ⟨0, 0, rfl, rfl, by decide⟩
  unfold kp at h ⊢
  by_cases c1 : ¬ (kind = 1 ∨ kind = 2)
  · rw [if_pos c1] at h
    exact absurd h (by decide)
  rw [if_neg c1] at h ⊢
  by_cases c2 : n = 0
  · rw [if_pos c2]
    exact ok_aft B hB kind n t d v e xp xl xn T V 0 0 0 hn hV (by decide) z
  rw [if_neg c2] at h ⊢
  by_cases c3 : T ≤ t
  · rw [if_pos c3] at h
    exact absurd h (by decide)
  rw [if_neg c3] at h ⊢
  by_cases c4 : kind = 2
  · rw [if_pos c4]
    exact ok_aft B hB kind n t d v e xp xl xn T V 0 0 0 hn hV (by decide) z
  · rw [if_neg c4]
    have hr := PXor.xor_range V xp hV hp
    exact ok_aft B hB kind n t d v e xp xl xn T V V _ _ hn hV hV ⟨_, _, rfl, rfl, PXor.cb_ok xl xn _ hx hr.1 hr.2⟩
end Go.Proofs.YtiahbcaoikoogaaDoor.PKinds
end
section
namespace Go.Proofs.YtiahbcaoikoogaaDoor.PDod
open Go Go.RowKit Go.Proofs.YtiahbcaoikoogaaDoor Go.Proofs.YtiahbcaoikoogaaDoor.All Go.Proofs.YtiahbcaoikoogaaDoorW.PrintWords Go.Proofs.YtiahbcaoikoogaaDoorW.PrintLast
set_option linter.unusedVariables false
set_option linter.unusedSimpArgs false
theorem lead_ones : ∀ (o f : Nat) (T : List Int), o ≤ f → lead f (List.replicate o 1 ++ T) = o + lead (f - o) T := by
  intro o
  induction o with
  | zero => intro f T h; rw [List.replicate_zero, List.nil_append, Nat.sub_zero, Nat.zero_add]
  | succ o ih =>
    intro f T h
    obtain ⟨f, rfl⟩ : ∃ g, f = g + 1 := ⟨f - 1, by omega⟩
    rw [List.replicate_succ, List.cons_append]
    simp only [lead, if_true]
    rw [ih f T (by omega), Nat.add_sub_add_right]
    omega
theorem lead_dodL (v : Int) (S : List Int) : lead 4 (dodL v ++ S) = ones v := by
  have ho := ones_le v
  unfold dodL
  generalize Bs.low (v % 18446744073709551616) (size (ones v)) = M
  generalize ones v = o at ho
  rw [List.append_assoc, List.append_assoc, lead_ones o 4 _ ho]
  by_cases c : o < 4
  · rw [if_pos c, List.cons_append]
    obtain ⟨f, hf⟩ : ∃ f, 4 - o = f + 1 := ⟨3 - o, by omega⟩
    rw [hf]
    simp only [lead, show ¬ ((0 : Int) = 1) from by decide, if_false]
    rfl
  · rw [show 4 - o = 0 from by omega]
    rfl
theorem sgn_low (v : Int) (hv : -9223372036854775808 ≤ v ∧ v < 9223372036854775808) : sgn (Bs.low (v % 18446744073709551616) (size (ones v))) = v := by
  unfold sgn
  rw [Bs.low_length, Bs.number_low]
  unfold ones
  split
  · subst v; decide
  split
  · show (if v % 18446744073709551616 % 128 < 64 then v % 18446744073709551616 % 128 else v % 18446744073709551616 % 128 - 128) = v
    split <;> omega
  split
  · show (if v % 18446744073709551616 % 512 < 256 then v % 18446744073709551616 % 512 else v % 18446744073709551616 % 512 - 512) = v
    split <;> omega
  split
  · show (if v % 18446744073709551616 % 4096 < 2048 then v % 18446744073709551616 % 4096 else v % 18446744073709551616 % 4096 - 4096) = v
    split <;> omega
  · show (if v % 18446744073709551616 % 18446744073709551616 < 9223372036854775808 then v % 18446744073709551616 % 18446744073709551616 else v % 18446744073709551616 % 18446744073709551616 - 18446744073709551616) = v
    split <;> omega
theorem dodL_body (v : Int) (S : List Int) : ((dodL v ++ S).drop (min (ones v + 1) 4)).take (size (ones v)) = Bs.low (v % 18446744073709551616) (size (ones v)) := by
  have ho := ones_le v
  unfold dodL
  have hl : (Bs.low (v % 18446744073709551616) (size (ones v))).length = size (ones v) := Bs.low_length _ _
  generalize Bs.low (v % 18446744073709551616) (size (ones v)) = M at hl
  generalize ones v = o at ho hl
  have hh : (List.replicate o (1 : Int) ++ (if o < 4 then [0] else [])).length = min (o + 1) 4 := by
    rw [List.length_append, List.length_replicate]
    split
    · rw [List.length_singleton]; omega
    · rw [List.length_nil]; omega
  generalize List.replicate o (1 : Int) ++ (if o < 4 then [0] else []) = H at hh
  rw [List.append_assoc, ← hh, List.drop_left, ← hl, List.take_left]
theorem gspec_dodL (v : Int) (hv : -9223372036854775808 ≤ v ∧ v < 9223372036854775808) (S : List Int) : gspec (dodL v ++ S) = (v, ((dodL v).length : Int), 0) := by
  unfold gspec
  rw [lead_dodL, dodL_body, sgn_low v hv, dodL_length, if_neg (by rw [List.length_append, dodL_length]; omega), if_pos rfl]
end Go.Proofs.YtiahbcaoikoogaaDoor.PDod
end
section
namespace Go.Proofs.YtiahbcaoikoogaaDoor.PKinds
open Go Go.RowKit Go.Proofs.YtiahbcaoikoogaaDoor Go.Proofs.YtiahbcaoikoogaaDoor.All Go.Proofs.YtiahbcaoikoogaaDoorW.PrintWords Go.Proofs.YtiahbcaoikoogaaDoorW.PrintLast
set_option linter.unusedVariables false
set_option linter.unusedSimpArgs false
theorem wr_range (x : Int) : -9223372036854775808 ≤ wrap64 x ∧ wrap64 x < 9223372036854775808 := by unfold wrap64; omega
theorem dt_back (t d T : Int) (hT : -9223372036854775808 ≤ T ∧ T < 9223372036854775808) : wrap64 (wrap64 (t + d) + dt t d T) = T := by
  unfold dt wrap64
  omega
theorem dv_back (v e V : Int) (hV : 0 ≤ V ∧ V < 18446744073709551616) : IntKind.u64.wrap (IntKind.u64.wrap (v + e) + IntKind.u64.wrap (dv v e V)) = V := by
  unfold dv
  simp only [Ib.wrap_u64]
  unfold wrap64
  omega
theorem i64_back (T : Int) (hT : -9223372036854775808 ≤ T ∧ T < 9223372036854775808) : wrap64 (IntKind.u64.wrap T % 2 ^ 64) = T := by
  rw [PDod.pow64, Ib.wrap_u64]
  unfold wrap64
  omega
theorem u64_back (V : Int) (hV : 0 ≤ V ∧ V < 18446744073709551616) : V % 2 ^ 64 = V := by
  rw [PDod.pow64]
  omega
theorem dodL_pos (v : Int) : 1 ≤ (PDod.dodL v).length := by
  rw [PDod.dodL_length]
  omega
theorem two64 (A B S : List Int) (hA : A.length = 64) (hB : B.length = 64) : (A ++ B ++ S).take 64 = A ∧ ((A ++ B ++ S).drop 64).take 64 = B ∧ 128 ≤ (A ++ B ++ S).length := by
  refine ⟨?_, ?_, ?_⟩
  · rw [List.append_assoc, ← hA, List.take_left]
  · rw [List.append_assoc]
    conv => lhs; arg 2; rw [← hA]
    rw [List.drop_left, ← hB, List.take_left]
  · rw [List.length_append, List.length_append]; omega
theorem fin_yes (kind n t d v e xp : Int) (xl xn : Nat) (T m : Int) (W : Int × Int × Int × Int × Int × Int) (h : W.2.2.2.2.2 = 0) (hT : ¬ T ≤ t) :
    fin kind n t d v e xp xl xn T m W = (T, W.1, aft kind n t d v e xp xl xn T W.1 W.2.1 W.2.2.1 W.2.2.2.1, wrap64 (m + W.2.2.2.2.1), 0) := by
  unfold fin
  rw [if_neg (fun c => c h), if_neg hT]
theorem len_sum (A B : List Int) (h : A.length + B.length ≤ 1000) : wrap64 ((A.length : Int) + (B.length : Int)) = ((A ++ B).length : Int) := by
  rw [List.length_append, PBits.w64 _ (by omega)]
  omega
theorem kg_own (kind n t d v e xp : Int) (xl xn : Nat) (T V : Int) (hn : 0 ≤ n) (hT : -9223372036854775808 ≤ T ∧ T < 9223372036854775808) (hV : 0 ≤ V ∧ V < 18446744073709551616) (hp : 0 ≤ xp ∧ xp < 18446744073709551616) (hx : xl + xn ≤ 64)
    (h : (kp kind n t d v e xp xl xn T V).2.2 = 0) (S : List Int) :
    kg kind n t d v e xp xl xn ((kp kind n t d v e xp xl xn T V).1 ++ S) = (T, V, (kp kind n t d v e xp xl xn T V).2.1, ((kp kind n t d v e xp xl xn T V).1.length : Int), 0) ∧ 2 ≤ (kp kind n t d v e xp xl xn T V).1.length := by
  unfold kp at h ⊢
  unfold kg
  by_cases c1 : ¬ (kind = 1 ∨ kind = 2)
  · rw [if_pos c1] at h
    exact absurd h (by decide)
  rw [if_neg c1] at h ⊢
  rw [if_neg c1]
  by_cases c2 : n = 0
  · rw [if_pos c2, if_pos c2]
    obtain ⟨q1, q2, q3⟩ := two64 (Bs.low (IntKind.u64.wrap T) 64) (Bs.low V 64) S (Bs.low_length _ _) (Bs.low_length _ _)
    have hl : (Bs.low (IntKind.u64.wrap T) 64 ++ Bs.low V 64).length = 128 := by rw [List.length_append, Bs.low_length, Bs.low_length]
    show (if (Bs.low (IntKind.u64.wrap T) 64 ++ Bs.low V 64 ++ S).length < 128 then _ else _) = (T, V, _, ((Bs.low (IntKind.u64.wrap T) 64 ++ Bs.low V 64).length : Int), 0) ∧ 2 ≤ (Bs.low (IntKind.u64.wrap T) 64 ++ Bs.low V 64).length
    rw [if_neg (Nat.not_lt_of_le q3), q1, q2, Bs.number_low, Bs.number_low, i64_back T hT, u64_back V hV, hl]
    exact ⟨rfl, by decide⟩
  rw [if_neg c2] at h ⊢
  rw [if_neg c2]
  by_cases c3 : T ≤ t
  · rw [if_pos c3] at h
    exact absurd h (by decide)
  rw [if_neg c3] at h ⊢
  have g1 := PDod.gspec_dodL (dt t d T) (by unfold dt; exact wr_range _)
  have l1 := dodL_len (dt t d T)
  have p1 := dodL_pos (dt t d T)
  have b1 := dt_back t d T hT
  generalize hA : PDod.dodL (dt t d T) = A at *
  by_cases c4 : kind = 2
  · rw [if_pos c4] at h ⊢
    have g2 := PDod.gspec_dodL (dv v e V) (by unfold dv; exact wr_range _) S
    have l2 := dodL_len (dv v e V)
    have p2 := dodL_pos (dv v e V)
    have b2 := dv_back v e V hV
    generalize PDod.dodL (dv v e V) = B at *
    have g1 := g1 (B ++ S)
    rw [← List.append_assoc] at g1
    have hs := len_sum A B (by omega)
    show (if ¬ (PDod.gspec (A ++ B ++ S)).2.2 = 0 then _ else _) = _ ∧ 2 ≤ (A ++ B).length
    rw [g1]
    refine ⟨?_, by rw [List.length_append]; omega⟩
    rw [if_neg (fun c => c rfl)]
    show fin kind n t d v e xp xl xn (wrap64 (wrap64 (t + d) + dt t d T)) (A.length : Int) (kv kind v e xp xl xn ((A ++ B ++ S).drop (A.length : Int).toNat)) = _
    rw [Int.toNat_natCast, List.append_assoc, List.drop_left, b1]
    unfold kv
    rw [if_pos c4, g2, fin_yes _ _ _ _ _ _ _ _ _ _ _ _ rfl c3]
    show (T, IntKind.u64.wrap (IntKind.u64.wrap (v + e) + IntKind.u64.wrap (dv v e V)), aft kind n t d v e xp xl xn T (IntKind.u64.wrap (IntKind.u64.wrap (v + e) + IntKind.u64.wrap (dv v e V))) 0 0 0, wrap64 ((A.length : Int) + (B.length : Int)), 0) = _
    rw [b2, hs]
  · rw [if_neg c4] at h ⊢
    have hr := PXor.xor_range V xp hV hp
    have hc := PXor.cb_short xl xn (dx V xp) hx hr.1 hr.2
    have g2 := PXor.xg_own xp V hp hV xl xn hx (d := dx V xp) rfl S
    generalize PXor.cb xl xn (dx V xp) = B at *
    have g1 := g1 (B ++ S)
    rw [← List.append_assoc] at g1
    have hs := len_sum A B (by omega)
    show (if ¬ (PDod.gspec (A ++ B ++ S)).2.2 = 0 then _ else _) = _ ∧ 2 ≤ (A ++ B).length
    rw [g1]
    refine ⟨?_, by rw [List.length_append]; omega⟩
    rw [if_neg (fun c => c rfl)]
    show fin kind n t d v e xp xl xn (wrap64 (wrap64 (t + d) + dt t d T)) (A.length : Int) (kv kind v e xp xl xn ((A ++ B ++ S).drop (A.length : Int).toNat)) = _
    rw [Int.toNat_natCast, List.append_assoc, List.drop_left, b1]
    unfold kv
    rw [if_neg c4, g2, fin_yes _ _ _ _ _ _ _ _ _ _ _ _ rfl c3]
    show (T, V, aft kind n t d v e xp xl xn T V V (PXor.cl xl xn (dx V xp) : Int) (PXor.cn xl xn (dx V xp) : Int), wrap64 ((A.length : Int) + (B.length : Int)), 0) = _
    rw [hs]
theorem kp_bits (kind n t d v e xp : Int) (xl xn : Nat) (T V : Int) : Bs.Bits (kp kind n t d v e xp xl xn T V).1 := by
  unfold kp
  split
  · exact Bs.Bits.nil
  · split
    · exact (Bs.low_bits _ _).append (Bs.low_bits _ _)
    · split
      · exact Bs.Bits.nil
      · split
        · exact (PDod.dodL_bits _).append (PDod.dodL_bits _)
        · exact (PDod.dodL_bits _).append (PXor.cb_bits _ _ _)
theorem kp_len (kind n t d v e xp : Int) (xl xn : Nat) (T V : Int) (hV : 0 ≤ V ∧ V < 18446744073709551616) (hp : 0 ≤ xp ∧ xp < 18446744073709551616) (hx : xl + xn ≤ 64) : (kp kind n t d v e xp xl xn T V).1.length ≤ 1000 := by
  have h1 := dodL_len (dt t d T)
  have h2 := dodL_len (dv v e V)
  have hr := PXor.xor_range V xp hV hp
  have h3 := (PXor.cb_short xl xn (dx V xp) hx hr.1 hr.2).2
  unfold kp
  split
  · decide
  · split
    · rw [List.length_append, Bs.low_length, Bs.low_length]; decide
    · split
      · decide
      · split
        · rw [List.length_append]; omega
        · rw [List.length_append]; omega
end Go.Proofs.YtiahbcaoikoogaaDoor.PKinds
end
section
namespace Go.Proofs.YtiahbcaoikoogaaDoor.PRising
open Go Go.RowKit Go.Proofs.YtiahbcaoikoogaaDoor Go.Proofs.YtiahbcaoikoogaaDoor.All Go.Proofs.YtiahbcaoikoogaaDoorW.PrintWords Go.Proofs.YtiahbcaoikoogaaDoorW.PrintLast
set_option linter.unusedVariables false
set_option linter.unusedSimpArgs false
def Rg (x : S59) : Prop := (-9223372036854775808 ≤ x.f0 ∧ x.f0 < 9223372036854775808) ∧ (0 ≤ x.f1 ∧ x.f1 < 18446744073709551616)
theorem rdT (M : List S59) (i : Nat) (h : i < M.length) : rd_T59 M (i : Int) = M[i] := by
  unfold rd_T59
  rw [Int.toNat_natCast, List.getD_eq_getElem?_getD, List.getElem?_eq_getElem h]
  rfl
structure Asc (M : List S59) : Prop where
  rng : ∀ x ∈ M, Rg x
  inc : ∀ (i j : Nat) (hi : i < M.length) (hj : j < M.length), j = i + 1 → M[i].f0 < M[j].f0
theorem Asc.nil : Asc [] := ⟨fun x h => by simp at h, fun i j hi _ _ => absurd hi (Nat.not_lt_zero i)⟩
theorem Asc.snoc {M : List S59} (h : Asc M) {x : S59} (hx : Rg x) (hl : ∀ (i : Nat) (hi : i < M.length), i + 1 = M.length → M[i].f0 < x.f0) : Asc (M ++ [x]) := by
  refine ⟨fun y hy => ?_, fun i j hi hj e => ?_⟩
  · rcases List.mem_append.mp hy with hy | hy
    · exact h.rng y hy
    · rw [List.mem_singleton.mp hy]; exact hx
  · have hi' : i < M.length + 1 := by rw [List.length_append] at hi; exact hi
    have hj' : j < M.length + 1 := by rw [List.length_append] at hj; exact hj
    have him : i < M.length := by omega
    rw [List.getElem_append_left him]
    by_cases c : j < M.length
    · rw [List.getElem_append_left c]
      exact h.inc i j him c e
    · have ej : j = M.length := by omega
      subst ej
      rw [List.getElem_append_right (Nat.le_refl _)]
      have h0 := hl i him (by omega)
      simpa using h0
end Go.Proofs.YtiahbcaoikoogaaDoor.PRising
end
section
namespace Go.Proofs.YtiahbcaoikoogaaDoor.PChunk
open Go Go.RowKit Go.Proofs.YtiahbcaoikoogaaDoor Go.Proofs.YtiahbcaoikoogaaDoor.All Go.Proofs.YtiahbcaoikoogaaDoorW.PrintWords Go.Proofs.YtiahbcaoikoogaaDoorW.PrintLast Go.Proofs.YtiahbcaoikoogaaDoor.PKinds Go.Proofs.YtiahbcaoikoogaaDoor.PRising
set_option linter.unusedVariables false
set_option linter.unusedSimpArgs false
def enc (kind : Int) : List S59 → S8 → List Int × Int
  | [], _ => ([], 0)
  | x :: r, (n, t, d, v, e, xp, xl, xn) =>
    if (kp kind n t d v e xp xl.toNat xn.toNat x.f0 x.f1).2.2 = 0 then
      (if (enc kind r (kp kind n t d v e xp xl.toNat xn.toNat x.f0 x.f1).2.1).2 = 0 then ((kp kind n t d v e xp xl.toNat xn.toNat x.f0 x.f1).1 ++ (enc kind r (kp kind n t d v e xp xl.toNat xn.toNat x.f0 x.f1).2.1).1, 0)
       else ([], (enc kind r (kp kind n t d v e xp xl.toNat xn.toNat x.f0 x.f1).2.1).2))
    else ([], (kp kind n t d v e xp xl.toNat xn.toNat x.f0 x.f1).2.2)
theorem enc_cons (kind : Int) (x : S59) (r : List S59) (n t d v e xp : Int) (xl xn : Nat) : enc kind (x :: r) (n, t, d, v, e, xp, (xl : Int), (xn : Int)) =
    if (kp kind n t d v e xp xl xn x.f0 x.f1).2.2 = 0 then
      (if (enc kind r (kp kind n t d v e xp xl xn x.f0 x.f1).2.1).2 = 0 then ((kp kind n t d v e xp xl xn x.f0 x.f1).1 ++ (enc kind r (kp kind n t d v e xp xl xn x.f0 x.f1).2.1).1, 0)
       else ([], (enc kind r (kp kind n t d v e xp xl xn x.f0 x.f1).2.1).2))
    else ([], (kp kind n t d v e xp xl xn x.f0 x.f1).2.2) := rfl
theorem enc_bits (kind : Int) : ∀ (l : List S59) (s : S8), Bs.Bits (enc kind l s).1 := by
  intro l
  induction l with
  | nil => intro s; exact Bs.Bits.nil
  | cons x r ih =>
    intro s
    obtain ⟨n, t, d, v, e, xp, xl, xn⟩ := s
    have h1 := kp_bits kind n t d v e xp xl.toNat xn.toNat x.f0 x.f1
    have h2 := ih (kp kind n t d v e xp xl.toNat xn.toNat x.f0 x.f1).2.1
    unfold enc
    split
    · split
      · exact h1.append h2
      · exact Bs.Bits.nil
    · exact Bs.Bits.nil
def res (H : List Int) (E : List Int × Int) : List Int × Option Int := if E.2 = 0 then (Bs.pack (H ++ E.1), none) else ([], some E.2)
theorem res_nil (H : List Int) : res H ([], 0) = (Bs.pack H, none) := by
  unfold res
  rw [if_pos rfl, List.append_nil]
theorem res_cons (H b : List Int) (s : S8) (E F : List Int × Int) (h : E = if F.2 = 0 then (b ++ F.1, 0) else ([], F.2)) : res H E = res (H ++ b) F := by
  subst h
  unfold res
  by_cases c : F.2 = 0
  · rw [if_pos c, if_pos c, if_pos rfl, List.append_assoc]
  · rw [if_neg c, if_neg c, if_neg c]
theorem Encode_l0 (kind : Int) (l : List S59) (hl : ∀ x ∈ l, Rg x) (hn : l.length ≤ 65535) :
    ∀ (r i : Nat) (O P : List Int) (n t d v e xp : Int) (xl xn : Nat), i + r = l.length → Bs.Bits O → Bs.Bits P → O.length + P.length ≤ 1000 * i → Ok (i : Int) (n, t, d, v, e, xp, (xl : Int), (xn : Int)) →
      Ev (fun k => chunk_Encode.l0 k kind l (l.length : Int) (i : Int) (Bs.pack O) (O.length : Int) (Bs.pack P) (P.length : Int) n t d v e xp (xl : Int) (xn : Int)) (res (O ++ P) (enc kind (l.drop i) (n, t, d, v, e, xp, (xl : Int), (xn : Int)))) := by
  intro r
  induction r with
  | zero =>
    intro i O P n t d v e xp xl xn hi hO hP hOP hok
    have hnl : ¬ (i : Int) < (l.length : Int) := by omega
    have hj := PBits.Join_is O P hO hP (by omega)
    rw [List.drop_of_length_le (by omega)]
    show Ev _ (res (O ++ P) ([], 0))
    rw [res_nil]
    exact Ev.step (fun k => by rw [chunk_Encode.l0, if_neg hnl]) (Ev.bind hj (Ev.now _))
  | succ r ih =>
    intro i O P n t d v e xp xl xn hi hO hP hOP hok
    have hil : i < l.length := by omega
    have hlt : (i : Int) < (l.length : Int) := by omega
    have hrd := rdT l i hil
    have hr := hl l[i] (List.getElem_mem hil)
    have hdrop : l.drop i = l[i] :: l.drop (i + 1) := List.drop_eq_getElem_cons hil
    rw [hdrop]
    generalize l[i] = x at hrd hr
    obtain ⟨xl', xn', el, en, hx⟩ := hok.w
    have hx : xl + xn ≤ 64 := by
      have e1 : (xl : Int) = (xl' : Int) := el
      have e2 : (xn : Int) = (xn' : Int) := en
      omega
    have hp := hok.p0
    have hn0 : 0 ≤ n := hok.n0
    have hn1 : n ≤ (i : Int) := hok.n1
    have g1 := Put_is kind n t d v e xp xl xn x.f0 x.f1 hn0 hr.2 hp hx
    have kb := kp_bits kind n t d v e xp xl xn x.f0 x.f1
    have kl := kp_len kind n t d v e xp xl xn x.f0 x.f1 hr.2 hp hx
    have ko := kp_ok (i : Int) (by omega) kind n t d v e xp xl xn x.f0 x.f1 ⟨hn0, hn1⟩ hr.2 hp hx
    rw [enc_cons]
    generalize kp kind n t d v e xp xl xn x.f0 x.f1 = K at *
    obtain ⟨b, ⟨n', t', d', v', e', xp', al, an⟩, c⟩ := K
    by_cases c0 : c = 0
    · have ko' := ko c0
      obtain ⟨yl, yn, e1, e2, hy⟩ := ko'.w
      have e1 : al = (yl : Int) := e1
      have e2 : an = (yn : Int) := e2
      subst e1 e2 c0
      have g1 : Ev (fun k => kinds_Put.f k kind n t d v e xp (xl : Int) (xn : Int) x.f0 x.f1) (Bs.pack b, (b.length : Int), n', t', d', v', e', xp', (yl : Int), (yn : Int), none) := g1
      have kl : b.length ≤ 1000 := kl
      have hok2 : Ok ((i + 1 : Nat) : Int) (n', t', d', v', e', xp', (yl : Int), (yn : Int)) := by
        rw [show ((i + 1 : Nat) : Int) = (i : Int) + 1 from by omega]
        exact ko'
      have hPb : Bs.Bits (P ++ b) := hP.append kb
      have hl1 : (P ++ b).length = P.length + b.length := List.length_append
      have hl2 : (O ++ (P ++ b)).length = O.length + (P.length + b.length) := by rw [List.length_append, hl1]
      have hj1 := PBits.Join_is P b hP kb (by omega)
      have hj2 := PBits.Join_is O (P ++ b) hO hPb (by omega)
      rw [← List.length_append] at hj1 hj2
      have ih1 := ih (i + 1) (O ++ (P ++ b)) [] n' t' d' v' e' xp' yl yn (by omega) (hO.append hPb) Bs.Bits.nil (by rw [hl2, List.length_nil]; omega) hok2
      have ih2 := ih (i + 1) O (P ++ b) n' t' d' v' e' xp' yl yn (by omega) hO hPb (by rw [hl1]; omega) hok2
      rw [List.append_nil, Bs.pack_nil, List.length_nil] at ih1
      have wi : wrap64 ((i : Int) + 1) = ((i + 1 : Nat) : Int) := by rw [PBits.w64 _ (by omega)]; omega
      rw [res_cons (O ++ P) b (n', t', d', v', e', xp', (yl : Int), (yn : Int)) _ (enc kind (l.drop (i + 1)) (n', t', d', v', e', xp', (yl : Int), (yn : Int))) (if_pos rfl), List.append_assoc]
      refine Ev.step (fun k => by rw [chunk_Encode.l0, if_pos hlt, if_pos (Int.natCast_nonneg i), if_pos hlt, hrd, wi]) (Ev.bind g1 ?_)
      refine Ev.congr (fun k => if_pos (show (none : Option Int).isNone = true from rfl)) (Ev.bind hj1 ?_)
      by_cases c1 : ((P ++ b).length : Int) > 16384
      · exact Ev.congr (fun k => if_pos c1) (Ev.bind hj2 ih1)
      · exact Ev.congr (fun k => if_neg c1) ih2
    · have g1 : Ev (fun k => kinds_Put.f k kind n t d v e xp (xl : Int) (xn : Int) x.f0 x.f1) (Bs.pack b, (b.length : Int), n', t', d', v', e', xp', al, an, some c) := by
        have h := g1
        unfold pimp at h
        rw [if_neg c0] at h
        exact h
      have wi : wrap64 ((i : Int) + 1) = ((i + 1 : Nat) : Int) := by rw [PBits.w64 _ (by omega)]; omega
      have he : res (O ++ P) (if c = 0 then (if (enc kind (l.drop (i + 1)) (n', t', d', v', e', xp', al, an)).2 = 0 then (b ++ (enc kind (l.drop (i + 1)) (n', t', d', v', e', xp', al, an)).1, 0) else ([], (enc kind (l.drop (i + 1)) (n', t', d', v', e', xp', al, an)).2)) else ([], c)) = ([], some c) := by
        rw [if_neg c0]
        unfold res
        rw [if_neg c0]
      show Ev _ (res (O ++ P) (if c = 0 then (if (enc kind (l.drop (i + 1)) (n', t', d', v', e', xp', al, an)).2 = 0 then (b ++ (enc kind (l.drop (i + 1)) (n', t', d', v', e', xp', al, an)).1, 0) else ([], (enc kind (l.drop (i + 1)) (n', t', d', v', e', xp', al, an)).2)) else ([], c)))
      rw [he]
      refine Ev.step (fun k => by rw [chunk_Encode.l0, if_pos hlt, if_pos (Int.natCast_nonneg i), if_pos hlt, hrd, wi]) (Ev.bind g1 ?_)
      exact Ev.congr (fun k => if_neg Bool.false_ne_true) (Ev.now _)
theorem Encode_is (kind : Int) (l : List S59) (hl : ∀ x ∈ l, Rg x) (h0 : 1 ≤ l.length) (hn : l.length ≤ 65535) : Ev (fun k => chunk_Encode.f k kind l) (res [] (enc kind l z8)) := by
  unfold chunk_Encode.f
  have c1 : ¬ (l.length : Int) < 1 := by omega
  have c2 : ¬ (l.length : Int) > 65535 := by omega
  simp only [if_neg c1]
  rw [decide_eq_false c2]
  have h := Encode_l0 kind l hl hn l.length 0 [] [] 0 0 0 0 0 0 0 0 (by omega) Bs.Bits.nil Bs.Bits.nil (Nat.zero_le _) (ok_zero 0 (Int.le_refl _))
  rw [Bs.pack_nil, List.length_nil, List.append_nil, List.drop_zero] at h
  exact Ev.step (fun k => by rw [chunk_Encode.j0, if_neg Bool.false_ne_true]; rfl) h
theorem Encode_no (kind : Int) : Ev (fun k => chunk_Encode.f k kind []) ([], some 1) := by
  unfold chunk_Encode.f
  refine Ev.congr (fun k => if_pos (by decide)) ?_
  exact Ev.step (fun k => by rw [chunk_Encode.j0, if_pos rfl]) (Ev.now _)
end Go.Proofs.YtiahbcaoikoogaaDoor.PChunk
end
