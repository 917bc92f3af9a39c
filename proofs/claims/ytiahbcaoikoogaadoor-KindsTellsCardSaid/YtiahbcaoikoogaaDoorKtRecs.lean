-- copied by a program of the session
import Derived.Test.YtiahbcaoikoogaaDoorKtAllx39
import Derived.Test.YtiahbcaoikoogaaDoorKtPKindsFit
import Derived.Deep.SlicePairs
import Derived.SizedLaws
section
namespace Go.Proofs.YtiahbcaoikoogaaDoor.Pure
open Go Go.RowKit Go.Proofs.YtiahbcaoikoogaaDoor Go.Proofs.YtiahbcaoikoogaaDoor.All Go.Proofs.YtiahbcaoikoogaaDoorW.PrintWords Go.Proofs.YtiahbcaoikoogaaDoorW.PrintLast Go.Proofs.YtiahbcaoikoogaaDoor.PKinds
set_option linter.unusedVariables false
set_option linter.unusedSimpArgs false
theorem KindsTells_up : Ev (fun k => A2s.f k) true :=
 Ev.of A2s.mono (k := 300) (by decide +kernel)
theorem kno (c : Int) (h : c = 0 ∨ c = 2 ∨ c = 3 ∨ c = 4 ∨ c = 6) : codeNo (if c = 0 then none else some c) = c := by
 rcases h with rfl | rfl | rfl | rfl | rfl <;> decide
theorem aft_again (kind n t d v e xp xl xn T V ap al an : Int) : aft kind n t d v e xp xl xn T V (aft kind n t d v e xp xl xn T V ap al an).2.2.2.2.2.1 (aft kind n t d v e xp xl xn T V ap al an).2.2.2.2.2.2.1 (aft kind n t d v e xp xl xn T V ap al an).2.2.2.2.2.2.2 = aft kind n t d v e xp xl xn T V ap al an := by
 unfold aft
 by_cases c : kind = 1
 ·simp only [if_pos c]
  by_cases c' : n = 0
  ·simp only [if_pos c']
  ·simp only [if_neg c']
 ·simp only [if_neg c]
theorem kp_code (kind n t d v e xp : Int) (xl xn : Nat) (T V : Int) : (kp kind n t d v e xp xl xn T V).2.2 = 0 ∨ (kp kind n t d v e xp xl xn T V).2.2 = 4 ∨ (kp kind n t d v e xp xl xn T V).2.2 = 6 := by
 unfold kp
 split
 ·exact .inr (.inr rfl)
 ·split
  ·exact .inl rfl
  ·split
   ·exact .inr (.inl rfl)
   ·split
    ·exact .inl rfl
    ·exact .inl rfl
theorem kp_bits (kind n t d v e xp : Int) (xl xn : Nat) (T V : Int) : Bs.Bits (kp kind n t d v e xp xl xn T V).1 := by
 unfold kp
 split
 ·exact Bs.Bits.nil
 ·split
  ·exact (Bs.A39 _ _).append (Bs.A39 _ _)
  ·split
   ·exact Bs.Bits.nil
   ·split
    ·exact (PDod.dodL_bits _).append (PDod.dodL_bits _)
    ·exact (PDod.dodL_bits _).append (PXor.cb_bits _ _ _)
theorem kp_len (kind n t d v e xp : Int) (xl xn : Nat) (T V : Int) (hV : 0 ≤ V ∧ V < 18446744073709551616) (hp : 0 ≤ xp ∧ xp < 18446744073709551616) (hx : xl + xn ≤ 64) : (kp kind n t d v e xp xl xn T V).1.length ≤ 1000 := by
 have h1 := dodL_len (dt t d T)
 have h2 := dodL_len (dv v e V)
 have hr := PXor.A37 V xp hV hp
 have h3 := (PXor.cb_short xl xn (dx V xp) hx hr.1 hr.2).2
 unfold kp
 split
 ·decide
 ·split
  ·rw [List.length_append, Bs.A1f, Bs.A1f]; decide
  ·split
   ·decide
   ·split
    ·rw [List.length_append]; omega
    ·rw [List.length_append]; omega
theorem kp_aft (kind n t d v e xp : Int) (xl xn : Nat) (T V : Int) (h : (kp kind n t d v e xp xl xn T V).2.2 = 0) : ∃ ap al an, (kp kind n t d v e xp xl xn T V).2.1 = aft kind n t d v e xp xl xn T V ap al an := by
 unfold kp at h ⊢
 by_cases c1 : ¬ (kind = 1 ∨ kind = 2)
 ·rw [if_pos c1] at h
  exact absurd h (by decide)
 rw [if_neg c1] at h ⊢
 by_cases c2 : n = 0
 ·rw [if_pos c2]
  exact ⟨_, _, _, rfl⟩
 rw [if_neg c2] at h ⊢
 by_cases c3 : T ≤ t
 ·rw [if_pos c3] at h
  exact absurd h (by decide)
 rw [if_neg c3]
 by_cases c4 : kind = 2
 ·rw [if_pos c4]
  exact ⟨_, _, _, rfl⟩
 ·rw [if_neg c4]
  exact ⟨_, _, _, rfl⟩
theorem fin_code (kind n t d v e xp : Int) (xl xn : Nat) (T m : Int) (W : Int × Int × Int × Int × Int × Int) (hW : W.2.2.2.2.2 = 0 ∨ W.2.2.2.2.2 = 2 ∨ W.2.2.2.2.2 = 3) : (fin kind n t d v e xp xl xn T m W).2.2.2.2 = 0 ∨ (fin kind n t d v e xp xl xn T m W).2.2.2.2 = 2 ∨ (fin kind n t d v e xp xl xn T m W).2.2.2.2 = 3 ∨ (fin kind n t d v e xp xl xn T m W).2.2.2.2 = 4 := by
 unfold fin
 split
 ·rcases hW with h | h | h
  ·exact .inl h
  ·exact .inr (.inl h)
  ·exact .inr (.inr (.inl h))
 ·split
  ·exact .inr (.inr (.inr rfl))
  ·exact .inl rfl
theorem kbd_code (p : Int) (l n : Nat) (R : List Int) (h lead size : Nat) : (PXor.bd p l n R h lead size).2.2.2.2.2 = 0 ∨ (PXor.bd p l n R h lead size).2.2.2.2.2 = 2 ∨ (PXor.bd p l n R h lead size).2.2.2.2.2 = 3 := by
 unfold PXor.bd
 split
 ·exact .inr (.inr rfl)
 ·split
  ·exact .inr (.inl rfl)
  ·split
   ·exact .inl rfl
   ·exact .inr (.inr rfl)
theorem kxg_code (p : Int) (l n : Nat) (R : List Int) : (PXor.xg p l n R).2.2.2.2.2 = 0 ∨ (PXor.xg p l n R).2.2.2.2.2 = 2 ∨ (PXor.xg p l n R).2.2.2.2.2 = 3 := by
 unfold PXor.xg
 split
 ·exact .inr (.inl rfl)
 ·split
  ·exact .inl rfl
  ·split
   ·exact .inr (.inl rfl)
   ·split
    ·split
     ·exact .inr (.inl rfl)
     ·exact kbd_code ..
    ·exact kbd_code ..
theorem kv_code (kind v e xp : Int) (xl xn : Nat) (R : List Int) : (kv kind v e xp xl xn R).2.2.2.2.2 = 0 ∨ (kv kind v e xp xl xn R).2.2.2.2.2 = 2 ∨ (kv kind v e xp xl xn R).2.2.2.2.2 = 3 := by
 unfold kv
 split
 ·exact PDod.gspec_code R
 ·exact kxg_code xp xl xn R
theorem kg_code (kind n t d v e xp : Int) (xl xn : Nat) (R : List Int) : (PKinds.kg kind n t d v e xp xl xn R).2.2.2.2 = 0 ∨ (PKinds.kg kind n t d v e xp xl xn R).2.2.2.2 = 2 ∨ (PKinds.kg kind n t d v e xp xl xn R).2.2.2.2 = 3 ∨ (PKinds.kg kind n t d v e xp xl xn R).2.2.2.2 = 4 ∨ (PKinds.kg kind n t d v e xp xl xn R).2.2.2.2 = 6 := by
 unfold PKinds.kg
 split
 ·exact .inr (.inr (.inr (.inr rfl)))
 ·split
  ·split
   ·exact .inr (.inl rfl)
   ·exact .inl rfl
  ·split
   ·rcases PDod.gspec_code R with h | h | h
    ·exact .inl h
    ·exact .inr (.inl h)
    ·exact .inr (.inr (.inl h))
   ·rcases fin_code kind n t d v e xp xl xn (wrap64 (wrap64 (t + d) + (PDod.A34 R).1)) (PDod.A34 R).2.1 _ (kv_code kind v e xp xl xn (R.drop (PDod.A34 R).2.1.toNat)) with h | h | h | h
    ·exact .inl h
    ·exact .inr (.inl h)
    ·exact .inr (.inr (.inl h))
    ·exact .inr (.inr (.inr (.inl h)))
section
variable (kind : Int) (x1 : List S59) (x2 : List Int) (x3 : Int) (h1 : ∀ x ∈ x1, (-9223372036854775808 ≤ x.f0 ∧ x.f0 < 9223372036854775808) ∧ (0 ≤ x.f1 ∧ x.f1 < 18446744073709551616))
include h1
theorem KindsTells_l0 (hend : ∀ (n t d v e xp : Int) (xl xn : Nat), Ok 60 (n, t, d, v, e, xp, (xl : Int), (xn : Int)) → Ev (fun k => (A27.f k x2 x3).bind fun t866 => (A0a.l1 k kind x2 x3 true t866 0 n t d v e xp (xl : Int) (xn : Int) n t d v e xp (xl : Int) (xn : Int))) true) :
    ∀ (r i : Nat) (n t d v e xp : Int) (xl xn : Nat), i + r = x1.length → x1.length ≤ 60 → Ok (i : Int) (n, t, d, v, e, xp, (xl : Int), (xn : Int)) →
      Ev (fun k => A0a.l0 k kind x1 x2 x3 true (i : Int) n t d v e xp (xl : Int) (xn : Int) n t d v e xp (xl : Int) (xn : Int)) true := by
  intro r
  induction r with
  | zero =>
    intro i n t d v e xp xl xn hi hl hok
    have hnl : ¬ (i : Int) < (x1.length : Int) := by omega
    have hok' : Ok 60 (n, t, d, v, e, xp, (xl : Int), (xn : Int)) := ⟨hok.n0, Int.le_trans hok.n1 (by omega), hok.p0, hok.w⟩
    exact Ev.step (fun k => by rw [A0a.l0, if_neg hnl]) (hend n t d v e xp xl xn hok')
  | succ r ih =>
    intro i n t d v e xp xl xn hi hl hok
    have hil : i < x1.length := by omega
    have hlt : (i : Int) < (x1.length : Int) := by omega
    have hrd : A1z x1 (i : Int) = x1[i] := by
      unfold A1z
      rw [Int.toNat_natCast, List.getD_eq_getElem?_getD, List.getElem?_eq_getElem hil]
      rfl
    have hv := h1 x1[i] (List.getElem_mem hil)
    generalize x1[i] = x at hrd hv
    obtain ⟨xl', xn', el, en, hx⟩ := hok.w
    have hx : xl + xn ≤ 64 := by
      have e1 : (xl : Int) = (xl' : Int) := el
      have e2 : (xn : Int) = (xn' : Int) := en
      omega
    have hp := hok.p0
    have hn0 : 0 ≤ n := hok.n0
    have hn1 : n ≤ (i : Int) := hok.n1
    have g1 := Put_is kind n t d v e xp xl xn x.f0 x.f1 hn0 hv.2 hp hx
    have g2 := RPut_is kind n t d v e xp xl xn x.f0 x.f1 hn0 hv.2 hp hx
    have kc := kp_code kind n t d v e xp xl xn x.f0 x.f1
    have kb := kp_bits kind n t d v e xp xl xn x.f0 x.f1
    have kl := kp_len kind n t d v e xp xl xn x.f0 x.f1 hv.2 hp hx
    have ko := kp_ok (i : Int) (by omega) kind n t d v e xp xl xn x.f0 x.f1 ⟨hn0, hn1⟩ hv.2 hp hx
    have ka := kp_aft kind n t d v e xp xl xn x.f0 x.f1
    generalize kp kind n t d v e xp xl xn x.f0 x.f1 = K at *
    obtain ⟨b, ⟨n', t', d', v', e', xp', al, an⟩, c⟩ := K
    have hcode : A13.f (if c = 0 then none else some c) = some c := by
      unfold A13.f
      rw [kno c (by rcases kc with h | h | h
                    · exact .inl h
                    · exact .inr (.inr (.inr (.inl h)))
                    · exact .inr (.inr (.inr (.inr h))))]
    have hi' := PBits.Is_is b kb (Nat.lt_of_le_of_lt kl (by decide))
    have wi : wrap64 ((i : Int) + 1) = ((i + 1 : Nat) : Int) := by rw [PBits.w64 _ (by omega)]; omega
    refine Ev.step (fun k => by rw [A0a.l0, if_pos hlt, if_pos (Int.natCast_nonneg i), hrd]) (Ev.bind g1 ?_)
    refine Ev.bind g2 ?_
    simp only [pimp, pref, hcode, Option.bind_some, if_true]
    refine Ev.bind hi' ?_
    simp only [show ¬ ((1 : Int) = 0) from by decide, if_false, A1s.f, A3g.f, Option.bind_some, beq_self_eq_true, Bool.not_true, Bool.or_self]
    by_cases c0 : c = 0
    · obtain ⟨ap, bl, bn, hA⟩ := ka c0
      have ko' := ko c0
      obtain ⟨yl, yn, e1, e2, hy⟩ := ko'.w
      have e1 : al = (yl : Int) := e1
      have e2 : an = (yn : Int) := e2
      subst e1 e2
      have ag := After_is kind n t d v e xp xl xn x.f0 x.f1 xp' (yl : Int) (yn : Int) hn0
      have hag : aft kind n t d v e xp xl xn x.f0 x.f1 xp' (yl : Int) (yn : Int) = (n', t', d', v', e', xp', (yl : Int), (yn : Int)) := by
        have := aft_again kind n t d v e xp xl xn x.f0 x.f1 ap bl bn
        rw [← hA] at this
        exact this
      rw [hag] at ag
      have hnext := ih (i + 1) n' t' d' v' e' xp' yl yn (by omega) hl (by
        have h := ko'
        rw [show ((i + 1 : Nat) : Int) = (i : Int) + 1 from by omega]
        exact h)
      refine Ev.step (fun k => by rw [A0a.j2, if_neg Bool.false_ne_true, if_pos c0, if_pos (Int.natCast_nonneg i), if_pos hlt, hrd]) (Ev.bind ag ?_)
      simp only [beq_self_eq_true, Bool.not_true, Bool.or_self, Bool.false_eq_true, if_false, wi]
      exact hnext
    · have hnext := ih (i + 1) n t d v e xp xl xn (by omega) hl ⟨hok.n0, Int.le_trans hok.n1 (by omega), hok.p0, hok.w⟩
      refine Ev.step (fun k => by rw [A0a.j2, if_neg Bool.false_ne_true, if_neg c0, wi]) ?_
      exact hnext
end
theorem KindsTells_l1 (kind : Int) (x2 : List Int) (h2 : Bs.Bytes x2) (n2 : x2.length ≤ 500) :
    ∀ (r i : Nat) (x3 : Int) (R : List Int) (n t d v e xp : Int) (xl xn : Nat), i + r = 60 → -9223372036854775808 ≤ x3 ∧ x3 < 9223372036854775808 → R = PDod.restL (Bs.flat x2) x3 → Ok (60 + (i : Int)) (n, t, d, v, e, xp, (xl : Int), (xn : Int)) →
      Ev (fun k => A0a.l1 k kind x2 x3 true R (i : Int) n t d v e xp (xl : Int) (xn : Int) n t d v e xp (xl : Int) (xn : Int)) true := by
  intro r
  induction r with
  | zero =>
    intro i x3 R n t d v e xp xl xn hi h3 hR hok
    have hnl : ¬ (i : Int) < 60 := by omega
    exact Ev.step (fun k => by rw [A0a.l1, if_neg hnl]) (Ev.now _)
  | succ r ih =>
    intro i x3 R n t d v e xp xl xn hi h3 hR hok
    have hlt : (i : Int) < 60 := by omega
    obtain ⟨xl', xn', el, en, hx⟩ := hok.w
    have hx : xl + xn ≤ 64 := by
      have e1 : (xl : Int) = (xl' : Int) := el
      have e2 : (xn : Int) = (xn' : Int) := en
      omega
    have hp := hok.p0
    have hn0 : 0 ≤ n := hok.n0
    have hn1 : n ≤ 60 + (i : Int) := hok.n1
    have hfl := Bs.A3b x2
    have hL : (Bs.flat x2).length < 70368744177664 := by omega
    have hRb := PDod.restL_bits (Bs.flat_bits x2) x3
    have hRl := PDod.restL_length (Bs.flat x2) x3
    have g1 := PKinds.Get_is kind n t d v e xp xl xn hn0 hp hx x2 h2 (by omega) x3 h3
    have hadd := restL_add (Bs.flat x2) hL x3
    rw [← hR] at g1 hRb hRl hadd
    have g2 := PKinds.RGet_is kind n t d v e xp xl xn hn0 hp hx R hRb (by omega)
    have kc := kg_code kind n t d v e xp xl xn R
    have ko := kg_ok (60 + (i : Int)) (by omega) kind n t d v e xp xl xn ⟨hn0, hn1⟩ hp hx R hRb (by omega)
    generalize PKinds.kg kind n t d v e xp xl xn R = K at *
    obtain ⟨T, V, ⟨n', t', d', v', e', xp', al, an⟩, len, c⟩ := K
    have hcode : A13.f (if c = 0 then none else some c) = some c := by
      unfold A13.f
      rw [kno c kc]
    have wi : wrap64 ((i : Int) + 1) = ((i + 1 : Nat) : Int) := by rw [PBits.w64 _ (by omega)]; omega
    refine Ev.step (fun k => by rw [A0a.l1, if_pos hlt]) (Ev.bind g1 ?_)
    refine Ev.bind g2 ?_
    simp only [gimp8, gref, hcode, Option.bind_some, if_true, A1s.f, A3g.f, beq_self_eq_true, bne_self_eq_false, Bool.not_true, Bool.or_self, Bool.false_eq_true, if_false]
    by_cases c0 : c = 0
    · obtain ⟨ko', m, hm1, hm2, hm3⟩ := ko c0
      have hm1 : len = (m : Int) := hm1
      subst hm1
      obtain ⟨yl, yn, e1, e2, hy⟩ := ko'.w
      have e1 : al = (yl : Int) := e1
      have e2 : an = (yn : Int) := e2
      subst e1 e2
      have hr := hadd m hm2 hm3
      have hwr : -9223372036854775808 ≤ wrap64 (x3 + (m : Int)) ∧ wrap64 (x3 + (m : Int)) < 9223372036854775808 := by unfold wrap64; omega
      have hok2 : Ok (60 + ((i + 1 : Nat) : Int)) (n', t', d', v', e', xp', (yl : Int), (yn : Int)) := by
        rw [show 60 + ((i + 1 : Nat) : Int) = 60 + (i : Int) + 1 from by omega]
        exact ko'
      have hnext := ih (i + 1) (wrap64 (x3 + (m : Int))) (R.drop m) n' t' d' v' e' xp' yl yn (by omega) hwr hr.symm hok2
      refine Ev.step (fun k => by rw [A0a.j4, if_neg Bool.false_ne_true, if_pos c0, if_pos (Int.natCast_nonneg m), if_pos (Int.ofNat_le.mpr hm2), Int.toNat_natCast, wi]) ?_
      exact hnext
    · exact Ev.step (fun k => by rw [A0a.j4, if_neg Bool.false_ne_true, if_neg c0]) (Ev.now _)
theorem KindsTells : A0a.Pure := by
 intro kind x1 x2 x3 _ _ _ h1 _ _ h2 h3
 have h1 : ∀ x ∈ x1, (-9223372036854775808 ≤ x.f0 ∧ x.f0 < 9223372036854775808) ∧ (0 ≤ x.f1 ∧ x.f1 < 18446744073709551616) := fun x h => ⟨Ib.wf_i64 (h1 x h).1, Ib.wf_u64 (h1 x h).2⟩
 have h2 : Bs.Bytes x2 := fun x h => Ib.wf_u8 (h2 x h)
 have h3 := Ib.wf_i64 h3
 refine Ev.rounds (g := fun k => A0a.f k kind x1 x2 x3) ?_
 unfold A0a.f
 refine Ev.bind KindsTells_up ?_
 have hout : ∀ x, x = true → Ev (fun k => A0a.j0 k kind x1 x2 x3 true x) true := by
  intro x hx
  subst hx
  exact Ev.step (fun k => by rw [A0a.j0, if_pos rfl]) (Ev.now _)
 by_cases c1 : (x1.length : Int) > 60
 ·simp only [if_pos c1]
  exact hout _ rfl
 simp only [if_neg c1]
 by_cases c2 : (x2.length : Int) > 500
 ·exact hout _ (decide_eq_true c2)
 rw [decide_eq_false c2]
 have n2 : x2.length ≤ 500 := by omega
 have hend : ∀ (n t d v e xp : Int) (xl xn : Nat), Ok 60 (n, t, d, v, e, xp, (xl : Int), (xn : Int)) → Ev (fun k => (A27.f k x2 x3).bind fun t866 => (A0a.l1 k kind x2 x3 true t866 0 n t d v e xp (xl : Int) (xn : Int) n t d v e xp (xl : Int) (xn : Int))) true := by
  intro n t d v e xp xl xn hok
  refine Ev.bind (PDod.Rest_is x2 h2 (by omega) x3) ?_
  exact KindsTells_l1 kind x2 h2 n2 60 0 x3 _ n t d v e xp xl xn rfl h3 rfl (by rw [show (60 : Int) + ((0 : Nat) : Int) = 60 from rfl]; exact hok)
 have hl0 := KindsTells_l0 kind x1 x2 x3 h1 hend x1.length 0 0 0 0 0 0 0 0 0 (by omega) (by omega) (ok_zero 0 (by decide))
 refine Ev.step (fun k => by rw [A0a.j0, if_neg Bool.false_ne_true]) ?_
 exact hl0
end Go.Proofs.YtiahbcaoikoogaaDoor.Pure
end
section
namespace Go.Proofs.YtiahbcaoikoogaaDoor
open Go Go.ChangeShapes Go.WideShapes Go.Deep
set_option linter.unusedVariables false
set_option linter.unusedSimpArgs false
theorem recs2 {H : Type} {enc : TypeId × Value → H} {P : Program} {W : World} {base : Nat} {spare : Nat → Bool} {held : Bool} {t e : TypeId} {f0 f1 : Field} {k0 k1 : IntKind} {a : Option Addr} {len cap : Nat} {d : DataW H} {ps : List MemPlace} {ts : List TypeId} {ds : List (DataW H)} {j : Nat}
    (hsz : (DataW.weightsEach P ts ds).all (· ≤ reachBytes) = true) (hts : ts[j]? = some t) (hds : ds[j]? = some d) (ht : P.underlying t = some (.slice e)) (he : P.underlying e = some (.struct #[f0, f1]))
    (ce : P.cellsOf e = 2) (o0 : f0.offset = 0) (o1 : f1.offset = 1) (c0 : P.cellsOf f0.type = 1) (c1 : P.cellsOf f1.type = 1) (u0 : P.underlying f0.type = some (.int k0)) (u1 : P.underlying f1.type = some (.int k1))
    {B : Nat} (hB : P.bytesOf e = B) (h : DataW.Trod enc P W base spare held t (.slice a len cap) d ps) :
    ∃ zs : List (Int × Int), len = zs.length ∧ len ≤ cap ∧ len ≤ maxLen ∧ len * B ≤ 140737488351232 ∧ (∀ z ∈ zs, (Lit.int k0 z.1).wf = true ∧ (Lit.int k1 z.2).wf = true) ∧
      (0 < len → ∃ ad, a = some ad ∧ ∀ i z, zs[i]? = some z → W.cell? (ad.add (i * 2)) = some (.int k0 z.1) ∧ W.cell? (ad.add (i * 2 + 1)) = some (.int k1 z.2)) := by
  obtain ⟨fuel, hf⟩ := h
  rcases open_slice_pairs ht he ce o0 o1 c0 c1 hf with ⟨hcs, _⟩ | ⟨a', len', cap', m, n, V0, V1, D0, D1, P0, P1, hcs, hb, hl, hm, hmm, hx, hall⟩
  · simp [Value.cells] at hcs
    obtain ⟨rfl, rfl, rfl⟩ := hcs
    exact ⟨[], rfl, Nat.le_refl _, Nat.zero_le _, by simp, fun z hz => by simp at hz, fun h => absurd h (Nat.lt_irrefl 0)⟩
  · simp [Value.cells] at hcs
    obtain ⟨rfl, rfl, rfl⟩ := hcs
    have hlm : len ≤ m := by
      rw [hmm]
      split
      · exact hl
      · exact Nat.le_refl _
    have each : ∀ i, i < len → ∃ z : Int × Int, W.cell? (a'.add (i * 2)) = some (.int k0 z.1) ∧ W.cell? (a'.add (i * 2 + 1)) = some (.int k1 z.2) ∧ (Lit.int k0 z.1).wf = true ∧ (Lit.int k1 z.2).wf = true := by
      intro i hi
      obtain ⟨h0, h1, t0, t1⟩ := hall i (Nat.lt_of_lt_of_le hi hlm)
      obtain ⟨z0, e0, _, w0⟩ := DataW.trod_int u0 t0
      obtain ⟨z1, e1, _, w1⟩ := DataW.trod_int u1 t1
      injection e0 with e0
      injection e1 with e1
      rw [e0] at h0
      rw [e1] at h1
      exact ⟨(z0, z1), h0, h1, w0, w1⟩
    obtain ⟨q, hq⟩ := choose_lt each
    obtain ⟨hx, _⟩ := Prod.mk.inj hx
    subst hx
    have z := sized_slice hsz hts hds ht
    rw [hB] at z
    simp only [List.length_map, List.length_range] at z
    refine ⟨(List.range len).map q, by simp, hl, Nat.le_trans hl hm, Nat.le_trans (Nat.mul_le_mul_right _ (by omega)) z, ?_, fun _ => ⟨a', rfl, ?_⟩⟩
    · intro p hp
      obtain ⟨i, hi, rfl⟩ := List.mem_map.1 hp
      have := hq i (List.mem_range.1 hi)
      exact ⟨this.2.2.1, this.2.2.2⟩
    · intro i p hp
      rw [List.getElem?_map] at hp
      obtain ⟨i', hi', rfl⟩ := Option.map_eq_some_iff.1 hp
      have hlt := List.getElem?_eq_some_iff.1 hi'
      obtain ⟨hlt, hie⟩ := hlt
      rw [List.length_range] at hlt
      rw [List.getElem_range] at hie
      subst hie
      have := hq i hlt
      exact ⟨this.1, this.2.1⟩
end Go.Proofs.YtiahbcaoikoogaaDoor
end
