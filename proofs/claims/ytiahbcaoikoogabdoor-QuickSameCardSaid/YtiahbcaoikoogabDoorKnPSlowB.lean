-- copied by a program of the session
import Derived.Test.YtiahbcaoikoogabDoorKnAllx27
import Derived.Test.YtiahbcaoikoogabDoorKnPKindsFit
import Derived.Test.YtiahbcaoikoogabDoorKnAllx16
import Derived.Test.YtiahbcaoikoogabDoorKnAllx19
import Derived.Test.YtiahbcaoikoogabDoorKnAllx13
section
namespace Go.Proofs.YtiahbcaoikoogabDoor.PBatch
open Go Go.RowKit Go.Proofs.YtiahbcaoikoogabDoor Go.Proofs.YtiahbcaoikoogabDoor.All Go.Proofs.YtiahbcaoikoogabDoorW.PrintWords Go.Proofs.YtiahbcaoikoogabDoorW.PrintLast Go.Proofs.YtiahbcaoikoogabDoor.PKinds
set_option linter.unusedVariables false
set_option linter.unusedSimpArgs false
abbrev Out := Int × Int × Int × Int × Int × Int × Int × Int × Int × Int × Option Int × List Int × Int × Int
def pk8 (T V : Int) (s : S8) (c : Option Int) (b : List Int) (u h : Int) : Out := (T, V, s.1, s.2.1, s.2.2.1, s.2.2.2.1, s.2.2.2.2.1, s.2.2.2.2.2.1, s.2.2.2.2.2.2.1, s.2.2.2.2.2.2.2, c, b, u, h)
def OSays (K : PKinds.O) (R : List Int) (f : Nat → Option Out) : Prop :=
 ∃ T V s b' u' h', Ev f (pk8 T V s (if K.2.2.2.2 = 0 then none else some K.2.2.2.2) b' u' h') ∧ (K.2.2.2.2 = 0 → T = K.1 ∧ V = K.2.1 ∧ s = K.2.2.1 ∧ PFill.Inv (R.drop K.2.2.2.1.toNat) b' u' h')
theorem osays_err {c : Int} {R : List Int} {f : Nat → Option Out} (hc : ¬ c = 0) (T V : Int) (s : S8) (b' : List Int) (u' h' : Int) (h : Ev f (pk8 T V s (some c) b' u' h')) : OSays (PKinds.bad c) R f := by
 refine ⟨T, V, s, b', u', h', ?_, fun h0 => absurd h0 hc⟩
 show Ev f (pk8 T V s (if c = 0 then none else some c) b' u' h')
 rw [if_neg hc]
 exact h
theorem osays_ok {T V : Int} {s : S8} {m : Nat} {R : List Int} {f : Nat → Option Out} {b' : List Int} {u' h' : Int} (h : Ev f (pk8 T V s none b' u' h')) (hI : PFill.Inv (R.drop m) b' u' h') : OSays (T, V, s, (m : Int), 0) R f := by
 refine ⟨T, V, s, b', u', h', ?_, fun _ => ⟨rfl, rfl, rfl, ?_⟩⟩
 ·show Ev f (pk8 T V s (if (0 : Int) = 0 then none else some 0) b' u' h')
  rw [if_pos rfl]
  exact h
 ·show PFill.Inv (R.drop (m : Int).toNat) b' u' h'
  rw [Int.toNat_natCast]
  exact hI
theorem sumw (m1 m2 : Nat) (h : m1 + m2 < 140737488355328) : wrap64 ((m1 : Int) + (m2 : Int)) = ((m1 + m2 : Nat) : Int) := by rw [PBits.w64 _ (by omega)]; omega
theorem sumle (m1 m2 L D : Nat) (hd : D = L - m1) (h1 : m1 ≤ L) (h2 : m2 ≤ D) : m1 + m2 ≤ L := by omega
theorem First_is {R b : List Int} {u h : Int} (hI : PFill.Inv R b u h) :
    (R.length < 128 → ∃ b' u' h', Ev (fun k => A24.f k b u h) (0, 0, some 2, b', u', h')) ∧
    (128 ≤ R.length → ∃ b' u' h', Ev (fun k => A24.f k b u h) (wrap64 (Bs.number (R.take 64)), Bs.number ((R.drop 64).take 64), none, b', u', h') ∧ PFill.Inv (R.drop 128) b' u' h') := by
  have hd := List.length_drop (l := R) (i := 64)
  unfold A24.f
  refine ⟨fun hl => ?_, fun hl => ?_⟩
  · by_cases c : R.length < 64
    · obtain ⟨b1, u1, h1, e1⟩ := read_no hI 64 c
      exact ⟨b1, u1, h1, Ev.bind e1 (Ev.congr (fun k => if_neg Bool.false_ne_true) (Ev.now _))⟩
    · obtain ⟨b1, u1, h1, e1, hI1⟩ := read_yes hI 64 (by decide) (by omega)
      obtain ⟨b2, u2, h2, e2⟩ := read_no hI1 64 (by omega)
      exact ⟨b2, u2, h2, Ev.bind e1 (Ev.congr (fun k => if_pos rfl) (Ev.bind e2 (Ev.congr (fun k => if_neg Bool.false_ne_true) (Ev.now _))))⟩
  · obtain ⟨b1, u1, h1, e1, hI1⟩ := read_yes hI 64 (by decide) (by omega)
    obtain ⟨b2, u2, h2, e2, hI2⟩ := read_yes hI1 64 (by decide) (by omega)
    rw [List.drop_drop] at hI2
    exact ⟨b2, u2, h2, Ev.bind e1 (Ev.congr (fun k => if_pos rfl) (Ev.bind e2 (Ev.congr (fun k => if_pos rfl) (Ev.now _)))), hI2⟩
theorem One_is (kind : Int) (hk : kind = 1 ∨ kind = 2) {R b : List Int} {u h : Int} (hI : PFill.Inv R b u h) (n t d v e xp : Int) (xl xn : Nat) (hn : 0 ≤ n) (hp : 0 ≤ xp ∧ xp < 18446744073709551616) (hx : xl + xn ≤ 64) :
    OSays (PKinds.kg kind n t d v e xp xl xn R) R (fun k => A1s.f k kind b u h n t d v e xp (xl : Int) (xn : Int)) := by
  have hR := hI.bits
  have hlen := hI.len
  have hkn : ¬ ¬ (kind = 1 ∨ kind = 2) := fun c => c hk
  unfold PKinds.kg A1s.f
  rw [if_neg hkn]
  by_cases c2 : n = 0
  · rw [if_pos c2]
    obtain ⟨f1, f2⟩ := First_is hI
    by_cases c3 : R.length < 128
    · rw [if_pos c3]
      obtain ⟨b1, u1, h1, e1⟩ := f1 c3
      have ea := After_is kind n t d v e xp xl xn 0 0 0 0 0 hn
      exact osays_err (by decide) 0 0 _ b1 u1 h1 (Ev.congr (fun k => if_pos c2) (Ev.bind e1 (Ev.bind ea (Ev.now _))))
    · rw [if_neg c3]
      obtain ⟨b1, u1, h1, e1, hI1⟩ := f2 (Nat.le_of_not_lt c3)
      have ea := After_is kind n t d v e xp xl xn (wrap64 (Bs.number (R.take 64))) (Bs.number ((R.drop 64).take 64)) 0 0 0 hn
      exact osays_ok (m := 128) (Ev.congr (fun k => if_pos c2) (Ev.bind e1 (Ev.bind ea (Ev.now _)))) hI1
  rw [if_neg c2]
  obtain ⟨b1, u1, h1, e1, hI1⟩ := PTab.Get_is hI
  have hfit := gspec_fit R hR
  unfold PDod.gimp at e1
  generalize hG : PDod.A3q R = G at *
  by_cases c3 : G.2.2 = 0
  · rw [if_neg (fun c => c c3)]
    have hI1 := hI1 c3
    obtain ⟨m1, hm1, hm2, _⟩ := hfit c3
    rw [hm1, Int.toNat_natCast] at hI1 ⊢
    have hd := List.length_drop (l := R) (i := m1)
    rw [if_pos c3] at e1
    have e1 : Ev (fun k => A11.f k b u h) (G.1, none, b1, u1, h1) := e1
    generalize G.1 = g1 at *
    unfold PKinds.kv
    by_cases c4 : kind = 2
    · rw [if_pos c4]
      obtain ⟨b2, u2, h2, e2, hI2⟩ := PTab.Get_is hI1
      have hfit2 := gspec_fit (R.drop m1) (hR.drop m1)
      unfold PDod.gimp at e2
      generalize hG2 : PDod.A3q (R.drop m1) = G2 at *
      unfold PKinds.fin
      have ea := After_is kind n t d v e xp xl xn (wrap64 (wrap64 (t + d) + g1)) (IntKind.u64.wrap (IntKind.u64.wrap (v + e) + IntKind.u64.wrap G2.1)) 0 0 0 hn
      by_cases c5 : G2.2.2 = 0
      · have hI2 := hI2 c5
        obtain ⟨m2, hn1, hn2, _⟩ := hfit2 c5
        rw [hn1, Int.toNat_natCast, List.drop_drop] at hI2
        rw [if_pos c5] at e2
        have e2 : Ev (fun k => A11.f k b1 u1 h1) (G2.1, none, b2, u2, h2) := e2
        have hle := sumle m1 m2 _ _ hd hm2 hn2
        have hsum := sumw m1 m2 (Nat.lt_of_le_of_lt hle hlen)
        show OSays (if ¬ G2.2.2 = 0 then PKinds.bad G2.2.2 else if wrap64 (wrap64 (t + d) + g1) ≤ t then PKinds.bad 4 else (wrap64 (wrap64 (t + d) + g1), _, aft kind n t d v e xp xl xn (wrap64 (wrap64 (t + d) + g1)) (IntKind.u64.wrap (IntKind.u64.wrap (v + e) + IntKind.u64.wrap G2.1)) 0 0 0, wrap64 ((m1 : Int) + G2.2.1), 0)) R _
        rw [if_neg (fun c => c c5), hn1, hsum]
        by_cases c6 : wrap64 (wrap64 (t + d) + g1) ≤ t
        · rw [if_pos c6]
          refine osays_err (by decide) (wrap64 (wrap64 (t + d) + g1)) (IntKind.u64.wrap (IntKind.u64.wrap (v + e) + IntKind.u64.wrap G2.1)) (aft kind n t d v e xp xl xn (wrap64 (wrap64 (t + d) + g1)) (IntKind.u64.wrap (IntKind.u64.wrap (v + e) + IntKind.u64.wrap G2.1)) 0 0 0) b2 u2 h2 (Ev.congr (fun k => if_neg c2) (Ev.bind e1 (Ev.congr (fun k => if_pos rfl) (Ev.congr (fun k => if_pos c4) (Ev.bind e2 (Ev.congr (fun k => if_pos rfl) (Ev.congr (fun k => if_pos c6) (Ev.bind ea ?_))))))))
          exact Ev.now _
        · rw [if_neg c6]
          refine osays_ok (T := (wrap64 (wrap64 (t + d) + g1))) (V := (IntKind.u64.wrap (IntKind.u64.wrap (v + e) + IntKind.u64.wrap G2.1))) (s := (aft kind n t d v e xp xl xn (wrap64 (wrap64 (t + d) + g1)) (IntKind.u64.wrap (IntKind.u64.wrap (v + e) + IntKind.u64.wrap G2.1)) 0 0 0)) (Ev.congr (fun k => if_neg c2) (Ev.bind e1 (Ev.congr (fun k => if_pos rfl) (Ev.congr (fun k => if_pos c4) (Ev.bind e2 (Ev.congr (fun k => if_pos rfl) (Ev.congr (fun k => if_neg c6) (Ev.bind ea ?_)))))))) hI2
          exact Ev.now _
      · show OSays (if ¬ G2.2.2 = 0 then PKinds.bad G2.2.2 else _) R _
        rw [if_pos c5]
        rw [if_neg c5] at e2
        have e2 : Ev (fun k => A11.f k b1 u1 h1) (G2.1, some G2.2.2, b2, u2, h2) := e2
        refine osays_err c5 (wrap64 (wrap64 (t + d) + g1)) (IntKind.u64.wrap (IntKind.u64.wrap (v + e) + IntKind.u64.wrap G2.1)) (aft kind n t d v e xp xl xn (wrap64 (wrap64 (t + d) + g1)) (IntKind.u64.wrap (IntKind.u64.wrap (v + e) + IntKind.u64.wrap G2.1)) 0 0 0) b2 u2 h2 (Ev.congr (fun k => if_neg c2) (Ev.bind e1 (Ev.congr (fun k => if_pos rfl) (Ev.congr (fun k => if_pos c4) (Ev.bind e2 (Ev.congr (fun k => if_neg Bool.false_ne_true) (Ev.bind ea ?_)))))))
        exact Ev.now _
    · rw [if_neg c4]
      obtain ⟨V, s0, s1, s2, b2, u2, h2, e2, hv⟩ := Value_is hI1 xp hp xl xn hx
      have hok := PXor.xg_ok xp xl xn hx hp (R.drop m1) (hR.drop m1)
      generalize hG2 : PXor.xg xp xl xn (R.drop m1) = W at *
      unfold PKinds.fin
      have ea := After_is kind n t d v e xp xl xn (wrap64 (wrap64 (t + d) + g1)) V s0 s1 s2 hn
      by_cases c5 : W.2.2.2.2.2 = 0
      · obtain ⟨v1, v2, v3, v4, hI2⟩ := hv c5
        obtain ⟨x, m2, _, _, _, hn2, _, hW⟩ := hok c5
        have hn1 : W.2.2.2.2.1 = (m2 : Int) := by rw [hW]
        rw [hn1, Int.toNat_natCast, List.drop_drop] at hI2
        rw [if_pos c5] at e2
        have hle := sumle m1 m2 _ _ hd hm2 hn2
        have hsum := sumw m1 m2 (Nat.lt_of_le_of_lt hle hlen)
        subst v1 v2 v3 v4
        rw [if_neg (fun c => c c5), hn1, hsum]
        by_cases c6 : wrap64 (wrap64 (t + d) + g1) ≤ t
        · rw [if_pos c6]
          refine osays_err (by decide) (wrap64 (wrap64 (t + d) + g1)) W.1 (aft kind n t d v e xp xl xn (wrap64 (wrap64 (t + d) + g1)) W.1 W.2.1 W.2.2.1 W.2.2.2.1) b2 u2 h2 (Ev.congr (fun k => if_neg c2) (Ev.bind e1 (Ev.congr (fun k => if_pos rfl) (Ev.congr (fun k => if_neg c4) (Ev.bind e2 (Ev.congr (fun k => if_pos rfl) (Ev.congr (fun k => if_pos c6) (Ev.bind ea ?_))))))))
          exact Ev.now _
        · rw [if_neg c6]
          refine osays_ok (T := (wrap64 (wrap64 (t + d) + g1))) (V := W.1) (s := (aft kind n t d v e xp xl xn (wrap64 (wrap64 (t + d) + g1)) W.1 W.2.1 W.2.2.1 W.2.2.2.1)) (Ev.congr (fun k => if_neg c2) (Ev.bind e1 (Ev.congr (fun k => if_pos rfl) (Ev.congr (fun k => if_neg c4) (Ev.bind e2 (Ev.congr (fun k => if_pos rfl) (Ev.congr (fun k => if_neg c6) (Ev.bind ea ?_)))))))) hI2
          exact Ev.now _
      · rw [if_pos c5]
        rw [if_neg c5] at e2
        refine osays_err c5 (wrap64 (wrap64 (t + d) + g1)) V (aft kind n t d v e xp xl xn (wrap64 (wrap64 (t + d) + g1)) V s0 s1 s2) b2 u2 h2 (Ev.congr (fun k => if_neg c2) (Ev.bind e1 (Ev.congr (fun k => if_pos rfl) (Ev.congr (fun k => if_neg c4) (Ev.bind e2 (Ev.congr (fun k => if_neg Bool.false_ne_true) (Ev.bind ea ?_)))))))
        exact Ev.now _
  · rw [if_pos c3]
    rw [if_neg c3] at e1
    have e1 : Ev (fun k => A11.f k b u h) (G.1, some G.2.2, b1, u1, h1) := e1
    refine osays_err c3 0 0 (n, t, d, v, e, xp, (xl : Int), (xn : Int)) b1 u1 h1 (Ev.congr (fun k => if_neg c2) (Ev.bind e1 (Ev.congr (fun k => if_neg Bool.false_ne_true) ?_)))
    exact Ev.now _
end Go.Proofs.YtiahbcaoikoogabDoor.PBatch
end
section
namespace Go.Proofs.YtiahbcaoikoogabDoor.PKinds
open Go Go.RowKit Go.Proofs.YtiahbcaoikoogabDoor Go.Proofs.YtiahbcaoikoogabDoor.All Go.Proofs.YtiahbcaoikoogabDoorW.PrintWords Go.Proofs.YtiahbcaoikoogabDoorW.PrintLast
set_option linter.unusedVariables false
set_option linter.unusedSimpArgs false
theorem fin_code (kind n t d v e xp : Int) (xl xn : Nat) (T m : Int) (W : Int × Int × Int × Int × Int × Int) (hW : W.2.2.2.2.2 = 0 ∨ W.2.2.2.2.2 = 2 ∨ W.2.2.2.2.2 = 3) : (fin kind n t d v e xp xl xn T m W).2.2.2.2 = 0 ∨ (fin kind n t d v e xp xl xn T m W).2.2.2.2 = 2 ∨ (fin kind n t d v e xp xl xn T m W).2.2.2.2 = 3 ∨ (fin kind n t d v e xp xl xn T m W).2.2.2.2 = 4 := by
 unfold fin
 split
 ·rcases hW with h | h | h
  ·exact .inl h
  ·exact .inr (.inl h)
  ·exact .inr (.inr (.inl h))
 ·split
  ·exact .inr (.inr (.inr rfl))
  ·exact .inl rfl
theorem kbd_code (p : Int) (l n : Nat) (R : List Int) (h lead size : Nat) : (PXor.bd p l n R h lead size).2.2.2.2.2 = 0 ∨ (PXor.bd p l n R h lead size).2.2.2.2.2 = 2 ∨ (PXor.bd p l n R h lead size).2.2.2.2.2 = 3 := by
 unfold PXor.bd
 split
 ·exact .inr (.inr rfl)
 ·split
  ·exact .inr (.inl rfl)
  ·split
   ·exact .inl rfl
   ·exact .inr (.inr rfl)
theorem kxg_code (p : Int) (l n : Nat) (R : List Int) : (PXor.xg p l n R).2.2.2.2.2 = 0 ∨ (PXor.xg p l n R).2.2.2.2.2 = 2 ∨ (PXor.xg p l n R).2.2.2.2.2 = 3 := by
 unfold PXor.xg
 split
 ·exact .inr (.inl rfl)
 ·split
  ·exact .inl rfl
  ·split
   ·exact .inr (.inl rfl)
   ·split
    ·split
     ·exact .inr (.inl rfl)
     ·exact kbd_code ..
    ·exact kbd_code ..
theorem kv_code (kind v e xp : Int) (xl xn : Nat) (R : List Int) : (kv kind v e xp xl xn R).2.2.2.2.2 = 0 ∨ (kv kind v e xp xl xn R).2.2.2.2.2 = 2 ∨ (kv kind v e xp xl xn R).2.2.2.2.2 = 3 := by
 unfold kv
 split
 ·exact PDod.gspec_code R
 ·exact kxg_code xp xl xn R
theorem kg_code (kind n t d v e xp : Int) (xl xn : Nat) (R : List Int) : (kg kind n t d v e xp xl xn R).2.2.2.2 = 0 ∨ (kg kind n t d v e xp xl xn R).2.2.2.2 = 2 ∨ (kg kind n t d v e xp xl xn R).2.2.2.2 = 3 ∨ (kg kind n t d v e xp xl xn R).2.2.2.2 = 4 ∨ (kg kind n t d v e xp xl xn R).2.2.2.2 = 6 := by
 unfold kg
 split
 ·exact .inr (.inr (.inr (.inr rfl)))
 ·split
  ·split
   ·exact .inr (.inl rfl)
   ·exact .inl rfl
  ·split
   ·rcases PDod.gspec_code R with h | h | h
    ·exact .inl h
    ·exact .inr (.inl h)
    ·exact .inr (.inr (.inl h))
   ·rcases fin_code kind n t d v e xp xl xn (wrap64 (wrap64 (t + d) + (PDod.A3q R).1)) (PDod.A3q R).2.1 _ (kv_code kind v e xp xl xn (R.drop (PDod.A3q R).2.1.toNat)) with h | h | h | h
    ·exact .inl h
    ·exact .inr (.inl h)
    ·exact .inr (.inr (.inl h))
    ·exact .inr (.inr (.inr (.inl h)))
theorem two64 (A B S : List Int) (hA : A.length = 64) (hB : B.length = 64) : (A ++ B ++ S).take 64 = A ∧ ((A ++ B ++ S).drop 64).take 64 = B ∧ 128 ≤ (A ++ B ++ S).length := by
 refine ⟨?_, ?_, ?_⟩
 ·rw [List.append_assoc, ← hA, List.take_left]
 ·rw [List.append_assoc]
  conv => lhs; arg 2; rw [← hA]
  rw [List.drop_left, ← hB, List.take_left]
 ·rw [List.length_append, List.length_append]; omega
theorem kp_bits (kind n t d v e xp : Int) (xl xn : Nat) (T V : Int) : Bs.Bits (kp kind n t d v e xp xl xn T V).1 := by
 unfold kp
 split
 ·exact Bs.Bits.nil
 ·split
  ·exact (Bs.A3z _ _).append (Bs.A3z _ _)
  ·split
   ·exact Bs.Bits.nil
   ·split
    ·exact (PDod.dodL_bits _).append (PDod.dodL_bits _)
    ·exact (PDod.dodL_bits _).append (PXor.cb_bits _ _ _)
theorem kp_len (kind n t d v e xp : Int) (xl xn : Nat) (T V : Int) (hV : 0 ≤ V ∧ V < 18446744073709551616) (hp : 0 ≤ xp ∧ xp < 18446744073709551616) (hx : xl + xn ≤ 64) : (kp kind n t d v e xp xl xn T V).1.length ≤ 1000 := by
 have h1 := dodL_len (dt t d T)
 have h2 := dodL_len (dv v e V)
 have hr := PXor.xor_range V xp hV hp
 have h3 := (PXor.cb_short xl xn (dx V xp) hx hr.1 hr.2).2
 unfold kp
 split
 ·decide
 ·split
  ·rw [List.length_append, Bs.A1o, Bs.A1o]; decide
  ·split
   ·decide
   ·split
    ·rw [List.length_append]; omega
    ·rw [List.length_append]; omega
end Go.Proofs.YtiahbcaoikoogabDoor.PKinds
end
section
namespace Go.Proofs.YtiahbcaoikoogabDoor.PRising
open Go Go.RowKit Go.Proofs.YtiahbcaoikoogabDoor Go.Proofs.YtiahbcaoikoogabDoor.All Go.Proofs.YtiahbcaoikoogabDoorW.PrintWords Go.Proofs.YtiahbcaoikoogabDoorW.PrintLast
set_option linter.unusedVariables false
set_option linter.unusedSimpArgs false
def Rg (x : S48) : Prop := (-9223372036854775808 ≤ x.f0 ∧ x.f0 < 9223372036854775808) ∧ (0 ≤ x.f1 ∧ x.f1 < 18446744073709551616)
theorem rdT (M : List S48) (i : Nat) (h : i < M.length) : A1f M (i : Int) = M[i] := by
 unfold A1f
 rw [Int.toNat_natCast, List.getD_eq_getElem?_getD, List.getElem?_eq_getElem h]
 rfl
structure Asc (M : List S48) : Prop where
 rng : ∀ x ∈ M, Rg x
 inc : ∀ (i j : Nat) (hi : i < M.length) (hj : j < M.length), j = i + 1 → M[i].f0 < M[j].f0
theorem Asc.nil : Asc [] := ⟨fun x h => by simp at h, fun i j hi _ _ => absurd hi (Nat.not_lt_zero i)⟩
theorem Asc.snoc {M : List S48} (h : Asc M) {x : S48} (hx : Rg x) (hl : ∀ (i : Nat) (hi : i < M.length), i + 1 = M.length → M[i].f0 < x.f0) : Asc (M ++ [x]) := by
 refine ⟨fun y hy => ?_, fun i j hi hj e => ?_⟩
 ·rcases List.mem_append.mp hy with hy | hy
  ·exact h.rng y hy
  ·rw [List.mem_singleton.mp hy]; exact hx
 ·have hi' : i < M.length + 1 := by rw [List.length_append] at hi; exact hi
  have hj' : j < M.length + 1 := by rw [List.length_append] at hj; exact hj
  have him : i < M.length := by omega
  rw [List.getElem_append_left him]
  by_cases c : j < M.length
  ·rw [List.getElem_append_left c]
   exact h.inc i j him c e
  ·have ej : j = M.length := by omega
   subst ej
   rw [List.getElem_append_right (Nat.le_refl _)]
   have h0 := hl i him (by omega)
   simpa using h0
theorem Rising_l0 (xs : List S48) (hx : ∀ x ∈ xs, Rg x) (hn : xs.length ≤ 65535) : ∀ (r i : Nat) (M : List S48), i + r = xs.length → M.length ≤ i → Asc M →
    ∃ M', Ev (fun k => A1g.l0 k xs M (i : Int)) M' ∧ M'.length ≤ xs.length ∧ Asc M' := by
  intro r
  induction r with
  | zero =>
    intro i M hi hM hA
    have hnl : ¬ (i : Int) < (xs.length : Int) := by omega
    exact ⟨M, Ev.step (fun k => by rw [A1g.l0, if_neg hnl]) (Ev.now _), by omega, hA⟩
  | succ r ih =>
    intro i M hi hM hA
    have hil : i < xs.length := by omega
    have hlt : (i : Int) < (xs.length : Int) := by omega
    have hrd := rdT xs i hil
    have hr := hx xs[i] (List.getElem_mem hil)
    generalize xs[i] = x at hrd hr
    have wi : wrap64 ((i : Int) + 1) = ((i + 1 : Nat) : Int) := by rw [PBits.w64 _ (by omega)]; omega
    have h8 : M.length < 8796093022208 := by omega
    have hy : (⟨x.f0, x.f1⟩ : S48) = x := rfl
    have hsl : (M ++ [x]).length ≤ i + 1 := by rw [List.length_append, List.length_singleton]; omega
    by_cases c0 : M.length = 0
    · have c0' : (M.length : Int) = 0 := by omega
      obtain ⟨M', e1, e2, e3⟩ := ih (i + 1) (M ++ [x]) (by omega) hsl (hA.snoc hr (fun j hj _ => absurd hj (by omega)))
      exact ⟨M', Ev.step (fun k => by rw [A1g.l0, if_pos hlt, if_pos c0', if_pos (Int.natCast_nonneg i), if_pos h8, hrd, wi]) e1, e2, e3⟩
    · have c0' : ¬ (M.length : Int) = 0 := by omega
      have wl : wrap64 ((M.length : Int) - 1) = ((M.length - 1 : Nat) : Int) := by rw [PBits.w64 _ (by omega)]; omega
      have hl1 : M.length - 1 < M.length := by omega
      have hrl := rdT M (M.length - 1) hl1
      have hb : ((M.length - 1 : Nat) : Int) < (M.length : Int) := by omega
      by_cases c1 : x.f0 > M[M.length - 1].f0
      · obtain ⟨M', e1, e2, e3⟩ := ih (i + 1) (M ++ [x]) (by omega) hsl (hA.snoc hr (fun j hj he => by
          obtain rfl : j = M.length - 1 := by omega
          exact c1))
        exact ⟨M', Ev.step (fun k => by rw [A1g.l0, if_pos hlt, if_neg c0', if_pos (Int.natCast_nonneg i), wl, if_pos (Int.natCast_nonneg _), if_pos hb, hrd, hrl, if_pos c1, if_pos h8, wi]) e1, e2, e3⟩
      · obtain ⟨M', e1, e2, e3⟩ := ih (i + 1) M (by omega) (by omega) hA
        exact ⟨M', Ev.step (fun k => by rw [A1g.l0, if_pos hlt, if_neg c0', if_pos (Int.natCast_nonneg i), wl, if_pos (Int.natCast_nonneg _), if_pos hb, hrd, hrl, if_neg c1, wi]) e1, e2, e3⟩
theorem Rising_is (xs : List S48) (hx : ∀ x ∈ xs, Rg x) (hn : xs.length ≤ 65535) : ∃ M, Ev (fun k => A1g.f k xs) M ∧ M.length ≤ xs.length ∧ Asc M :=
 Rising_l0 xs hx hn xs.length 0 [] (by omega) (Nat.le_refl _) Asc.nil
end Go.Proofs.YtiahbcaoikoogabDoor.PRising
end
section
namespace Go.Proofs.YtiahbcaoikoogabDoor.PChunk
open Go Go.RowKit Go.Proofs.YtiahbcaoikoogabDoor Go.Proofs.YtiahbcaoikoogabDoor.All Go.Proofs.YtiahbcaoikoogabDoorW.PrintWords Go.Proofs.YtiahbcaoikoogabDoorW.PrintLast Go.Proofs.YtiahbcaoikoogabDoor.PKinds Go.Proofs.YtiahbcaoikoogabDoor.PRising
set_option linter.unusedVariables false
set_option linter.unusedSimpArgs false
def enc (kind : Int) : List S48 → S8 → List Int × Int
  | [], _ => ([], 0)
  | x :: r, (n, t, d, v, e, xp, xl, xn) =>
    if (kp kind n t d v e xp xl.toNat xn.toNat x.f0 x.f1).2.2 = 0 then
      (if (enc kind r (kp kind n t d v e xp xl.toNat xn.toNat x.f0 x.f1).2.1).2 = 0 then ((kp kind n t d v e xp xl.toNat xn.toNat x.f0 x.f1).1 ++ (enc kind r (kp kind n t d v e xp xl.toNat xn.toNat x.f0 x.f1).2.1).1, 0)
       else ([], (enc kind r (kp kind n t d v e xp xl.toNat xn.toNat x.f0 x.f1).2.1).2))
    else ([], (kp kind n t d v e xp xl.toNat xn.toNat x.f0 x.f1).2.2)
theorem enc_cons (kind : Int) (x : S48) (r : List S48) (n t d v e xp : Int) (xl xn : Nat) : enc kind (x :: r) (n, t, d, v, e, xp, (xl : Int), (xn : Int)) =
    if (kp kind n t d v e xp xl xn x.f0 x.f1).2.2 = 0 then
      (if (enc kind r (kp kind n t d v e xp xl xn x.f0 x.f1).2.1).2 = 0 then ((kp kind n t d v e xp xl xn x.f0 x.f1).1 ++ (enc kind r (kp kind n t d v e xp xl xn x.f0 x.f1).2.1).1, 0)
       else ([], (enc kind r (kp kind n t d v e xp xl xn x.f0 x.f1).2.1).2))
    else ([], (kp kind n t d v e xp xl xn x.f0 x.f1).2.2) := rfl
theorem enc_bits (kind : Int) : ∀ (l : List S48) (s : S8), Bs.Bits (enc kind l s).1 := by
 intro l
 induction l with
 | nil => intro s; exact Bs.Bits.nil
 | cons x r ih =>
  intro s
  obtain ⟨n, t, d, v, e, xp, xl, xn⟩ := s
  have h1 := kp_bits kind n t d v e xp xl.toNat xn.toNat x.f0 x.f1
  have h2 := ih (kp kind n t d v e xp xl.toNat xn.toNat x.f0 x.f1).2.1
  unfold enc
  split
  ·split
   ·exact h1.append h2
   ·exact Bs.Bits.nil
  ·exact Bs.Bits.nil
def res (H : List Int) (E : List Int × Int) : List Int × Option Int := if E.2 = 0 then (Bs.pack (H ++ E.1), none) else ([], some E.2)
theorem res_nil (H : List Int) : res H ([], 0) = (Bs.pack H, none) := by
 unfold res
 rw [if_pos rfl, List.append_nil]
theorem res_cons (H b : List Int) (s : S8) (E F : List Int × Int) (h : E = if F.2 = 0 then (b ++ F.1, 0) else ([], F.2)) : res H E = res (H ++ b) F := by
 subst h
 unfold res
 by_cases c : F.2 = 0
 ·rw [if_pos c, if_pos c, if_pos rfl, List.append_assoc]
 ·rw [if_neg c, if_neg c, if_neg c]
theorem Encode_l0 (kind : Int) (l : List S48) (hl : ∀ x ∈ l, Rg x) (hn : l.length ≤ 65535) :
    ∀ (r i : Nat) (O P : List Int) (n t d v e xp : Int) (xl xn : Nat), i + r = l.length → Bs.Bits O → Bs.Bits P → O.length + P.length ≤ 1000 * i → Ok (i : Int) (n, t, d, v, e, xp, (xl : Int), (xn : Int)) →
      Ev (fun k => A1m.l0 k kind l (l.length : Int) (i : Int) (Bs.pack O) (O.length : Int) (Bs.pack P) (P.length : Int) n t d v e xp (xl : Int) (xn : Int)) (res (O ++ P) (enc kind (l.drop i) (n, t, d, v, e, xp, (xl : Int), (xn : Int)))) := by
  intro r
  induction r with
  | zero =>
    intro i O P n t d v e xp xl xn hi hO hP hOP hok
    have hnl : ¬ (i : Int) < (l.length : Int) := by omega
    have hj := PBits.Join_is O P hO hP (by omega)
    rw [List.drop_of_length_le (by omega)]
    show Ev _ (res (O ++ P) ([], 0))
    rw [res_nil]
    exact Ev.step (fun k => by rw [A1m.l0, if_neg hnl]) (Ev.bind hj (Ev.now _))
  | succ r ih =>
    intro i O P n t d v e xp xl xn hi hO hP hOP hok
    have hil : i < l.length := by omega
    have hlt : (i : Int) < (l.length : Int) := by omega
    have hrd := rdT l i hil
    have hr := hl l[i] (List.getElem_mem hil)
    have hdrop : l.drop i = l[i] :: l.drop (i + 1) := List.drop_eq_getElem_cons hil
    rw [hdrop]
    generalize l[i] = x at hrd hr
    obtain ⟨xl', xn', el, en, hx⟩ := hok.w
    have hx : xl + xn ≤ 64 := by
      have e1 : (xl : Int) = (xl' : Int) := el
      have e2 : (xn : Int) = (xn' : Int) := en
      omega
    have hp := hok.p0
    have hn0 : 0 ≤ n := hok.n0
    have hn1 : n ≤ (i : Int) := hok.n1
    have g1 := Put_is kind n t d v e xp xl xn x.f0 x.f1 hn0 hr.2 hp hx
    have kb := kp_bits kind n t d v e xp xl xn x.f0 x.f1
    have kl := kp_len kind n t d v e xp xl xn x.f0 x.f1 hr.2 hp hx
    have ko := kp_ok (i : Int) (by omega) kind n t d v e xp xl xn x.f0 x.f1 ⟨hn0, hn1⟩ hr.2 hp hx
    rw [enc_cons]
    generalize kp kind n t d v e xp xl xn x.f0 x.f1 = K at *
    obtain ⟨b, ⟨n', t', d', v', e', xp', al, an⟩, c⟩ := K
    by_cases c0 : c = 0
    · have ko' := ko c0
      obtain ⟨yl, yn, e1, e2, hy⟩ := ko'.w
      have e1 : al = (yl : Int) := e1
      have e2 : an = (yn : Int) := e2
      subst e1 e2 c0
      have g1 : Ev (fun k => A1z.f k kind n t d v e xp (xl : Int) (xn : Int) x.f0 x.f1) (Bs.pack b, (b.length : Int), n', t', d', v', e', xp', (yl : Int), (yn : Int), none) := g1
      have kl : b.length ≤ 1000 := kl
      have hok2 : Ok ((i + 1 : Nat) : Int) (n', t', d', v', e', xp', (yl : Int), (yn : Int)) := by
        rw [show ((i + 1 : Nat) : Int) = (i : Int) + 1 from by omega]
        exact ko'
      have hPb : Bs.Bits (P ++ b) := hP.append kb
      have hl1 : (P ++ b).length = P.length + b.length := List.length_append
      have hl2 : (O ++ (P ++ b)).length = O.length + (P.length + b.length) := by rw [List.length_append, hl1]
      have hj1 := PBits.Join_is P b hP kb (by omega)
      have hj2 := PBits.Join_is O (P ++ b) hO hPb (by omega)
      rw [← List.length_append] at hj1 hj2
      have ih1 := ih (i + 1) (O ++ (P ++ b)) [] n' t' d' v' e' xp' yl yn (by omega) (hO.append hPb) Bs.Bits.nil (by rw [hl2, List.length_nil]; omega) hok2
      have ih2 := ih (i + 1) O (P ++ b) n' t' d' v' e' xp' yl yn (by omega) hO hPb (by rw [hl1]; omega) hok2
      rw [List.append_nil, Bs.A30, List.length_nil] at ih1
      have wi : wrap64 ((i : Int) + 1) = ((i + 1 : Nat) : Int) := by rw [PBits.w64 _ (by omega)]; omega
      rw [res_cons (O ++ P) b (n', t', d', v', e', xp', (yl : Int), (yn : Int)) _ (enc kind (l.drop (i + 1)) (n', t', d', v', e', xp', (yl : Int), (yn : Int))) (if_pos rfl), List.append_assoc]
      refine Ev.step (fun k => by rw [A1m.l0, if_pos hlt, if_pos (Int.natCast_nonneg i), if_pos hlt, hrd, wi]) (Ev.bind g1 ?_)
      refine Ev.congr (fun k => if_pos (show (none : Option Int).isNone = true from rfl)) (Ev.bind hj1 ?_)
      by_cases c1 : ((P ++ b).length : Int) > 16384
      · exact Ev.congr (fun k => if_pos c1) (Ev.bind hj2 ih1)
      · exact Ev.congr (fun k => if_neg c1) ih2
    · have g1 : Ev (fun k => A1z.f k kind n t d v e xp (xl : Int) (xn : Int) x.f0 x.f1) (Bs.pack b, (b.length : Int), n', t', d', v', e', xp', al, an, some c) := by
        have h := g1
        unfold pimp at h
        rw [if_neg c0] at h
        exact h
      have wi : wrap64 ((i : Int) + 1) = ((i + 1 : Nat) : Int) := by rw [PBits.w64 _ (by omega)]; omega
      have he : res (O ++ P) (if c = 0 then (if (enc kind (l.drop (i + 1)) (n', t', d', v', e', xp', al, an)).2 = 0 then (b ++ (enc kind (l.drop (i + 1)) (n', t', d', v', e', xp', al, an)).1, 0) else ([], (enc kind (l.drop (i + 1)) (n', t', d', v', e', xp', al, an)).2)) else ([], c)) = ([], some c) := by
        rw [if_neg c0]
        unfold res
        rw [if_neg c0]
      show Ev _ (res (O ++ P) (if c = 0 then (if (enc kind (l.drop (i + 1)) (n', t', d', v', e', xp', al, an)).2 = 0 then (b ++ (enc kind (l.drop (i + 1)) (n', t', d', v', e', xp', al, an)).1, 0) else ([], (enc kind (l.drop (i + 1)) (n', t', d', v', e', xp', al, an)).2)) else ([], c)))
      rw [he]
      refine Ev.step (fun k => by rw [A1m.l0, if_pos hlt, if_pos (Int.natCast_nonneg i), if_pos hlt, hrd, wi]) (Ev.bind g1 ?_)
      exact Ev.congr (fun k => if_neg Bool.false_ne_true) (Ev.now _)
theorem Encode_is (kind : Int) (l : List S48) (hl : ∀ x ∈ l, Rg x) (h0 : 1 ≤ l.length) (hn : l.length ≤ 65535) : Ev (fun k => A1m.f k kind l) (res [] (enc kind l z8)) := by
 unfold A1m.f
 have c1 : ¬ (l.length : Int) < 1 := by omega
 have c2 : ¬ (l.length : Int) > 65535 := by omega
 simp only [if_neg c1]
 rw [decide_eq_false c2]
 have h := Encode_l0 kind l hl hn l.length 0 [] [] 0 0 0 0 0 0 0 0 (by omega) Bs.Bits.nil Bs.Bits.nil (Nat.zero_le _) (ok_zero 0 (Int.le_refl _))
 rw [Bs.A30, List.length_nil, List.append_nil, List.drop_zero] at h
 exact Ev.step (fun k => by rw [A1m.j0, if_neg Bool.false_ne_true]; rfl) h
theorem Encode_no (kind : Int) : Ev (fun k => A1m.f k kind []) ([], some 1) := by
 unfold A1m.f
 refine Ev.congr (fun k => if_pos (by decide)) ?_
 exact Ev.step (fun k => by rw [A1m.j0, if_pos rfl]) (Ev.now _)
theorem rec_ext (x y : S48) (h0 : x.f0 = y.f0) (h1 : x.f1 = y.f1) : x = y := by
 cases x
 cases y
 cases h0
 cases h1
 rfl
theorem enc_ok (kind : Int) (x : S48) (r : List S48) (n t d v e xp : Int) (xl xn : Nat) (h : (enc kind (x :: r) (n, t, d, v, e, xp, (xl : Int), (xn : Int))).2 = 0) :
    (kp kind n t d v e xp xl xn x.f0 x.f1).2.2 = 0 ∧ (enc kind r (kp kind n t d v e xp xl xn x.f0 x.f1).2.1).2 = 0 ∧
      (enc kind (x :: r) (n, t, d, v, e, xp, (xl : Int), (xn : Int))).1 = (kp kind n t d v e xp xl xn x.f0 x.f1).1 ++ (enc kind r (kp kind n t d v e xp xl xn x.f0 x.f1).2.1).1 := by
  rw [enc_cons] at h ⊢
  by_cases c1 : (kp kind n t d v e xp xl xn x.f0 x.f1).2.2 = 0
  · rw [if_pos c1] at h ⊢
    by_cases c2 : (enc kind r (kp kind n t d v e xp xl xn x.f0 x.f1).2.1).2 = 0
    · rw [if_pos c2]
      exact ⟨c1, c2, rfl⟩
    · rw [if_neg c2] at h
      exact absurd h c2
  · rw [if_neg c1] at h
    exact absurd h c1
theorem enc_first (kind : Int) (l : List S48) (h0 : 1 ≤ l.length) (h : (enc kind l z8).2 = 0) : 128 ≤ (enc kind l z8).1.length := by
 cases l with
 | nil => exact absurd h0 (by simp)
 | cons x r =>
  obtain ⟨a1, a2, a3⟩ := enc_ok kind x r 0 0 0 0 0 0 0 0 h
  have hk : (kp kind 0 0 0 0 0 0 0 0 x.f0 x.f1).1.length = 128 := by
   unfold kp at a1 ⊢
   by_cases c1 : ¬ (kind = 1 ∨ kind = 2)
   ·rw [if_pos c1] at a1
    exact absurd a1 (by decide)
   ·rw [if_neg c1, if_pos rfl]
    show (Bs.low (IntKind.u64.wrap x.f0) 64 ++ Bs.low x.f1 64).length = 128
    rw [List.length_append, Bs.A1o, Bs.A1o]
  show 128 ≤ (enc kind (x :: r) (0, 0, 0, 0, 0, 0, ((0 : Nat) : Int), ((0 : Nat) : Int))).1.length
  rw [a3, List.length_append, hk]
  omega
theorem Same_iff_l0 (l m : List S48) (hlen : l.length = m.length) (hn : l.length ≤ 1000000) : ∀ (r i : Nat), i + r = l.length → ∃ q, Ev (fun k => A0w.l0 k l m (i : Int)) q ∧ (q = 1 ↔ l.drop i = m.drop i) := by
 intro r
 induction r with
 | zero =>
  intro i hi
  have hnl : ¬ (i : Int) < (l.length : Int) := by omega
  refine ⟨1, Ev.step (fun k => by rw [A0w.l0, if_neg hnl]) (Ev.now _), ?_⟩
  rw [List.drop_of_length_le (by omega), List.drop_of_length_le (by omega)]
  exact ⟨fun _ => rfl, fun _ => rfl⟩
 | succ r ih =>
  intro i hi
  have hil : i < l.length := by omega
  have him : i < m.length := by omega
  have hlt : (i : Int) < (l.length : Int) := by omega
  have hmt : (i : Int) < (m.length : Int) := by omega
  have r1 := rdT l i hil
  have r2 := rdT m i him
  rw [List.drop_eq_getElem_cons hil, List.drop_eq_getElem_cons him]
  generalize l[i] = x at r1
  generalize m[i] = y at r2
  obtain ⟨q, g1, g2⟩ := ih (i + 1) (by omega)
  have wi : wrap64 ((i : Int) + 1) = ((i + 1 : Nat) : Int) := by rw [PBits.w64 _ (by omega)]; omega
  by_cases c : x = y
  ·subst c
   refine ⟨q, Ev.step (fun k => by rw [A0w.l0, if_pos hlt, if_pos (Int.natCast_nonneg i), if_pos hmt, r1, r2, beq_self_eq_true, beq_self_eq_true, Bool.not_true, Bool.or_self, if_neg Bool.false_ne_true, wi]) g1, ?_⟩
   rw [g2]
   exact ⟨fun h => by rw [h], fun h => (List.cons.inj h).2⟩
  ·have hb : (!(x.f0 == y.f0) || (!(x.f1 == y.f1))) = true := by
    by_cases h0 : x.f0 = y.f0
    ·by_cases h1 : x.f1 = y.f1
     ·exact absurd (rec_ext x y h0 h1) c
     ·rw [beq_eq_false_iff_ne.mpr h1, Bool.not_false, Bool.or_true]
    ·rw [beq_eq_false_iff_ne.mpr h0, Bool.not_false, Bool.true_or]
   refine ⟨0, Ev.step (fun k => by rw [A0w.l0, if_pos hlt, if_pos (Int.natCast_nonneg i), if_pos hmt, r1, r2, if_pos hb]) (Ev.now _), ?_⟩
   exact ⟨fun h => absurd h (by decide), fun h => absurd (List.cons.inj h).1 c⟩
theorem Same_iff (l m : List S48) (hlen : l.length = m.length) (hn : l.length ≤ 1000000) : ∃ q, Ev (fun k => A0w.f k l m) q ∧ (q = 1 ↔ l = m) := by
 obtain ⟨q, g1, g2⟩ := Same_iff_l0 l m hlen hn l.length 0 (by omega)
 have hc : (l.length : Int) = (m.length : Int) := by rw [hlen]
 refine ⟨q, ?_, g2⟩
 unfold A0w.f
 exact Ev.congr (fun k => if_pos hc) g1
end Go.Proofs.YtiahbcaoikoogabDoor.PChunk
end
section
namespace Go.Proofs.YtiahbcaoikoogabDoor.PSlowB
open Go Go.RowKit Go.Proofs.YtiahbcaoikoogabDoor Go.Proofs.YtiahbcaoikoogabDoor.All Go.Proofs.YtiahbcaoikoogabDoorW.PrintWords Go.Proofs.YtiahbcaoikoogabDoorW.PrintLast Go.Proofs.YtiahbcaoikoogabDoor.PKinds Go.Proofs.YtiahbcaoikoogabDoor.PRising Go.Proofs.YtiahbcaoikoogabDoor.PChunk
set_option linter.unusedVariables false
set_option linter.unusedSimpArgs false
def dec (kind : Int) : Nat → S8 → List Int → List S48 × Int × List Int
 | 0, _, R => ([], 0, R)
 | r + 1, (n, t, d, v, e, xp, xl, xn), R =>
  if (PKinds.kg kind n t d v e xp xl.toNat xn.toNat R).2.2.2.2 = 0 then
   (⟨(PKinds.kg kind n t d v e xp xl.toNat xn.toNat R).1, (PKinds.kg kind n t d v e xp xl.toNat xn.toNat R).2.1⟩ :: (dec kind r (PKinds.kg kind n t d v e xp xl.toNat xn.toNat R).2.2.1 (R.drop (PKinds.kg kind n t d v e xp xl.toNat xn.toNat R).2.2.2.1.toNat)).1,
    (dec kind r (PKinds.kg kind n t d v e xp xl.toNat xn.toNat R).2.2.1 (R.drop (PKinds.kg kind n t d v e xp xl.toNat xn.toNat R).2.2.2.1.toNat)).2)
  else ([], (PKinds.kg kind n t d v e xp xl.toNat xn.toNat R).2.2.2.2, R)
theorem dec_succ (kind : Int) (r : Nat) (n t d v e xp : Int) (xl xn : Nat) (R : List Int) : dec kind (r + 1) (n, t, d, v, e, xp, (xl : Int), (xn : Int)) R =
    if (PKinds.kg kind n t d v e xp xl xn R).2.2.2.2 = 0 then
      (⟨(PKinds.kg kind n t d v e xp xl xn R).1, (PKinds.kg kind n t d v e xp xl xn R).2.1⟩ :: (dec kind r (PKinds.kg kind n t d v e xp xl xn R).2.2.1 (R.drop (PKinds.kg kind n t d v e xp xl xn R).2.2.2.1.toNat)).1,
        (dec kind r (PKinds.kg kind n t d v e xp xl xn R).2.2.1 (R.drop (PKinds.kg kind n t d v e xp xl xn R).2.2.2.1.toNat)).2)
    else ([], (PKinds.kg kind n t d v e xp xl xn R).2.2.2.2, R) := rfl
def fc (D : List S48 × Int × List Int) : Int := if D.2.1 = 0 then (if D.2.2.length ≥ 8 then 3 else if Bs.number D.2.2 = 0 then 0 else 3) else D.2.1
def ans (out : List S48) (D : List S48 × Int × List Int) : List S48 × Option Int := (out ++ D.1, if fc D = 0 then none else some (fc D))
theorem rest_drop (L : List Int) (a : Nat) (h : a ≤ L.length) : PDod.restL L (a : Int) = L.drop a := by
 unfold PDod.restL
 rw [if_neg (by omega), Int.toNat_natCast]
theorem mn_lt (a : Int) (h : a < 8) : mn a 8 = a := by
 unfold mn
 split <;> omega
theorem slow_end (kind : Int) (b : List Int) (hb : Bs.Bytes b) (hl : b.length ≤ 1000000) (nn at_ : Nat) (out : List S48) (s : S8) (n t d v e xp xl xn : Int) (ha : at_ ≤ (Bs.flat b).length) :
    Ev (fun k => A1k.l0 k kind b out (at_ : Int) (nn : Int) (nn : Int) n t d v e xp xl xn) (ans out ([], 0, (Bs.flat b).drop at_)) := by
  have hnl : ¬ (nn : Int) < (nn : Int) := by omega
  have hfl := Bs.A2k b
  have hw8 : wrap64 (8 * (b.length : Int)) = ((Bs.flat b).length : Int) := by rw [PBits.w64 _ (by omega), hfl]; omega
  have hd := List.length_drop (l := Bs.flat b) (i := at_)
  have hwr : wrap64 (((Bs.flat b).length : Int) - (at_ : Int)) = (((Bs.flat b).drop at_).length : Int) := by rw [PBits.w64 _ (by omega), hd]; omega
  have g1 := PBits.Take_is b hb (by omega) (at_ : Int)
  unfold ans fc
  rw [List.append_nil, if_pos rfl]
  by_cases c1 : ((Bs.flat b).drop at_).length ≥ 8
  · have c1' : (((Bs.flat b).drop at_).length : Int) ≥ 8 := by omega
    rw [if_pos c1]
    refine Ev.step (fun k => by rw [A1k.l0, if_neg hnl, hw8, hwr]) (Ev.bind (g1 _) ?_)
    exact Ev.congr (fun k => if_pos c1') (Ev.now _)
  · have c1' : ¬ (((Bs.flat b).drop at_).length : Int) ≥ 8 := by omega
    have g1 := g1 (((Bs.flat b).drop at_).length : Int)
    rw [PBits.tk_yes (by omega), Int.toNat_natCast, Int.toNat_natCast, List.take_of_length_le (Nat.le_refl _)] at g1
    have hmn := mn_lt (((Bs.flat b).drop at_).length : Int) (by omega)
    rw [if_neg c1]
    by_cases c2 : Bs.number ((Bs.flat b).drop at_) = 0
    · have e : (out, if (if Bs.number ((Bs.flat b).drop at_) = 0 then (0 : Int) else 3) = 0 then none else some (if Bs.number ((Bs.flat b).drop at_) = 0 then (0 : Int) else 3)) = (out, none) := by rw [if_pos c2, if_pos rfl]
      show Ev _ (out, if (if Bs.number ((Bs.flat b).drop at_) = 0 then (0 : Int) else 3) = 0 then none else some (if Bs.number ((Bs.flat b).drop at_) = 0 then (0 : Int) else 3))
      rw [e]
      refine Ev.step (fun k => by rw [A1k.l0, if_neg hnl, hw8, hwr, hmn]) (Ev.bind g1 ?_)
      exact Ev.congr (fun k => by rw [if_neg c1', if_pos rfl, if_pos c2]) (Ev.now (out, none))
    · have e : (out, if (if Bs.number ((Bs.flat b).drop at_) = 0 then (0 : Int) else 3) = 0 then none else some (if Bs.number ((Bs.flat b).drop at_) = 0 then (0 : Int) else 3)) = (out, some 3) := by rw [if_neg c2]; rfl
      show Ev _ (out, if (if Bs.number ((Bs.flat b).drop at_) = 0 then (0 : Int) else 3) = 0 then none else some (if Bs.number ((Bs.flat b).drop at_) = 0 then (0 : Int) else 3))
      rw [e]
      refine Ev.step (fun k => by rw [A1k.l0, if_neg hnl, hw8, hwr, hmn]) (Ev.bind g1 ?_)
      exact Ev.congr (fun k => by rw [if_neg c1', if_pos rfl, if_neg c2]) (Ev.now (out, some 3))
theorem ans_cons (out : List S48) (x : S48) (D : List S48 × Int × List Int) : ans out (x :: D.1, D.2) = ans (out ++ [x]) D := by
 unfold ans fc
 rw [List.append_assoc]
 rfl
theorem slow_l0 (kind : Int) (b : List Int) (hb : Bs.Bytes b) (hl : b.length ≤ 1000000) (nn : Nat) (hnn : nn ≤ 65535) :
    ∀ (r j at_ : Nat) (out : List S48) (n t d v e xp : Int) (xl xn : Nat), j + r = nn → out.length = j → at_ ≤ (Bs.flat b).length → Ok (j : Int) (n, t, d, v, e, xp, (xl : Int), (xn : Int)) →
      Ev (fun k => A1k.l0 k kind b out (at_ : Int) (nn : Int) (j : Int) n t d v e xp (xl : Int) (xn : Int)) (ans out (dec kind r (n, t, d, v, e, xp, (xl : Int), (xn : Int)) ((Bs.flat b).drop at_))) := by
  intro r
  induction r with
  | zero =>
    intro j at_ out n t d v e xp xl xn hj ho ha hok
    obtain rfl : j = nn := by omega
    exact slow_end kind b hb hl j at_ out z8 n t d v e xp (xl : Int) (xn : Int) ha
  | succ r ih =>
    intro j at_ out n t d v e xp xl xn hj ho ha hok
    have hlt : (j : Int) < (nn : Int) := by omega
    obtain ⟨xl', xn', el, en, hx⟩ := hok.w
    have hx : xl + xn ≤ 64 := by
      have e1 : (xl : Int) = (xl' : Int) := el
      have e2 : (xn : Int) = (xn' : Int) := en
      omega
    have hp := hok.p0
    have hn0 : 0 ≤ n := hok.n0
    have hn1 : n ≤ (j : Int) := hok.n1
    have hfl := Bs.A2k b
    have hd := List.length_drop (l := Bs.flat b) (i := at_)
    have g1 := PKinds.Get_is kind n t d v e xp xl xn hn0 hp hx b hb (by omega) (at_ : Int) (by omega)
    rw [rest_drop _ _ ha] at g1
    have hRb := (Bs.flat_bits b).drop at_
    have ko := kg_ok (j : Int) (by omega) kind n t d v e xp xl xn ⟨hn0, hn1⟩ hp hx _ hRb (by omega)
    rw [dec_succ]
    generalize PKinds.kg kind n t d v e xp xl xn ((Bs.flat b).drop at_) = K at *
    obtain ⟨T, V, ⟨n', t', d', v', e', xp', al, an⟩, len, c⟩ := K
    have ho8 : out.length < 8796093022208 := by omega
    by_cases c0 : c = 0
    · obtain ⟨ko', m, hm1, hm2, hm3⟩ := ko c0
      have hm1 : len = (m : Int) := hm1
      subst hm1
      obtain ⟨yl, yn, e1, e2, hy⟩ := ko'.w
      have e1 : al = (yl : Int) := e1
      have e2 : an = (yn : Int) := e2
      subst e1 e2 c0
      have g1 : Ev (fun k => A12.f k kind n t d v e xp (xl : Int) (xn : Int) b (at_ : Int)) (T, V, n', t', d', v', e', xp', (yl : Int), (yn : Int), (m : Int), none) := g1
      have hok2 : Ok ((j + 1 : Nat) : Int) (n', t', d', v', e', xp', (yl : Int), (yn : Int)) := by
        rw [show ((j + 1 : Nat) : Int) = (j : Int) + 1 from by omega]
        exact ko'
      have l1 : (out ++ [(⟨T, V⟩ : S48)]).length = j + 1 := by rw [List.length_append, List.length_singleton, ho]
      have l2 : at_ + m ≤ (Bs.flat b).length := by
        have hm2 : m ≤ ((Bs.flat b).drop at_).length := hm2
        omega
      have l3 : j + 1 + r = nn := by omega
      have wj : wrap64 ((j : Int) + 1) = ((j + 1 : Nat) : Int) := by rw [PBits.w64 _ (by omega)]; omega
      have wa : wrap64 ((at_ : Int) + (m : Int)) = ((at_ + m : Nat) : Int) := by rw [PBits.w64 _ (by omega)]; omega
      have h1 := ih (j + 1) (at_ + m) (out ++ [⟨T, V⟩]) n' t' d' v' e' xp' yl yn l3 l1 l2 hok2
      rw [← List.drop_drop] at h1
      show Ev _ (ans out (⟨T, V⟩ :: (dec kind r (n', t', d', v', e', xp', (yl : Int), (yn : Int)) (((Bs.flat b).drop at_).drop (m : Int).toNat)).1, (dec kind r (n', t', d', v', e', xp', (yl : Int), (yn : Int)) (((Bs.flat b).drop at_).drop (m : Int).toNat)).2))
      rw [ans_cons, Int.toNat_natCast]
      refine Ev.step (fun k => by rw [A1k.l0, if_pos hlt]) (Ev.bind g1 ?_)
      refine Ev.congr (fun k => by rw [if_pos (show (none : Option Int).isNone = true from rfl), if_pos ho8, wa, wj]) h1
    · have g1 : Ev (fun k => A12.f k kind n t d v e xp (xl : Int) (xn : Int) b (at_ : Int)) (T, V, n', t', d', v', e', xp', al, an, len, some c) := by
        have h := g1
        unfold gimp8 at h
        rw [if_neg c0] at h
        exact h
      have he : ∀ D : List S48 × Int × List Int, ans out (if c = 0 then (⟨T, V⟩ :: D.1, D.2) else ([], c, (Bs.flat b).drop at_)) = (out, some c) := by
        intro D
        rw [if_neg c0]
        unfold ans fc
        rw [if_neg c0, if_neg c0, List.append_nil]
      show Ev _ (ans out (if c = 0 then (⟨T, V⟩ :: (dec kind r (n', t', d', v', e', xp', al, an) (((Bs.flat b).drop at_).drop len.toNat)).1, (dec kind r (n', t', d', v', e', xp', al, an) (((Bs.flat b).drop at_).drop len.toNat)).2) else ([], c, (Bs.flat b).drop at_)))
      rw [he]
      refine Ev.step (fun k => by rw [A1k.l0, if_pos hlt]) (Ev.bind g1 ?_)
      exact Ev.congr (fun k => if_neg Bool.false_ne_true) (Ev.now (out, some c))
theorem Decode_is (kind : Int) (b : List Int) (hb : Bs.Bytes b) (hl : b.length ≤ 1000000) (nn : Nat) (h1 : 1 ≤ nn) (h2 : nn ≤ 65535) : Ev (fun k => A1k.f k kind b (nn : Int)) (ans [] (dec kind nn z8 (Bs.flat b))) := by
 unfold A1k.f
 have c1 : ¬ (nn : Int) < 1 := by omega
 have c2 : ¬ (nn : Int) > 65535 := by omega
 simp only [if_neg c1]
 rw [decide_eq_false c2]
 have h := slow_l0 kind b hb hl nn h2 nn 0 0 [] 0 0 0 0 0 0 0 0 (by omega) rfl (Nat.zero_le _) (ok_zero 0 (Int.le_refl _))
 rw [List.drop_zero] at h
 exact Ev.step (fun k => by rw [A1k.j0, if_neg Bool.false_ne_true]; rfl) h
theorem Decode_no (kind : Int) (b : List Int) (n : Int) (h : n < 1 ∨ n > 65535) : Ev (fun k => A1k.f k kind b n) ([], some 1) := by
 have hno : ∀ x, x = true → Ev (fun k => A1k.j0 k kind b n x) (([] : List S48), some 1) := by
  intro x hx
  subst hx
  exact Ev.step (fun k => by rw [A1k.j0, if_pos rfl]) (Ev.now _)
 unfold A1k.f
 by_cases c1 : n < 1
 ·simp only [if_pos c1]
  exact hno _ rfl
 ·simp only [if_neg c1]
  exact hno _ (decide_eq_true (h.resolve_left c1))
end Go.Proofs.YtiahbcaoikoogabDoor.PSlowB
end
