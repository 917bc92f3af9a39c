-- copied by a program of the session
import Derived.Test.YtiahbcaoikoogabDoorKqPBatchW
import Derived.Test.YtiahbcaoikoogabDoorKqPKindsFit
section
namespace Go.Proofs.YtiahbcaoikoogabDoor.PBatch
open Go Go.RowKit Go.Proofs.YtiahbcaoikoogabDoor Go.Proofs.YtiahbcaoikoogabDoor.All Go.Proofs.YtiahbcaoikoogabDoorW.PrintWords Go.Proofs.YtiahbcaoikoogabDoorW.PrintLast Go.Proofs.YtiahbcaoikoogabDoor.PKinds
set_option linter.unusedVariables false
set_option linter.unusedSimpArgs false
abbrev Out := Int × Int × Int × Int × Int × Int × Int × Int × Int × Int × Option Int × List Int × Int × Int
def pk8 (T V : Int) (s : S8) (c : Option Int) (b : List Int) (u h : Int) : Out := (T, V, s.1, s.2.1, s.2.2.1, s.2.2.2.1, s.2.2.2.2.1, s.2.2.2.2.2.1, s.2.2.2.2.2.2.1, s.2.2.2.2.2.2.2, c, b, u, h)
def OSays (K : PKinds.O) (R : List Int) (f : Nat → Option Out) : Prop :=
 ∃ T V s b' u' h', Ev f (pk8 T V s (if K.2.2.2.2 = 0 then none else some K.2.2.2.2) b' u' h') ∧ (K.2.2.2.2 = 0 → T = K.1 ∧ V = K.2.1 ∧ s = K.2.2.1 ∧ PFill.Inv (R.drop K.2.2.2.1.toNat) b' u' h')
theorem osays_err {c : Int} {R : List Int} {f : Nat → Option Out} (hc : ¬ c = 0) (T V : Int) (s : S8) (b' : List Int) (u' h' : Int) (h : Ev f (pk8 T V s (some c) b' u' h')) : OSays (PKinds.bad c) R f := by
 refine ⟨T, V, s, b', u', h', ?_, fun h0 => absurd h0 hc⟩
 show Ev f (pk8 T V s (if c = 0 then none else some c) b' u' h')
 rw [if_neg hc]
 exact h
theorem osays_ok {T V : Int} {s : S8} {m : Nat} {R : List Int} {f : Nat → Option Out} {b' : List Int} {u' h' : Int} (h : Ev f (pk8 T V s none b' u' h')) (hI : PFill.Inv (R.drop m) b' u' h') : OSays (T, V, s, (m : Int), 0) R f := by
 refine ⟨T, V, s, b', u', h', ?_, fun _ => ⟨rfl, rfl, rfl, ?_⟩⟩
 ·show Ev f (pk8 T V s (if (0 : Int) = 0 then none else some 0) b' u' h')
  rw [if_pos rfl]
  exact h
 ·show PFill.Inv (R.drop (m : Int).toNat) b' u' h'
  rw [Int.toNat_natCast]
  exact hI
theorem sumw (m1 m2 : Nat) (h : m1 + m2 < 140737488355328) : wrap64 ((m1 : Int) + (m2 : Int)) = ((m1 + m2 : Nat) : Int) := by rw [PBits.w64 _ (by omega)]; omega
theorem sumle (m1 m2 L D : Nat) (hd : D = L - m1) (h1 : m1 ≤ L) (h2 : m2 ≤ D) : m1 + m2 ≤ L := by omega
theorem First_is {R b : List Int} {u h : Int} (hI : PFill.Inv R b u h) :
    (R.length < 128 → ∃ b' u' h', Ev (fun k => A23.f k b u h) (0, 0, some 2, b', u', h')) ∧
    (128 ≤ R.length → ∃ b' u' h', Ev (fun k => A23.f k b u h) (wrap64 (Bs.number (R.take 64)), Bs.number ((R.drop 64).take 64), none, b', u', h') ∧ PFill.Inv (R.drop 128) b' u' h') := by
  have hd := List.length_drop (l := R) (i := 64)
  unfold A23.f
  refine ⟨fun hl => ?_, fun hl => ?_⟩
  · by_cases c : R.length < 64
    · obtain ⟨b1, u1, h1, e1⟩ := read_no hI 64 c
      exact ⟨b1, u1, h1, Ev.bind e1 (Ev.congr (fun k => if_neg Bool.false_ne_true) (Ev.now _))⟩
    · obtain ⟨b1, u1, h1, e1, hI1⟩ := read_yes hI 64 (by decide) (by omega)
      obtain ⟨b2, u2, h2, e2⟩ := read_no hI1 64 (by omega)
      exact ⟨b2, u2, h2, Ev.bind e1 (Ev.congr (fun k => if_pos rfl) (Ev.bind e2 (Ev.congr (fun k => if_neg Bool.false_ne_true) (Ev.now _))))⟩
  · obtain ⟨b1, u1, h1, e1, hI1⟩ := read_yes hI 64 (by decide) (by omega)
    obtain ⟨b2, u2, h2, e2, hI2⟩ := read_yes hI1 64 (by decide) (by omega)
    rw [List.drop_drop] at hI2
    exact ⟨b2, u2, h2, Ev.bind e1 (Ev.congr (fun k => if_pos rfl) (Ev.bind e2 (Ev.congr (fun k => if_pos rfl) (Ev.now _)))), hI2⟩
theorem One_is (kind : Int) (hk : kind = 1 ∨ kind = 2) {R b : List Int} {u h : Int} (hI : PFill.Inv R b u h) (n t d v e xp : Int) (xl xn : Nat) (hn : 0 ≤ n) (hp : 0 ≤ xp ∧ xp < 18446744073709551616) (hx : xl + xn ≤ 64) :
    OSays (PKinds.kg kind n t d v e xp xl xn R) R (fun k => A1q.f k kind b u h n t d v e xp (xl : Int) (xn : Int)) := by
  have hR := hI.bits
  have hlen := hI.len
  have hkn : ¬ ¬ (kind = 1 ∨ kind = 2) := fun c => c hk
  unfold PKinds.kg A1q.f
  rw [if_neg hkn]
  by_cases c2 : n = 0
  · rw [if_pos c2]
    obtain ⟨f1, f2⟩ := First_is hI
    by_cases c3 : R.length < 128
    · rw [if_pos c3]
      obtain ⟨b1, u1, h1, e1⟩ := f1 c3
      have ea := After_is kind n t d v e xp xl xn 0 0 0 0 0 hn
      exact osays_err (by decide) 0 0 _ b1 u1 h1 (Ev.congr (fun k => if_pos c2) (Ev.bind e1 (Ev.bind ea (Ev.now _))))
    · rw [if_neg c3]
      obtain ⟨b1, u1, h1, e1, hI1⟩ := f2 (Nat.le_of_not_lt c3)
      have ea := After_is kind n t d v e xp xl xn (wrap64 (Bs.number (R.take 64))) (Bs.number ((R.drop 64).take 64)) 0 0 0 hn
      exact osays_ok (m := 128) (Ev.congr (fun k => if_pos c2) (Ev.bind e1 (Ev.bind ea (Ev.now _)))) hI1
  rw [if_neg c2]
  obtain ⟨b1, u1, h1, e1, hI1⟩ := PTab.Get_is hI
  have hfit := gspec_fit R hR
  unfold PDod.gimp at e1
  generalize hG : PDod.A3s R = G at *
  by_cases c3 : G.2.2 = 0
  · rw [if_neg (fun c => c c3)]
    have hI1 := hI1 c3
    obtain ⟨m1, hm1, hm2, _⟩ := hfit c3
    rw [hm1, Int.toNat_natCast] at hI1 ⊢
    have hd := List.length_drop (l := R) (i := m1)
    rw [if_pos c3] at e1
    have e1 : Ev (fun k => A10.f k b u h) (G.1, none, b1, u1, h1) := e1
    generalize G.1 = g1 at *
    unfold PKinds.kv
    by_cases c4 : kind = 2
    · rw [if_pos c4]
      obtain ⟨b2, u2, h2, e2, hI2⟩ := PTab.Get_is hI1
      have hfit2 := gspec_fit (R.drop m1) (hR.drop m1)
      unfold PDod.gimp at e2
      generalize hG2 : PDod.A3s (R.drop m1) = G2 at *
      unfold PKinds.fin
      have ea := After_is kind n t d v e xp xl xn (wrap64 (wrap64 (t + d) + g1)) (IntKind.u64.wrap (IntKind.u64.wrap (v + e) + IntKind.u64.wrap G2.1)) 0 0 0 hn
      by_cases c5 : G2.2.2 = 0
      · have hI2 := hI2 c5
        obtain ⟨m2, hn1, hn2, _⟩ := hfit2 c5
        rw [hn1, Int.toNat_natCast, List.drop_drop] at hI2
        rw [if_pos c5] at e2
        have e2 : Ev (fun k => A10.f k b1 u1 h1) (G2.1, none, b2, u2, h2) := e2
        have hle := sumle m1 m2 _ _ hd hm2 hn2
        have hsum := sumw m1 m2 (Nat.lt_of_le_of_lt hle hlen)
        show OSays (if ¬ G2.2.2 = 0 then PKinds.bad G2.2.2 else if wrap64 (wrap64 (t + d) + g1) ≤ t then PKinds.bad 4 else (wrap64 (wrap64 (t + d) + g1), _, aft kind n t d v e xp xl xn (wrap64 (wrap64 (t + d) + g1)) (IntKind.u64.wrap (IntKind.u64.wrap (v + e) + IntKind.u64.wrap G2.1)) 0 0 0, wrap64 ((m1 : Int) + G2.2.1), 0)) R _
        rw [if_neg (fun c => c c5), hn1, hsum]
        by_cases c6 : wrap64 (wrap64 (t + d) + g1) ≤ t
        · rw [if_pos c6]
          refine osays_err (by decide) (wrap64 (wrap64 (t + d) + g1)) (IntKind.u64.wrap (IntKind.u64.wrap (v + e) + IntKind.u64.wrap G2.1)) (aft kind n t d v e xp xl xn (wrap64 (wrap64 (t + d) + g1)) (IntKind.u64.wrap (IntKind.u64.wrap (v + e) + IntKind.u64.wrap G2.1)) 0 0 0) b2 u2 h2 (Ev.congr (fun k => if_neg c2) (Ev.bind e1 (Ev.congr (fun k => if_pos rfl) (Ev.congr (fun k => if_pos c4) (Ev.bind e2 (Ev.congr (fun k => if_pos rfl) (Ev.congr (fun k => if_pos c6) (Ev.bind ea ?_))))))))
          exact Ev.now _
        · rw [if_neg c6]
          refine osays_ok (T := (wrap64 (wrap64 (t + d) + g1))) (V := (IntKind.u64.wrap (IntKind.u64.wrap (v + e) + IntKind.u64.wrap G2.1))) (s := (aft kind n t d v e xp xl xn (wrap64 (wrap64 (t + d) + g1)) (IntKind.u64.wrap (IntKind.u64.wrap (v + e) + IntKind.u64.wrap G2.1)) 0 0 0)) (Ev.congr (fun k => if_neg c2) (Ev.bind e1 (Ev.congr (fun k => if_pos rfl) (Ev.congr (fun k => if_pos c4) (Ev.bind e2 (Ev.congr (fun k => if_pos rfl) (Ev.congr (fun k => if_neg c6) (Ev.bind ea ?_)))))))) hI2
          exact Ev.now _
      · show OSays (if ¬ G2.2.2 = 0 then PKinds.bad G2.2.2 else _) R _
        rw [if_pos c5]
        rw [if_neg c5] at e2
        have e2 : Ev (fun k => A10.f k b1 u1 h1) (G2.1, some G2.2.2, b2, u2, h2) := e2
        refine osays_err c5 (wrap64 (wrap64 (t + d) + g1)) (IntKind.u64.wrap (IntKind.u64.wrap (v + e) + IntKind.u64.wrap G2.1)) (aft kind n t d v e xp xl xn (wrap64 (wrap64 (t + d) + g1)) (IntKind.u64.wrap (IntKind.u64.wrap (v + e) + IntKind.u64.wrap G2.1)) 0 0 0) b2 u2 h2 (Ev.congr (fun k => if_neg c2) (Ev.bind e1 (Ev.congr (fun k => if_pos rfl) (Ev.congr (fun k => if_pos c4) (Ev.bind e2 (Ev.congr (fun k => if_neg Bool.false_ne_true) (Ev.bind ea ?_)))))))
        exact Ev.now _
    · rw [if_neg c4]
      obtain ⟨V, s0, s1, s2, b2, u2, h2, e2, hv⟩ := Value_is hI1 xp hp xl xn hx
      have hok := PXor.xg_ok xp xl xn hx hp (R.drop m1) (hR.drop m1)
      generalize hG2 : PXor.xg xp xl xn (R.drop m1) = W at *
      unfold PKinds.fin
      have ea := After_is kind n t d v e xp xl xn (wrap64 (wrap64 (t + d) + g1)) V s0 s1 s2 hn
      by_cases c5 : W.2.2.2.2.2 = 0
      · obtain ⟨v1, v2, v3, v4, hI2⟩ := hv c5
        obtain ⟨x, m2, _, _, _, hn2, _, hW⟩ := hok c5
        have hn1 : W.2.2.2.2.1 = (m2 : Int) := by rw [hW]
        rw [hn1, Int.toNat_natCast, List.drop_drop] at hI2
        rw [if_pos c5] at e2
        have hle := sumle m1 m2 _ _ hd hm2 hn2
        have hsum := sumw m1 m2 (Nat.lt_of_le_of_lt hle hlen)
        subst v1 v2 v3 v4
        rw [if_neg (fun c => c c5), hn1, hsum]
        by_cases c6 : wrap64 (wrap64 (t + d) + g1) ≤ t
        · rw [if_pos c6]
          refine osays_err (by decide) (wrap64 (wrap64 (t + d) + g1)) W.1 (aft kind n t d v e xp xl xn (wrap64 (wrap64 (t + d) + g1)) W.1 W.2.1 W.2.2.1 W.2.2.2.1) b2 u2 h2 (Ev.congr (fun k => if_neg c2) (Ev.bind e1 (Ev.congr (fun k => if_pos rfl) (Ev.congr (fun k => if_neg c4) (Ev.bind e2 (Ev.congr (fun k => if_pos rfl) (Ev.congr (fun k => if_pos c6) (Ev.bind ea ?_))))))))
          exact Ev.now _
        · rw [if_neg c6]
          refine osays_ok (T := (wrap64 (wrap64 (t + d) + g1))) (V := W.1) (s := (aft kind n t d v e xp xl xn (wrap64 (wrap64 (t + d) + g1)) W.1 W.2.1 W.2.2.1 W.2.2.2.1)) (Ev.congr (fun k => if_neg c2) (Ev.bind e1 (Ev.congr (fun k => if_pos rfl) (Ev.congr (fun k => if_neg c4) (Ev.bind e2 (Ev.congr (fun k => if_pos rfl) (Ev.congr (fun k => if_neg c6) (Ev.bind ea ?_)))))))) hI2
          exact Ev.now _
      · rw [if_pos c5]
        rw [if_neg c5] at e2
        refine osays_err c5 (wrap64 (wrap64 (t + d) + g1)) V (aft kind n t d v e xp xl xn (wrap64 (wrap64 (t + d) + g1)) V s0 s1 s2) b2 u2 h2 (Ev.congr (fun k => if_neg c2) (Ev.bind e1 (Ev.congr (fun k => if_pos rfl) (Ev.congr (fun k => if_neg c4) (Ev.bind e2 (Ev.congr (fun k => if_neg Bool.false_ne_true) (Ev.bind ea ?_)))))))
        exact Ev.now _
  · rw [if_pos c3]
    rw [if_neg c3] at e1
    have e1 : Ev (fun k => A10.f k b u h) (G.1, some G.2.2, b1, u1, h1) := e1
    refine osays_err c3 0 0 (n, t, d, v, e, xp, (xl : Int), (xn : Int)) b1 u1 h1 (Ev.congr (fun k => if_neg c2) (Ev.bind e1 (Ev.congr (fun k => if_neg Bool.false_ne_true) ?_)))
    exact Ev.now _
end Go.Proofs.YtiahbcaoikoogabDoor.PBatch
end
section
namespace Go.Proofs.YtiahbcaoikoogabDoor.PKinds
open Go Go.RowKit Go.Proofs.YtiahbcaoikoogabDoor Go.Proofs.YtiahbcaoikoogabDoor.All Go.Proofs.YtiahbcaoikoogabDoorW.PrintWords Go.Proofs.YtiahbcaoikoogabDoorW.PrintLast
set_option linter.unusedVariables false
set_option linter.unusedSimpArgs false
theorem fin_code (kind n t d v e xp : Int) (xl xn : Nat) (T m : Int) (W : Int × Int × Int × Int × Int × Int) (hW : W.2.2.2.2.2 = 0 ∨ W.2.2.2.2.2 = 2 ∨ W.2.2.2.2.2 = 3) : (fin kind n t d v e xp xl xn T m W).2.2.2.2 = 0 ∨ (fin kind n t d v e xp xl xn T m W).2.2.2.2 = 2 ∨ (fin kind n t d v e xp xl xn T m W).2.2.2.2 = 3 ∨ (fin kind n t d v e xp xl xn T m W).2.2.2.2 = 4 := by
 unfold fin
 split
 ·rcases hW with h | h | h
  ·exact .inl h
  ·exact .inr (.inl h)
  ·exact .inr (.inr (.inl h))
 ·split
  ·exact .inr (.inr (.inr rfl))
  ·exact .inl rfl
theorem kbd_code (p : Int) (l n : Nat) (R : List Int) (h lead size : Nat) : (PXor.bd p l n R h lead size).2.2.2.2.2 = 0 ∨ (PXor.bd p l n R h lead size).2.2.2.2.2 = 2 ∨ (PXor.bd p l n R h lead size).2.2.2.2.2 = 3 := by
 unfold PXor.bd
 split
 ·exact .inr (.inr rfl)
 ·split
  ·exact .inr (.inl rfl)
  ·split
   ·exact .inl rfl
   ·exact .inr (.inr rfl)
theorem kxg_code (p : Int) (l n : Nat) (R : List Int) : (PXor.xg p l n R).2.2.2.2.2 = 0 ∨ (PXor.xg p l n R).2.2.2.2.2 = 2 ∨ (PXor.xg p l n R).2.2.2.2.2 = 3 := by
 unfold PXor.xg
 split
 ·exact .inr (.inl rfl)
 ·split
  ·exact .inl rfl
  ·split
   ·exact .inr (.inl rfl)
   ·split
    ·split
     ·exact .inr (.inl rfl)
     ·exact kbd_code ..
    ·exact kbd_code ..
theorem kv_code (kind v e xp : Int) (xl xn : Nat) (R : List Int) : (kv kind v e xp xl xn R).2.2.2.2.2 = 0 ∨ (kv kind v e xp xl xn R).2.2.2.2.2 = 2 ∨ (kv kind v e xp xl xn R).2.2.2.2.2 = 3 := by
 unfold kv
 split
 ·exact PDod.gspec_code R
 ·exact kxg_code xp xl xn R
theorem kg_code (kind n t d v e xp : Int) (xl xn : Nat) (R : List Int) : (kg kind n t d v e xp xl xn R).2.2.2.2 = 0 ∨ (kg kind n t d v e xp xl xn R).2.2.2.2 = 2 ∨ (kg kind n t d v e xp xl xn R).2.2.2.2 = 3 ∨ (kg kind n t d v e xp xl xn R).2.2.2.2 = 4 ∨ (kg kind n t d v e xp xl xn R).2.2.2.2 = 6 := by
 unfold kg
 split
 ·exact .inr (.inr (.inr (.inr rfl)))
 ·split
  ·split
   ·exact .inr (.inl rfl)
   ·exact .inl rfl
  ·split
   ·rcases PDod.gspec_code R with h | h | h
    ·exact .inl h
    ·exact .inr (.inl h)
    ·exact .inr (.inr (.inl h))
   ·rcases fin_code kind n t d v e xp xl xn (wrap64 (wrap64 (t + d) + (PDod.A3s R).1)) (PDod.A3s R).2.1 _ (kv_code kind v e xp xl xn (R.drop (PDod.A3s R).2.1.toNat)) with h | h | h | h
    ·exact .inl h
    ·exact .inr (.inl h)
    ·exact .inr (.inr (.inl h))
    ·exact .inr (.inr (.inr (.inl h)))
theorem two64 (A B S : List Int) (hA : A.length = 64) (hB : B.length = 64) : (A ++ B ++ S).take 64 = A ∧ ((A ++ B ++ S).drop 64).take 64 = B ∧ 128 ≤ (A ++ B ++ S).length := by
 refine ⟨?_, ?_, ?_⟩
 ·rw [List.append_assoc, ← hA, List.take_left]
 ·rw [List.append_assoc]
  conv => lhs; arg 2; rw [← hA]
  rw [List.drop_left, ← hB, List.take_left]
 ·rw [List.length_append, List.length_append]; omega
end Go.Proofs.YtiahbcaoikoogabDoor.PKinds
end
section
namespace Go.Proofs.YtiahbcaoikoogabDoor.PRising
open Go Go.RowKit Go.Proofs.YtiahbcaoikoogabDoor Go.Proofs.YtiahbcaoikoogabDoor.All Go.Proofs.YtiahbcaoikoogabDoorW.PrintWords Go.Proofs.YtiahbcaoikoogabDoorW.PrintLast
set_option linter.unusedVariables false
set_option linter.unusedSimpArgs false
def Rg (x : S48) : Prop := (-9223372036854775808 ≤ x.f0 ∧ x.f0 < 9223372036854775808) ∧ (0 ≤ x.f1 ∧ x.f1 < 18446744073709551616)
structure Asc (M : List S48) : Prop where
 rng : ∀ x ∈ M, Rg x
 inc : ∀ (i j : Nat) (hi : i < M.length) (hj : j < M.length), j = i + 1 → M[i].f0 < M[j].f0
theorem Asc.nil : Asc [] := ⟨fun x h => by simp at h, fun i j hi _ _ => absurd hi (Nat.not_lt_zero i)⟩
theorem Asc.snoc {M : List S48} (h : Asc M) {x : S48} (hx : Rg x) (hl : ∀ (i : Nat) (hi : i < M.length), i + 1 = M.length → M[i].f0 < x.f0) : Asc (M ++ [x]) := by
 refine ⟨fun y hy => ?_, fun i j hi hj e => ?_⟩
 ·rcases List.mem_append.mp hy with hy | hy
  ·exact h.rng y hy
  ·rw [List.mem_singleton.mp hy]; exact hx
 ·have hi' : i < M.length + 1 := by rw [List.length_append] at hi; exact hi
  have hj' : j < M.length + 1 := by rw [List.length_append] at hj; exact hj
  have him : i < M.length := by omega
  rw [List.getElem_append_left him]
  by_cases c : j < M.length
  ·rw [List.getElem_append_left c]
   exact h.inc i j him c e
  ·have ej : j = M.length := by omega
   subst ej
   rw [List.getElem_append_right (Nat.le_refl _)]
   have h0 := hl i him (by omega)
   simpa using h0
end Go.Proofs.YtiahbcaoikoogabDoor.PRising
end
section
namespace Go.Proofs.YtiahbcaoikoogabDoor.PChunk
open Go Go.RowKit Go.Proofs.YtiahbcaoikoogabDoor Go.Proofs.YtiahbcaoikoogabDoor.All Go.Proofs.YtiahbcaoikoogabDoorW.PrintWords Go.Proofs.YtiahbcaoikoogabDoorW.PrintLast Go.Proofs.YtiahbcaoikoogabDoor.PKinds Go.Proofs.YtiahbcaoikoogabDoor.PRising
set_option linter.unusedVariables false
set_option linter.unusedSimpArgs false
def enc (kind : Int) : List S48 → S8 → List Int × Int
  | [], _ => ([], 0)
  | x :: r, (n, t, d, v, e, xp, xl, xn) =>
    if (kp kind n t d v e xp xl.toNat xn.toNat x.f0 x.f1).2.2 = 0 then
      (if (enc kind r (kp kind n t d v e xp xl.toNat xn.toNat x.f0 x.f1).2.1).2 = 0 then ((kp kind n t d v e xp xl.toNat xn.toNat x.f0 x.f1).1 ++ (enc kind r (kp kind n t d v e xp xl.toNat xn.toNat x.f0 x.f1).2.1).1, 0)
       else ([], (enc kind r (kp kind n t d v e xp xl.toNat xn.toNat x.f0 x.f1).2.1).2))
    else ([], (kp kind n t d v e xp xl.toNat xn.toNat x.f0 x.f1).2.2)
end Go.Proofs.YtiahbcaoikoogabDoor.PChunk
end
section
namespace Go.Proofs.YtiahbcaoikoogabDoor.PSame
open Go Go.RowKit Go.Proofs.YtiahbcaoikoogabDoor Go.Proofs.YtiahbcaoikoogabDoor.All Go.Proofs.YtiahbcaoikoogabDoorW.PrintWords Go.Proofs.YtiahbcaoikoogabDoorW.PrintLast
set_option linter.unusedVariables false
set_option linter.unusedSimpArgs false
theorem Same_l0 (M : List S48) (hM : M.length ≤ 1000000) : ∀ (r i : Nat), i + r = M.length → Ev (fun k => A04.l0 k M M (i : Int)) 1 := by
 intro r
 induction r with
 | zero =>
  intro i hi
  have hnl : ¬ (i : Int) < (M.length : Int) := by omega
  exact Ev.step (fun k => by rw [A04.l0, if_neg hnl]) (Ev.now _)
 | succ r ih =>
  intro i hi
  have hlt : (i : Int) < (M.length : Int) := by omega
  have wi : wrap64 ((i : Int) + 1) = ((i + 1 : Nat) : Int) := by rw [PBits.w64 _ (by omega)]; omega
  refine Ev.step (fun k => by rw [A04.l0, if_pos hlt, if_pos (Int.natCast_nonneg i), if_pos hlt, beq_self_eq_true, beq_self_eq_true, Bool.not_true, Bool.or_self, if_neg Bool.false_ne_true, wi]) (ih (i + 1) (by omega))
theorem Same_is (M : List S48) (hM : M.length ≤ 1000000) : Ev (fun k => A04.f k M M) 1 := by
 unfold A04.f
 refine Ev.congr (fun k => if_pos rfl) ?_
 exact Same_l0 M hM M.length 0 (by omega)
end Go.Proofs.YtiahbcaoikoogabDoor.PSame
end
section
namespace Go.Proofs.YtiahbcaoikoogabDoor.PSlowB
open Go Go.RowKit Go.Proofs.YtiahbcaoikoogabDoor Go.Proofs.YtiahbcaoikoogabDoor.All Go.Proofs.YtiahbcaoikoogabDoorW.PrintWords Go.Proofs.YtiahbcaoikoogabDoorW.PrintLast Go.Proofs.YtiahbcaoikoogabDoor.PKinds Go.Proofs.YtiahbcaoikoogabDoor.PRising Go.Proofs.YtiahbcaoikoogabDoor.PChunk
set_option linter.unusedVariables false
set_option linter.unusedSimpArgs false
def dec (kind : Int) : Nat → S8 → List Int → List S48 × Int × List Int
 | 0, _, R => ([], 0, R)
 | r + 1, (n, t, d, v, e, xp, xl, xn), R =>
  if (PKinds.kg kind n t d v e xp xl.toNat xn.toNat R).2.2.2.2 = 0 then
   (⟨(PKinds.kg kind n t d v e xp xl.toNat xn.toNat R).1, (PKinds.kg kind n t d v e xp xl.toNat xn.toNat R).2.1⟩ :: (dec kind r (PKinds.kg kind n t d v e xp xl.toNat xn.toNat R).2.2.1 (R.drop (PKinds.kg kind n t d v e xp xl.toNat xn.toNat R).2.2.2.1.toNat)).1,
    (dec kind r (PKinds.kg kind n t d v e xp xl.toNat xn.toNat R).2.2.1 (R.drop (PKinds.kg kind n t d v e xp xl.toNat xn.toNat R).2.2.2.1.toNat)).2)
  else ([], (PKinds.kg kind n t d v e xp xl.toNat xn.toNat R).2.2.2.2, R)
theorem dec_succ (kind : Int) (r : Nat) (n t d v e xp : Int) (xl xn : Nat) (R : List Int) : dec kind (r + 1) (n, t, d, v, e, xp, (xl : Int), (xn : Int)) R =
    if (PKinds.kg kind n t d v e xp xl xn R).2.2.2.2 = 0 then
      (⟨(PKinds.kg kind n t d v e xp xl xn R).1, (PKinds.kg kind n t d v e xp xl xn R).2.1⟩ :: (dec kind r (PKinds.kg kind n t d v e xp xl xn R).2.2.1 (R.drop (PKinds.kg kind n t d v e xp xl xn R).2.2.2.1.toNat)).1,
        (dec kind r (PKinds.kg kind n t d v e xp xl xn R).2.2.1 (R.drop (PKinds.kg kind n t d v e xp xl xn R).2.2.2.1.toNat)).2)
    else ([], (PKinds.kg kind n t d v e xp xl xn R).2.2.2.2, R) := rfl
def fc (D : List S48 × Int × List Int) : Int := if D.2.1 = 0 then (if D.2.2.length ≥ 8 then 3 else if Bs.number D.2.2 = 0 then 0 else 3) else D.2.1
def ans (out : List S48) (D : List S48 × Int × List Int) : List S48 × Option Int := (out ++ D.1, if fc D = 0 then none else some (fc D))
theorem rest_drop (L : List Int) (a : Nat) (h : a ≤ L.length) : PDod.restL L (a : Int) = L.drop a := by
 unfold PDod.restL
 rw [if_neg (by omega), Int.toNat_natCast]
theorem mn_lt (a : Int) (h : a < 8) : mn a 8 = a := by
 unfold mn
 split <;> omega
theorem slow_end (kind : Int) (b : List Int) (hb : Bs.Bytes b) (hl : b.length ≤ 1000000) (nn at_ : Nat) (out : List S48) (s : S8) (n t d v e xp xl xn : Int) (ha : at_ ≤ (Bs.flat b).length) :
    Ev (fun k => A2m.l0 k kind b out (at_ : Int) (nn : Int) (nn : Int) n t d v e xp xl xn) (ans out ([], 0, (Bs.flat b).drop at_)) := by
  have hnl : ¬ (nn : Int) < (nn : Int) := by omega
  have hfl := Bs.A2n b
  have hw8 : wrap64 (8 * (b.length : Int)) = ((Bs.flat b).length : Int) := by rw [PBits.w64 _ (by omega), hfl]; omega
  have hd := List.length_drop (l := Bs.flat b) (i := at_)
  have hwr : wrap64 (((Bs.flat b).length : Int) - (at_ : Int)) = (((Bs.flat b).drop at_).length : Int) := by rw [PBits.w64 _ (by omega), hd]; omega
  have g1 := PBits.Take_is b hb (by omega) (at_ : Int)
  unfold ans fc
  rw [List.append_nil, if_pos rfl]
  by_cases c1 : ((Bs.flat b).drop at_).length ≥ 8
  · have c1' : (((Bs.flat b).drop at_).length : Int) ≥ 8 := by omega
    rw [if_pos c1]
    refine Ev.step (fun k => by rw [A2m.l0, if_neg hnl, hw8, hwr]) (Ev.bind (g1 _) ?_)
    exact Ev.congr (fun k => if_pos c1') (Ev.now _)
  · have c1' : ¬ (((Bs.flat b).drop at_).length : Int) ≥ 8 := by omega
    have g1 := g1 (((Bs.flat b).drop at_).length : Int)
    rw [PBits.tk_yes (by omega), Int.toNat_natCast, Int.toNat_natCast, List.take_of_length_le (Nat.le_refl _)] at g1
    have hmn := mn_lt (((Bs.flat b).drop at_).length : Int) (by omega)
    rw [if_neg c1]
    by_cases c2 : Bs.number ((Bs.flat b).drop at_) = 0
    · have e : (out, if (if Bs.number ((Bs.flat b).drop at_) = 0 then (0 : Int) else 3) = 0 then none else some (if Bs.number ((Bs.flat b).drop at_) = 0 then (0 : Int) else 3)) = (out, none) := by rw [if_pos c2, if_pos rfl]
      show Ev _ (out, if (if Bs.number ((Bs.flat b).drop at_) = 0 then (0 : Int) else 3) = 0 then none else some (if Bs.number ((Bs.flat b).drop at_) = 0 then (0 : Int) else 3))
      rw [e]
      refine Ev.step (fun k => by rw [A2m.l0, if_neg hnl, hw8, hwr, hmn]) (Ev.bind g1 ?_)
      exact Ev.congr (fun k => by rw [if_neg c1', if_pos rfl, if_pos c2]) (Ev.now (out, none))
    · have e : (out, if (if Bs.number ((Bs.flat b).drop at_) = 0 then (0 : Int) else 3) = 0 then none else some (if Bs.number ((Bs.flat b).drop at_) = 0 then (0 : Int) else 3)) = (out, some 3) := by rw [if_neg c2]; rfl
      show Ev _ (out, if (if Bs.number ((Bs.flat b).drop at_) = 0 then (0 : Int) else 3) = 0 then none else some (if Bs.number ((Bs.flat b).drop at_) = 0 then (0 : Int) else 3))
      rw [e]
      refine Ev.step (fun k => by rw [A2m.l0, if_neg hnl, hw8, hwr, hmn]) (Ev.bind g1 ?_)
      exact Ev.congr (fun k => by rw [if_neg c1', if_pos rfl, if_neg c2]) (Ev.now (out, some 3))
theorem ans_cons (out : List S48) (x : S48) (D : List S48 × Int × List Int) : ans out (x :: D.1, D.2) = ans (out ++ [x]) D := by
 unfold ans fc
 rw [List.append_assoc]
 rfl
theorem slow_l0 (kind : Int) (b : List Int) (hb : Bs.Bytes b) (hl : b.length ≤ 1000000) (nn : Nat) (hnn : nn ≤ 65535) :
    ∀ (r j at_ : Nat) (out : List S48) (n t d v e xp : Int) (xl xn : Nat), j + r = nn → out.length = j → at_ ≤ (Bs.flat b).length → Ok (j : Int) (n, t, d, v, e, xp, (xl : Int), (xn : Int)) →
      Ev (fun k => A2m.l0 k kind b out (at_ : Int) (nn : Int) (j : Int) n t d v e xp (xl : Int) (xn : Int)) (ans out (dec kind r (n, t, d, v, e, xp, (xl : Int), (xn : Int)) ((Bs.flat b).drop at_))) := by
  intro r
  induction r with
  | zero =>
    intro j at_ out n t d v e xp xl xn hj ho ha hok
    obtain rfl : j = nn := by omega
    exact slow_end kind b hb hl j at_ out z8 n t d v e xp (xl : Int) (xn : Int) ha
  | succ r ih =>
    intro j at_ out n t d v e xp xl xn hj ho ha hok
    have hlt : (j : Int) < (nn : Int) := by omega
    obtain ⟨xl', xn', el, en, hx⟩ := hok.w
    have hx : xl + xn ≤ 64 := by
      have e1 : (xl : Int) = (xl' : Int) := el
      have e2 : (xn : Int) = (xn' : Int) := en
      omega
    have hp := hok.p0
    have hn0 : 0 ≤ n := hok.n0
    have hn1 : n ≤ (j : Int) := hok.n1
    have hfl := Bs.A2n b
    have hd := List.length_drop (l := Bs.flat b) (i := at_)
    have g1 := PKinds.Get_is kind n t d v e xp xl xn hn0 hp hx b hb (by omega) (at_ : Int) (by omega)
    rw [rest_drop _ _ ha] at g1
    have hRb := (Bs.A36 b).drop at_
    have ko := kg_ok (j : Int) (by omega) kind n t d v e xp xl xn ⟨hn0, hn1⟩ hp hx _ hRb (by omega)
    rw [dec_succ]
    generalize PKinds.kg kind n t d v e xp xl xn ((Bs.flat b).drop at_) = K at *
    obtain ⟨T, V, ⟨n', t', d', v', e', xp', al, an⟩, len, c⟩ := K
    have ho8 : out.length < 8796093022208 := by omega
    by_cases c0 : c = 0
    · obtain ⟨ko', m, hm1, hm2, hm3⟩ := ko c0
      have hm1 : len = (m : Int) := hm1
      subst hm1
      obtain ⟨yl, yn, e1, e2, hy⟩ := ko'.w
      have e1 : al = (yl : Int) := e1
      have e2 : an = (yn : Int) := e2
      subst e1 e2 c0
      have g1 : Ev (fun k => A3m.f k kind n t d v e xp (xl : Int) (xn : Int) b (at_ : Int)) (T, V, n', t', d', v', e', xp', (yl : Int), (yn : Int), (m : Int), none) := g1
      have hok2 : Ok ((j + 1 : Nat) : Int) (n', t', d', v', e', xp', (yl : Int), (yn : Int)) := by
        rw [show ((j + 1 : Nat) : Int) = (j : Int) + 1 from by omega]
        exact ko'
      have l1 : (out ++ [(⟨T, V⟩ : S48)]).length = j + 1 := by rw [List.length_append, List.length_singleton, ho]
      have l2 : at_ + m ≤ (Bs.flat b).length := by
        have hm2 : m ≤ ((Bs.flat b).drop at_).length := hm2
        omega
      have l3 : j + 1 + r = nn := by omega
      have wj : wrap64 ((j : Int) + 1) = ((j + 1 : Nat) : Int) := by rw [PBits.w64 _ (by omega)]; omega
      have wa : wrap64 ((at_ : Int) + (m : Int)) = ((at_ + m : Nat) : Int) := by rw [PBits.w64 _ (by omega)]; omega
      have h1 := ih (j + 1) (at_ + m) (out ++ [⟨T, V⟩]) n' t' d' v' e' xp' yl yn l3 l1 l2 hok2
      rw [← List.drop_drop] at h1
      show Ev _ (ans out (⟨T, V⟩ :: (dec kind r (n', t', d', v', e', xp', (yl : Int), (yn : Int)) (((Bs.flat b).drop at_).drop (m : Int).toNat)).1, (dec kind r (n', t', d', v', e', xp', (yl : Int), (yn : Int)) (((Bs.flat b).drop at_).drop (m : Int).toNat)).2))
      rw [ans_cons, Int.toNat_natCast]
      refine Ev.step (fun k => by rw [A2m.l0, if_pos hlt]) (Ev.bind g1 ?_)
      refine Ev.congr (fun k => by rw [if_pos (show (none : Option Int).isNone = true from rfl), if_pos ho8, wa, wj]) h1
    · have g1 : Ev (fun k => A3m.f k kind n t d v e xp (xl : Int) (xn : Int) b (at_ : Int)) (T, V, n', t', d', v', e', xp', al, an, len, some c) := by
        have h := g1
        unfold gimp8 at h
        rw [if_neg c0] at h
        exact h
      have he : ∀ D : List S48 × Int × List Int, ans out (if c = 0 then (⟨T, V⟩ :: D.1, D.2) else ([], c, (Bs.flat b).drop at_)) = (out, some c) := by
        intro D
        rw [if_neg c0]
        unfold ans fc
        rw [if_neg c0, if_neg c0, List.append_nil]
      show Ev _ (ans out (if c = 0 then (⟨T, V⟩ :: (dec kind r (n', t', d', v', e', xp', al, an) (((Bs.flat b).drop at_).drop len.toNat)).1, (dec kind r (n', t', d', v', e', xp', al, an) (((Bs.flat b).drop at_).drop len.toNat)).2) else ([], c, (Bs.flat b).drop at_)))
      rw [he]
      refine Ev.step (fun k => by rw [A2m.l0, if_pos hlt]) (Ev.bind g1 ?_)
      exact Ev.congr (fun k => if_neg Bool.false_ne_true) (Ev.now (out, some c))
theorem Decode_is (kind : Int) (b : List Int) (hb : Bs.Bytes b) (hl : b.length ≤ 1000000) (nn : Nat) (h1 : 1 ≤ nn) (h2 : nn ≤ 65535) : Ev (fun k => A2m.f k kind b (nn : Int)) (ans [] (dec kind nn z8 (Bs.flat b))) := by
 unfold A2m.f
 have c1 : ¬ (nn : Int) < 1 := by omega
 have c2 : ¬ (nn : Int) > 65535 := by omega
 simp only [if_neg c1]
 rw [decide_eq_false c2]
 have h := slow_l0 kind b hb hl nn h2 nn 0 0 [] 0 0 0 0 0 0 0 0 (by omega) rfl (Nat.zero_le _) (ok_zero 0 (Int.le_refl _))
 rw [List.drop_zero] at h
 exact Ev.step (fun k => by rw [A2m.j0, if_neg Bool.false_ne_true]; rfl) h
theorem Decode_no (kind : Int) (b : List Int) (n : Int) (h : n < 1 ∨ n > 65535) : Ev (fun k => A2m.f k kind b n) ([], some 1) := by
 have hno : ∀ x, x = true → Ev (fun k => A2m.j0 k kind b n x) (([] : List S48), some 1) := by
  intro x hx
  subst hx
  exact Ev.step (fun k => by rw [A2m.j0, if_pos rfl]) (Ev.now _)
 unfold A2m.f
 by_cases c1 : n < 1
 ·simp only [if_pos c1]
  exact hno _ rfl
 ·simp only [if_neg c1]
  exact hno _ (decide_eq_true (h.resolve_left c1))
end Go.Proofs.YtiahbcaoikoogabDoor.PSlowB
end
