-- copied by a program of the session
import Derived.Test.YtiahbcaoikoogabDoorKnPSlowB
import Derived.Test.YtiahbcaoikoogabDoorKnAllx44
import Derived.Deep.SlicePairs
import Derived.SizedLaws
section
namespace Go.Proofs.YtiahbcaoikoogabDoor.PBatch
open Go Go.RowKit Go.Proofs.YtiahbcaoikoogabDoor Go.Proofs.YtiahbcaoikoogabDoor.All Go.Proofs.YtiahbcaoikoogabDoorW.PrintWords Go.Proofs.YtiahbcaoikoogabDoorW.PrintLast Go.Proofs.YtiahbcaoikoogabDoor.PKinds Go.Proofs.YtiahbcaoikoogabDoor.PSlowB
set_option linter.unusedVariables false
set_option linter.unusedSimpArgs false
def nxs (kind : Int) : Nat → S8 → List Int → S8
 | 0, s, _ => s
 | r + 1, (n, t, d, v, e, xp, xl, xn), R =>
  if (PKinds.kg kind n t d v e xp xl.toNat xn.toNat R).2.2.2.2 = 0 then nxs kind r (PKinds.kg kind n t d v e xp xl.toNat xn.toNat R).2.2.1 (R.drop (PKinds.kg kind n t d v e xp xl.toNat xn.toNat R).2.2.2.1.toNat)
  else (n, t, d, v, e, xp, xl, xn)
theorem nxs_succ (kind : Int) (r : Nat) (n t d v e xp : Int) (xl xn : Nat) (R : List Int) : nxs kind (r + 1) (n, t, d, v, e, xp, (xl : Int), (xn : Int)) R =
    if (PKinds.kg kind n t d v e xp xl xn R).2.2.2.2 = 0 then nxs kind r (PKinds.kg kind n t d v e xp xl xn R).2.2.1 (R.drop (PKinds.kg kind n t d v e xp xl xn R).2.2.2.1.toNat)
    else (n, t, d, v, e, xp, (xl : Int), (xn : Int)) := rfl
theorem dec_step (kind : Int) (r : Nat) (n t d v e xp xl xn : Int) (R : List Int) : dec kind (r + 1) (n, t, d, v, e, xp, xl, xn) R =
    if (PKinds.kg kind n t d v e xp xl.toNat xn.toNat R).2.2.2.2 = 0 then
      (⟨(PKinds.kg kind n t d v e xp xl.toNat xn.toNat R).1, (PKinds.kg kind n t d v e xp xl.toNat xn.toNat R).2.1⟩ :: (dec kind r (PKinds.kg kind n t d v e xp xl.toNat xn.toNat R).2.2.1 (R.drop (PKinds.kg kind n t d v e xp xl.toNat xn.toNat R).2.2.2.1.toNat)).1,
        (dec kind r (PKinds.kg kind n t d v e xp xl.toNat xn.toNat R).2.2.1 (R.drop (PKinds.kg kind n t d v e xp xl.toNat xn.toNat R).2.2.2.1.toNat)).2)
    else ([], (PKinds.kg kind n t d v e xp xl.toNat xn.toNat R).2.2.2.2, R) := rfl
theorem nxs_step (kind : Int) (r : Nat) (n t d v e xp xl xn : Int) (R : List Int) : nxs kind (r + 1) (n, t, d, v, e, xp, xl, xn) R =
    if (PKinds.kg kind n t d v e xp xl.toNat xn.toNat R).2.2.2.2 = 0 then nxs kind r (PKinds.kg kind n t d v e xp xl.toNat xn.toNat R).2.2.1 (R.drop (PKinds.kg kind n t d v e xp xl.toNat xn.toNat R).2.2.2.1.toNat)
    else (n, t, d, v, e, xp, xl, xn) := rfl
theorem dec_add (kind : Int) : ∀ (a b : Nat) (s : S8) (R : List Int), (dec kind a s R).2.1 = 0 → dec kind (a + b) s R = ((dec kind a s R).1 ++ (dec kind b (nxs kind a s R) (dec kind a s R).2.2).1, (dec kind b (nxs kind a s R) (dec kind a s R).2.2).2) := by
 intro a
 induction a with
 | zero =>
  intro b s R h
  rw [Nat.zero_add]
  obtain ⟨n, t, d, v, e, xp, xl, xn⟩ := s
  rfl
 | succ a ih =>
  intro b s R h
  rw [Nat.succ_add]
  obtain ⟨n, t, d, v, e, xp, xl, xn⟩ := s
  rw [dec_step] at h
  rw [dec_step kind (a + b), dec_step kind a, nxs_step]
  generalize PKinds.kg kind n t d v e xp xl.toNat xn.toNat R = K at *
  by_cases c : K.2.2.2.2 = 0
  ·rw [if_pos c] at h ⊢
   rw [if_pos c, if_pos c]
   rw [ih b _ _ h]
   rfl
  ·rw [if_neg c] at h
   exact absurd h c
theorem dec_err (kind : Int) : ∀ (a b : Nat) (s : S8) (R : List Int), ¬ (dec kind a s R).2.1 = 0 → dec kind (a + b) s R = dec kind a s R := by
 intro a
 induction a with
 | zero =>
  intro b s R h
  obtain ⟨n, t, d, v, e, xp, xl, xn⟩ := s
  exact absurd rfl h
 | succ a ih =>
  intro b s R h
  rw [Nat.succ_add]
  obtain ⟨n, t, d, v, e, xp, xl, xn⟩ := s
  rw [dec_step] at h
  rw [dec_step kind (a + b), dec_step kind a]
  generalize PKinds.kg kind n t d v e xp xl.toNat xn.toNat R = K at *
  by_cases c : K.2.2.2.2 = 0
  ·rw [if_pos c] at h ⊢
   rw [if_pos c]
   rw [ih b _ _ h]
  ·rw [if_neg c, if_neg c]
theorem dec_len (kind : Int) : ∀ (a : Nat) (s : S8) (R : List Int), (dec kind a s R).1.length ≤ a ∧ ((dec kind a s R).2.1 = 0 → (dec kind a s R).1.length = a) := by
 intro a
 induction a with
 | zero =>
  intro s R
  obtain ⟨n, t, d, v, e, xp, xl, xn⟩ := s
  exact ⟨Nat.le_refl _, fun _ => rfl⟩
 | succ a ih =>
  intro s R
  obtain ⟨n, t, d, v, e, xp, xl, xn⟩ := s
  unfold dec
  generalize PKinds.kg kind n t d v e xp xl.toNat xn.toNat R = K at *
  have h := ih K.2.2.1 (R.drop K.2.2.2.1.toNat)
  by_cases c : K.2.2.2.2 = 0
  ·rw [if_pos c]
   refine ⟨?_, fun q => ?_⟩
   ·show (_ :: (dec kind a K.2.2.1 (R.drop K.2.2.2.1.toNat)).1).length ≤ a + 1
    rw [List.length_cons]
    have := h.1
    omega
   ·show (_ :: (dec kind a K.2.2.1 (R.drop K.2.2.2.1.toNat)).1).length = a + 1
    rw [List.length_cons, h.2 q]
  ·rw [if_neg c]
   exact ⟨Nat.zero_le _, fun q => absurd q c⟩
theorem dec_rest (kind : Int) : ∀ (a : Nat) (s : S8) (R : List Int), (dec kind a s R).2.2.length ≤ R.length := by
 intro a
 induction a with
 | zero =>
  intro s R
  obtain ⟨n, t, d, v, e, xp, xl, xn⟩ := s
  exact Nat.le_refl _
 | succ a ih =>
  intro s R
  obtain ⟨n, t, d, v, e, xp, xl, xn⟩ := s
  unfold dec
  generalize PKinds.kg kind n t d v e xp xl.toNat xn.toNat R = K at *
  by_cases c : K.2.2.2.2 = 0
  ·rw [if_pos c]
   show (dec kind a K.2.2.1 (R.drop K.2.2.2.1.toNat)).2.2.length ≤ R.length
   have h := ih K.2.2.1 (R.drop K.2.2.2.1.toNat)
   rw [List.length_drop] at h
   omega
  ·rw [if_neg c]
   exact Nat.le_refl _
abbrev NOut := List S48 × Int × Int × Int × Int × Int × Int × Int × Int × Option Int × List Int × Int × Int
def npk (L : List S48) (s : S8) (c : Option Int) (b : List Int) (u h : Int) : NOut := (L, s.1, s.2.1, s.2.2.1, s.2.2.2.1, s.2.2.2.2.1, s.2.2.2.2.2.1, s.2.2.2.2.2.2.1, s.2.2.2.2.2.2.2, c, b, u, h)
def NSays (B : Int) (out : List S48) (D : List S48 × Int × List Int) (s' : S8) (f : Nat → Option NOut) : Prop :=
 ∃ s b' u' h', Ev f (npk (out ++ D.1) s (if D.2.1 = 0 then none else some D.2.1) b' u' h') ∧ (D.2.1 = 0 → s = s' ∧ PFill.Inv D.2.2 b' u' h' ∧ Ok B s')
theorem Next_l0 (kind : Int) (hk : kind = 1 ∨ kind = 2) (N : Nat) (hN : N ≤ 65535) (base : Nat) (hbase : base ≤ 65535) :
    ∀ (r j : Nat) (R b : List Int) (u h : Int) (out : List S48) (n t d v e xp : Int) (xl xn : Nat), j + r = N → out.length = j → PFill.Inv R b u h → R.length < 70368744177664 → Ok ((base + j : Nat) : Int) (n, t, d, v, e, xp, (xl : Int), (xn : Int)) →
      NSays ((base + N : Nat) : Int) out (dec kind r (n, t, d, v, e, xp, (xl : Int), (xn : Int)) R) (nxs kind r (n, t, d, v, e, xp, (xl : Int), (xn : Int)) R)
        (fun k => A1h.l0 k kind out (N : Int) (j : Int) b u h n t d v e xp (xl : Int) (xn : Int)) := by
  intro r
  induction r with
  | zero =>
    intro j R b u h out n t d v e xp xl xn hj ho hI hRl hok
    obtain rfl : j = N := by omega
    have hnl : ¬ (j : Int) < (j : Int) := by omega
    refine ⟨(n, t, d, v, e, xp, (xl : Int), (xn : Int)), b, u, h, ?_, fun _ => ⟨rfl, hI, hok⟩⟩
    show Ev _ (npk (out ++ []) (n, t, d, v, e, xp, (xl : Int), (xn : Int)) none b u h)
    rw [List.append_nil]
    exact Ev.step (fun k => by rw [A1h.l0, if_neg hnl]; rfl) (Ev.now _)
  | succ r ih =>
    intro j R b u h out n t d v e xp xl xn hj ho hI hRl hok
    have hlt : (j : Int) < (N : Int) := by omega
    obtain ⟨xl', xn', el, en, hx⟩ := hok.w
    have hx : xl + xn ≤ 64 := by
      have e1 : (xl : Int) = (xl' : Int) := el
      have e2 : (xn : Int) = (xn' : Int) := en
      omega
    have hp := hok.p0
    have hn0 : 0 ≤ n := hok.n0
    have hn1 : n ≤ ((base + j : Nat) : Int) := hok.n1
    have ho8 : out.length < 8796093022208 := by omega
    have hOne := One_is kind hk hI n t d v e xp xl xn hn0 hp hx
    have ko := kg_ok ((base + j : Nat) : Int) (by omega) kind n t d v e xp xl xn ⟨hn0, hn1⟩ hp hx R hI.bits hRl
    rw [dec_succ, nxs_succ]
    generalize PKinds.kg kind n t d v e xp xl xn R = K at *
    obtain ⟨T, V, s, b1, u1, h1, g1, g2⟩ := hOne
    obtain ⟨KT, KV, ⟨n', t', d', v', e', xp', al, an⟩, len, c⟩ := K
    have g1 : Ev (fun k => A1s.f k kind b u h n t d v e xp (xl : Int) (xn : Int)) (pk8 T V s (if c = 0 then none else some c) b1 u1 h1) := g1
    by_cases c0 : c = 0
    · obtain ⟨q1, q2, q3, hI1⟩ := g2 c0
      obtain ⟨ko', m, hm1, hm2, _⟩ := ko c0
      have q1 : T = KT := q1
      have q2 : V = KV := q2
      have q3 : s = (n', t', d', v', e', xp', al, an) := q3
      have hm1 : len = (m : Int) := hm1
      subst hm1
      obtain ⟨yl, yn, e1, e2, hy⟩ := ko'.w
      have e1 : al = (yl : Int) := e1
      have e2 : an = (yn : Int) := e2
      subst e1 e2 q1 q2 q3
      rw [if_pos c0] at g1
      have hI1 : PFill.Inv (R.drop (m : Int).toNat) b1 u1 h1 := hI1
      have hok2 : Ok ((base + (j + 1) : Nat) : Int) (n', t', d', v', e', xp', (yl : Int), (yn : Int)) := by
        rw [show ((base + (j + 1) : Nat) : Int) = ((base + j : Nat) : Int) + 1 from by omega]
        exact ko'
      have l1 : (out ++ [(⟨T, V⟩ : S48)]).length = j + 1 := by rw [List.length_append, List.length_singleton, ho]
      have l3 : j + 1 + r = N := by omega
      have l4 : (R.drop (m : Int).toNat).length < 70368744177664 := Nat.lt_of_le_of_lt (by rw [List.length_drop]; exact Nat.sub_le _ _) hRl
      have wj : wrap64 ((j : Int) + 1) = ((j + 1 : Nat) : Int) := by rw [PBits.w64 _ (by omega)]; omega
      have hnext := ih (j + 1) (R.drop (m : Int).toNat) b1 u1 h1 (out ++ [⟨T, V⟩]) n' t' d' v' e' xp' yl yn l3 l1 hI1 l4 hok2
      generalize hD : dec kind r (n', t', d', v', e', xp', (yl : Int), (yn : Int)) (R.drop (m : Int).toNat) = D at hnext
      generalize hS : nxs kind r (n', t', d', v', e', xp', (yl : Int), (yn : Int)) (R.drop (m : Int).toNat) = s' at hnext
      obtain ⟨s2, b2, u2, h2, f1, f2⟩ := hnext
      show NSays ((base + N : Nat) : Int) out (if c = 0 then (((⟨T, V⟩ : S48) :: D.1, D.2) : List S48 × Int × List Int) else ([], c, R)) (if c = 0 then s' else (n, t, d, v, e, xp, (xl : Int), (xn : Int))) _
      rw [if_pos c0, if_pos c0]
      refine ⟨s2, b2, u2, h2, ?_, f2⟩
      rw [List.append_assoc] at f1
      refine Ev.step (fun k => by rw [A1h.l0, if_pos hlt]) (Ev.bind g1 ?_)
      exact Ev.congr (fun k => if_pos rfl) (Ev.congr (fun k => by rw [if_pos ho8, wj]; rfl) f1)
    · rw [if_neg c0] at g1
      have hDD : ∀ D : List S48 × Int × List Int, (if c = 0 then (((⟨KT, KV⟩ : S48) :: D.1, D.2) : List S48 × Int × List Int) else ([], c, R)) = ([], c, R) := fun D => if_neg c0
      have hSS : ∀ q : S8, (if c = 0 then q else (n, t, d, v, e, xp, (xl : Int), (xn : Int))) = (n, t, d, v, e, xp, (xl : Int), (xn : Int)) := fun q => if_neg c0
      show NSays ((base + N : Nat) : Int) out (if c = 0 then (((⟨KT, KV⟩ : S48) :: (dec kind r (n', t', d', v', e', xp', al, an) (R.drop len.toNat)).1, (dec kind r (n', t', d', v', e', xp', al, an) (R.drop len.toNat)).2) : List S48 × Int × List Int) else ([], c, R)) (if c = 0 then nxs kind r (n', t', d', v', e', xp', al, an) (R.drop len.toNat) else (n, t, d, v, e, xp, (xl : Int), (xn : Int))) _
      rw [hDD, hSS]
      refine ⟨(n, t, d, v, e, xp, (xl : Int), (xn : Int)), b1, u1, h1, ?_, fun q => absurd q c0⟩
      show Ev _ (npk (out ++ []) (n, t, d, v, e, xp, (xl : Int), (xn : Int)) (if c = 0 then none else some c) b1 u1 h1)
      rw [List.append_nil, if_neg c0]
      refine Ev.step (fun k => by rw [A1h.l0, if_pos hlt]) (Ev.bind g1 ?_)
      exact Ev.congr (fun k => if_neg Bool.false_ne_true) (Ev.now _)
theorem Next_is (kind : Int) (hk : kind = 1 ∨ kind = 2) (q : Nat) (hq : q ≤ 65535) (base : Nat) (hbase : base ≤ 65535) (R b : List Int) (u h : Int) (hI : PFill.Inv R b u h) (hRl : R.length < 70368744177664) (n t d v e xp : Int) (xl xn : Nat) (hok : Ok (base : Int) (n, t, d, v, e, xp, (xl : Int), (xn : Int))) :
    NSays ((base + min q 32 : Nat) : Int) [] (dec kind (min q 32) (n, t, d, v, e, xp, (xl : Int), (xn : Int)) R) (nxs kind (min q 32) (n, t, d, v, e, xp, (xl : Int), (xn : Int)) R)
      (fun k => A1h.f k kind b u h n t d v e xp (xl : Int) (xn : Int) (q : Int)) := by
  have hmn : mn (q : Int) 32 = ((min q 32 : Nat) : Int) := by
    unfold mn
    split <;> omega
  obtain ⟨s2, b2, u2, h2, f1, f2⟩ := Next_l0 kind hk (min q 32) (by omega) base hbase (min q 32) 0 R b u h [] n t d v e xp xl xn (by omega) rfl hI hRl hok
  refine ⟨s2, b2, u2, h2, ?_, f2⟩
  have hj : Ev (fun k => A1h.j0 k kind (q : Int) false b u h n t d v e xp (xl : Int) (xn : Int)) (npk ([] ++ (dec kind (min q 32) (n, t, d, v, e, xp, (xl : Int), (xn : Int)) R).1) s2 (if (dec kind (min q 32) (n, t, d, v, e, xp, (xl : Int), (xn : Int)) R).2.1 = 0 then none else some (dec kind (min q 32) (n, t, d, v, e, xp, (xl : Int), (xn : Int)) R).2.1) b2 u2 h2) :=
    Ev.step (fun k => by rw [A1h.j0, if_neg Bool.false_ne_true, hmn]; rfl) f1
  unfold A1h.f
  rcases hk with rfl | rfl
  · exact Ev.congr (fun k => if_pos rfl) hj
  · exact Ev.congr (fun k => if_neg (by decide)) hj
theorem Next_no (kind : Int) (hk : ¬ (kind = 1 ∨ kind = 2)) (q : Int) (b : List Int) (u h n t d v e xp xl xn : Int) : Ev (fun k => A1h.f k kind b u h n t d v e xp xl xn q) (npk [] (n, t, d, v, e, xp, xl, xn) (some 6) b u h) := by
 unfold A1h.f
 have c1 : ¬ kind = 1 := fun c => hk (.inl c)
 have c2 : (kind != 2) = true := bne_iff_ne.mpr (fun c => hk (.inr c))
 refine Ev.congr (fun k => if_neg c1) ?_
 rw [c2]
 exact Ev.step (fun k => by rw [A1h.j0, if_pos rfl]; rfl) (Ev.now _)
end Go.Proofs.YtiahbcaoikoogabDoor.PBatch
end
section
namespace Go.Proofs.YtiahbcaoikoogabDoor.PQuick
open Go Go.RowKit Go.Proofs.YtiahbcaoikoogabDoor Go.Proofs.YtiahbcaoikoogabDoor.All Go.Proofs.YtiahbcaoikoogabDoorW.PrintWords Go.Proofs.YtiahbcaoikoogabDoorW.PrintLast Go.Proofs.YtiahbcaoikoogabDoor.PKinds Go.Proofs.YtiahbcaoikoogabDoor.PSlowB Go.Proofs.YtiahbcaoikoogabDoor.PBatch
set_option linter.unusedVariables false
set_option linter.unusedSimpArgs false
theorem pk_zero {R : List Int} (hR : Bs.Bits R) (h8 : R.length < 8) : PFill.pk R (R.length : Int) = Bs.number R := by
 unfold PFill.pk
 by_cases c : (R.length : Int) < 1
 ·rw [if_pos (.inl c)]
  have e : R = [] := List.eq_nil_of_length_eq_zero (by omega)
  rw [e, Bs.number_nil]
 ·rw [if_neg (by omega), Int.toNat_natCast, List.take_append_of_le_length (Nat.le_refl _), List.take_of_length_le (Nat.le_refl _)]
theorem quick_end (kind : Int) (nn : Nat) (out : List S48) (ho : out.length = nn) {R b : List Int} {u h : Int} (hI : PFill.Inv R b u h) (n t d v e xp xl xn : Int) :
    Ev (fun k => A0u.l0 k kind (nn : Int) out n t d v e xp xl xn b u h) (ans out ([], 0, R)) := by
  have hnl : ¬ (out.length : Int) < (nn : Int) := by omega
  have hl := PFill.Left_is hI
  unfold ans fc
  rw [List.append_nil, if_pos rfl]
  by_cases c1 : R.length ≥ 8
  · have c1' : (R.length : Int) ≥ 8 := by omega
    show Ev _ (out, if (if R.length ≥ 8 then (3 : Int) else if Bs.number R = 0 then 0 else 3) = 0 then none else some (if R.length ≥ 8 then (3 : Int) else if Bs.number R = 0 then 0 else 3))
    rw [if_pos c1]
    refine Ev.step (fun k => by rw [A0u.l0, if_neg hnl, hl, Option.bind_some]) ?_
    exact Ev.congr (fun k => if_pos c1') (Ev.now (out, some 3))
  · have c1' : ¬ (R.length : Int) ≥ 8 := by omega
    obtain ⟨b2, u2, h2, e2, _⟩ := PFill.Peek_is hI (R.length : Int)
    rw [pk_zero hI.bits (by omega)] at e2
    show Ev _ (out, if (if R.length ≥ 8 then (3 : Int) else if Bs.number R = 0 then 0 else 3) = 0 then none else some (if R.length ≥ 8 then (3 : Int) else if Bs.number R = 0 then 0 else 3))
    rw [if_neg c1]
    by_cases c2 : Bs.number R = 0
    · have e : (out, if (if Bs.number R = 0 then (0 : Int) else 3) = 0 then none else some (if Bs.number R = 0 then (0 : Int) else 3)) = (out, none) := by rw [if_pos c2, if_pos rfl]
      rw [e]
      refine Ev.step (fun k => by rw [A0u.l0, if_neg hnl, hl, Option.bind_some]) ?_
      exact Ev.congr (fun k => if_neg c1') (Ev.bind e2 (Ev.congr (fun k => if_pos c2) (Ev.now (out, none))))
    · have e : (out, if (if Bs.number R = 0 then (0 : Int) else 3) = 0 then none else some (if Bs.number R = 0 then (0 : Int) else 3)) = (out, some 3) := by rw [if_neg c2]; rfl
      rw [e]
      refine Ev.step (fun k => by rw [A0u.l0, if_neg hnl, hl, Option.bind_some]) ?_
      exact Ev.congr (fun k => if_neg c1') (Ev.bind e2 (Ev.congr (fun k => if_neg c2) (Ev.now (out, some 3))))
theorem ans_app (out L : List S48) (D : List S48 × Int × List Int) : ans out (L ++ D.1, D.2) = ans (out ++ L) D := by
 unfold ans fc
 rw [List.append_assoc]
theorem ans_bad (out : List S48) (D : List S48 × Int × List Int) (h : ¬ D.2.1 = 0) : ans out D = (out ++ D.1, some D.2.1) := by
 have hf : fc D = D.2.1 := by
  unfold fc
  rw [if_neg h]
 unfold ans
 rw [hf, if_neg h]
theorem sub_w (a b : Nat) (h : b ≤ a) (h2 : a ≤ 65535) : wrap64 ((a : Int) - (b : Int)) = ((a - b : Nat) : Int) := by rw [PBits.w64 _ (by omega)]; omega
theorem quick_l0 (kind : Int) (hk : kind = 1 ∨ kind = 2) (nn : Nat) (hnn : nn ≤ 65535) :
    ∀ (f r : Nat), r ≤ f → ∀ (R b : List Int) (u h : Int) (out : List S48) (n t d v e xp : Int) (xl xn : Nat), out.length + r = nn → PFill.Inv R b u h → R.length < 70368744177664 → Ok (out.length : Int) (n, t, d, v, e, xp, (xl : Int), (xn : Int)) →
      Ev (fun k => A0u.l0 k kind (nn : Int) out n t d v e xp (xl : Int) (xn : Int) b u h) (ans out (dec kind r (n, t, d, v, e, xp, (xl : Int), (xn : Int)) R)) := by
  intro f
  induction f with
  | zero =>
    intro r hr R b u h out n t d v e xp xl xn ho hI hRl hok
    obtain rfl : r = 0 := by omega
    exact quick_end kind nn out (by omega) hI n t d v e xp (xl : Int) (xn : Int)
  | succ f ih =>
    intro r hr R b u h out n t d v e xp xl xn ho hI hRl hok
    by_cases c0 : r = 0
    · subst c0
      exact quick_end kind nn out (by omega) hI n t d v e xp (xl : Int) (xn : Int)
    have hlt : (out.length : Int) < (nn : Int) := by omega
    have hw := sub_w nn out.length (by omega) hnn
    have hr2 : nn - out.length = r := by omega
    rw [hr2] at hw
    obtain ⟨a, ha⟩ : ∃ a, r = min r 32 + a := ⟨r - min r 32, by omega⟩
    have hmin : 1 ≤ min r 32 := by omega
    have hdl := dec_len kind (min r 32) (n, t, d, v, e, xp, (xl : Int), (xn : Int)) R
    have hda := dec_add kind (min r 32) a (n, t, d, v, e, xp, (xl : Int), (xn : Int)) R
    have hde := dec_err kind (min r 32) a (n, t, d, v, e, xp, (xl : Int), (xn : Int)) R
    rw [← ha] at hda hde
    obtain ⟨s2, b2, u2, h2, g1, g2⟩ := Next_is kind hk r (by omega) out.length (by omega) R b u h hI hRl n t d v e xp xl xn hok
    have hsub : ∀ L : List Int, L = (dec kind (min r 32) (n, t, d, v, e, xp, (xl : Int), (xn : Int)) R).2.2 → (dec kind (min r 32) (n, t, d, v, e, xp, (xl : Int), (xn : Int)) R).2.1 = 0 → L.length < 70368744177664 := by
      intro L hL hz
      rw [hL]
      exact Nat.lt_of_le_of_lt (dec_rest kind _ _ R) hRl
    generalize dec kind (min r 32) (n, t, d, v, e, xp, (xl : Int), (xn : Int)) R = D at *
    generalize nxs kind (min r 32) (n, t, d, v, e, xp, (xl : Int), (xn : Int)) R = s' at *
    have hd1 := hdl.1
    have hroom : out.length + D.1.length < 8796093022208 := by omega
    by_cases c1 : D.2.1 = 0
    · obtain ⟨q1, hI2, hok2⟩ := g2 c1
      rw [hda c1, ans_app]
      rw [if_pos c1] at g1
      subst q1
      obtain ⟨n', t', d', v', e', xp', al, an⟩ := s2
      obtain ⟨yl, yn, e1, e2, hy⟩ := hok2.w
      have e1 : al = (yl : Int) := e1
      have e2 : an = (yn : Int) := e2
      subst e1 e2
      have hl2 : (out ++ D.1).length = out.length + min r 32 := by rw [List.length_append, hdl.2 c1]
      have hok3 : Ok ((out ++ D.1).length : Int) (n', t', d', v', e', xp', (yl : Int), (yn : Int)) := by
        rw [hl2]
        exact hok2
      have h1 := ih a (by omega) D.2.2 b2 u2 h2 (out ++ D.1) n' t' d' v' e' xp' yl yn (by omega) hI2 (hsub _ rfl c1) hok3
      refine Ev.step (fun k => by rw [A0u.l0, if_pos hlt, hw]) (Ev.bind g1 ?_)
      refine Ev.congr (fun k => if_pos hroom) (Ev.congr (fun k => Option.bind_some ..) (Ev.congr (fun k => if_pos rfl) ?_))
      exact h1
    · rw [hde c1, ans_bad out D c1]
      rw [if_neg c1] at g1
      refine Ev.step (fun k => by rw [A0u.l0, if_pos hlt, hw]) (Ev.bind g1 ?_)
      refine Ev.congr (fun k => if_pos hroom) (Ev.congr (fun k => Option.bind_some ..) (Ev.congr (fun k => if_neg Bool.false_ne_true) ?_))
      exact Ev.now _
theorem Decode_is (kind : Int) (b : List Int) (hb : Bs.Bytes b) (hl : b.length ≤ 1000000) (nn : Nat) (h1 : 1 ≤ nn) (h2 : nn ≤ 65535) : Ev (fun k => A0u.f k kind b (nn : Int)) (ans [] (dec kind nn z8 (Bs.flat b))) := by
 unfold A0u.f
 have c1 : ¬ (nn : Int) < 1 := by omega
 have c2 : ¬ (nn : Int) > 65535 := by omega
 have hfl := Bs.A2k b
 have hI := PFill.New_is b hb (by omega)
 have hnew : fill_New.f b = some (b, 0, 0) := rfl
 simp only [if_neg c1]
 rw [decide_eq_false c2]
 refine Ev.step (fun k => by rw [A0u.j0, if_neg Bool.false_ne_true, hnew, Option.bind_some]) ?_
 by_cases hk : kind = 1 ∨ kind = 2
 ·exact quick_l0 kind hk nn h2 nn nn (Nat.le_refl _) (Bs.flat b) b 0 0 [] 0 0 0 0 0 0 0 0 (by rw [List.length_nil]; omega) hI (by omega) (ok_zero 0 (Int.le_refl _))
 ·obtain ⟨r, rfl⟩ : ∃ r, nn = r + 1 := ⟨nn - 1, by omega⟩
  have hkg : PKinds.kg kind 0 0 0 0 0 0 0 0 (Bs.flat b) = PKinds.bad 6 := by
   unfold PKinds.kg
   rw [if_pos hk]
  have hd : dec kind (r + 1) z8 (Bs.flat b) = ([], 6, Bs.flat b) := by
   show dec kind (r + 1) (0, 0, 0, 0, 0, 0, ((0 : Nat) : Int), ((0 : Nat) : Int)) (Bs.flat b) = _
   rw [dec_succ, hkg]
   exact if_neg (by show ¬ ((6 : Int) = 0); decide)
  have hno := fun q => Next_no kind hk q b 0 0 0 0 0 0 0 0 0 0
  rw [hd, ans_bad [] _ (by show ¬ ((6 : Int) = 0); decide)]
  have hlt : (([] : List S48).length : Int) < ((r + 1 : Nat) : Int) := by rw [List.length_nil]; omega
  refine Ev.step (fun k => by rw [A0u.l0, if_pos hlt]) (Ev.bind (hno _) ?_)
  exact Ev.congr (fun k => if_pos (show ([] : List S48).length + ([] : List S48).length < 8796093022208 from by decide)) (Ev.congr (fun k => Option.bind_some ..) (Ev.congr (fun k => if_neg Bool.false_ne_true) (Ev.now _)))
theorem Decode_no (kind : Int) (b : List Int) (n : Int) (h : n < 1 ∨ n > 65535) : Ev (fun k => A0u.f k kind b n) ([], some 1) := by
 have hno : ∀ x, x = true → Ev (fun k => A0u.j0 k kind b n x) (([] : List S48), some 1) := by
  intro x hx
  subst hx
  exact Ev.step (fun k => by rw [A0u.j0, if_pos rfl]) (Ev.now _)
 unfold A0u.f
 by_cases c1 : n < 1
 ·simp only [if_pos c1]
  exact hno _ rfl
 ·simp only [if_neg c1]
  exact hno _ (decide_eq_true (h.resolve_left c1))
end Go.Proofs.YtiahbcaoikoogabDoor.PQuick
end
section
namespace Go.Proofs.YtiahbcaoikoogabDoor.Pure
open Go Go.RowKit Go.Proofs.YtiahbcaoikoogabDoor Go.Proofs.YtiahbcaoikoogabDoor.All Go.Proofs.YtiahbcaoikoogabDoorW.PrintWords Go.Proofs.YtiahbcaoikoogabDoorW.PrintLast Go.Proofs.YtiahbcaoikoogabDoor.PKinds Go.Proofs.YtiahbcaoikoogabDoor.PRising Go.Proofs.YtiahbcaoikoogabDoor.PChunk Go.Proofs.YtiahbcaoikoogabDoor.PSlowB
set_option linter.unusedVariables false
set_option linter.unusedSimpArgs false
theorem QuickSame_up : Ev (fun k => A2u.f k) true :=
 Ev.of A2u.mono (k := 300) (by decide +kernel)
theorem same_len (kind : Int) : ∀ (l : List S48) (i : Nat) (n t d v e xp : Int) (xl xn : Nat), (∀ x ∈ l, Rg x) → i + l.length ≤ 65535 → Ok (i : Int) (n, t, d, v, e, xp, (xl : Int), (xn : Int)) →
    (enc kind l (n, t, d, v, e, xp, (xl : Int), (xn : Int))).2 = 0 → (enc kind l (n, t, d, v, e, xp, (xl : Int), (xn : Int))).1.length ≤ 1000 * l.length := by
  intro l
  induction l with
  | nil => intro i n t d v e xp xl xn hl hi hok h1; exact Nat.le_refl _
  | cons x r ih =>
    intro i n t d v e xp xl xn hl hi hok h1
    have hi1 : i + 1 + r.length ≤ 65535 := by rw [List.length_cons] at hi; omega
    obtain ⟨xl', xn', el, en, hx⟩ := hok.w
    have hx : xl + xn ≤ 64 := by
      have e1 : (xl : Int) = (xl' : Int) := el
      have e2 : (xn : Int) = (xn' : Int) := en
      omega
    have hp := hok.p0
    have hn0 : 0 ≤ n := hok.n0
    have hn1 : n ≤ (i : Int) := hok.n1
    have hrx := hl x (by simp)
    obtain ⟨a1, a2, a3⟩ := enc_ok kind x r n t d v e xp xl xn h1
    have kl := kp_len kind n t d v e xp xl xn x.f0 x.f1 hrx.2 hp hx
    have ko := kp_ok (i : Int) (by omega) kind n t d v e xp xl xn x.f0 x.f1 ⟨hn0, hn1⟩ hrx.2 hp hx a1
    rw [a3]
    generalize kp kind n t d v e xp xl xn x.f0 x.f1 = K at *
    obtain ⟨b, ⟨n', t', d', v', e', xp', al, an⟩, c⟩ := K
    obtain ⟨yl, yn, e1, e2, hy⟩ := ko.w
    have e1 : al = (yl : Int) := e1
    have e2 : an = (yn : Int) := e2
    subst e1 e2
    have hok2 : Ok ((i + 1 : Nat) : Int) (n', t', d', v', e', xp', (yl : Int), (yn : Int)) := by
      rw [show ((i + 1 : Nat) : Int) = (i : Int) + 1 from by omega]
      exact ko
    have h : (enc kind r (n', t', d', v', e', xp', (yl : Int), (yn : Int))).1.length ≤ 1000 * r.length := ih (i + 1) n' t' d' v' e' xp' yl yn (fun z hz => hl z (by simp [hz])) hi1 hok2 a2
    have kl : b.length ≤ 1000 := kl
    show (b ++ (enc kind r (n', t', d', v', e', xp', (yl : Int), (yn : Int))).1).length ≤ 1000 * (x :: r).length
    rw [List.length_append, List.length_cons]
    omega
theorem same_pick (a : Int) (b : Int) (hb : 0 < b ∧ b < 1000000) : ∃ t, A2a.f a b = some t ∧ 0 ≤ t ∧ t < b := by
 have hr : -b < Int.tmod a b ∧ Int.tmod a b < b := by
  by_cases h : 0 ≤ a
  ·rw [Int.tmod_eq_emod_of_nonneg h]
   have h1 := Int.emod_nonneg a (show b ≠ 0 by omega)
   have h2 := Int.emod_lt_of_pos a hb.1
   omega
  ·have e : Int.tmod a b = -(Int.tmod (-a) b) := by rw [Int.neg_tmod, Int.neg_neg]
   rw [e, Int.tmod_eq_emod_of_nonneg (show 0 ≤ -a by omega)]
   have h1 := Int.emod_nonneg (-a) (show b ≠ 0 by omega)
   have h2 := Int.emod_lt_of_pos (-a) hb.1
   omega
 unfold A2a.f
 rw [if_neg (by omega)]
 generalize Int.tmod a b = q at hr
 by_cases h : q < 0
 ·rw [if_pos h]
  exact ⟨_, rfl, by rw [PBits.w64 _ (by omega)]; omega, by rw [PBits.w64 _ (by omega)]; omega⟩
 ·rw [if_neg h]
  exact ⟨_, rfl, by omega, by omega⟩
theorem xor_u8_range (x y : Int) : 0 ≤ Go.bits .xor .u8 x y ∧ Go.bits .xor .u8 x y < 256 := by
 simp only [Go.bits, Ib.wrap_u8]
 omega
theorem set_bytes {b : List Int} (hb : Bs.Bytes b) (i : Nat) (x y : Int) : Bs.Bytes (b.set i (Go.bits .xor .u8 x y)) := by
 intro z hz
 rcases List.mem_or_eq_of_mem_set hz with h | h
 ·exact hb z h
 ·rw [h]
  exact xor_u8_range x y
theorem same_dec_code (kind : Int) : ∀ (a : Nat) (s : S8) (R : List Int), (dec kind a s R).2.1 = 0 ∨ (dec kind a s R).2.1 = 2 ∨ (dec kind a s R).2.1 = 3 ∨ (dec kind a s R).2.1 = 4 ∨ (dec kind a s R).2.1 = 6 := by
 intro a
 induction a with
 | zero =>
  intro s R
  obtain ⟨n, t, d, v, e, xp, xl, xn⟩ := s
  exact .inl rfl
 | succ a ih =>
  intro s R
  obtain ⟨n, t, d, v, e, xp, xl, xn⟩ := s
  have h := kg_code kind n t d v e xp xl.toNat xn.toNat R
  unfold dec
  split
  ·exact ih _ _
  ·exact h
theorem same_code (c : Int) (h : c = 0 ∨ c = 1 ∨ c = 2 ∨ c = 3 ∨ c = 4 ∨ c = 6) : A1j.f (if c = 0 then none else some c) = some c := by
 have e : codeNo (if c = 0 then none else some c) = c := by
  rcases h with rfl | rfl | rfl | rfl | rfl | rfl <;> decide
 unfold A1j.f
 rw [e]
theorem both (kind : Int) (b : List Int) (hb : Bs.Bytes b) (hl : b.length ≤ 1000000) (n : Int) :
    ∃ (M : List S48) (c : Option Int) (q : Int), M.length ≤ 65535 ∧ A1j.f c = some q ∧ Ev (fun k => A0u.f k kind b n) (M, c) ∧ Ev (fun k => A1k.f k kind b n) (M, c) := by
  by_cases c2 : n < 1 ∨ n > 65535
  · exact ⟨[], some 1, 1, by decide, same_code 1 (.inr (.inl rfl)), PQuick.Decode_no kind b n c2, PSlowB.Decode_no kind b n c2⟩
  obtain ⟨nn, rfl⟩ : ∃ m : Nat, n = (m : Int) := ⟨n.toNat, by omega⟩
  have g1 := PQuick.Decode_is kind b hb hl nn (by omega) (by omega)
  have g2 := PSlowB.Decode_is kind b hb hl nn (by omega) (by omega)
  have hlen := (PBatch.dec_len kind nn z8 (Bs.flat b)).1
  have hc := same_dec_code kind nn z8 (Bs.flat b)
  generalize dec kind nn z8 (Bs.flat b) = D at *
  have hf : fc D = 0 ∨ fc D = 1 ∨ fc D = 2 ∨ fc D = 3 ∨ fc D = 4 ∨ fc D = 6 := by
    unfold fc
    split
    · split
      · exact .inr (.inr (.inr (.inl rfl)))
      · split
        · exact .inl rfl
        · exact .inr (.inr (.inr (.inl rfl)))
    · rcases hc with h | h | h | h | h
      · exact .inl h
      · exact .inr (.inr (.inl h))
      · exact .inr (.inr (.inr (.inl h)))
      · exact .inr (.inr (.inr (.inr (.inl h))))
      · exact .inr (.inr (.inr (.inr (.inr h))))
  exact ⟨[] ++ D.1, if fc D = 0 then none else some (fc D), fc D, by rw [List.nil_append]; omega, same_code _ hf, g1, g2⟩
theorem same_one (M : List S48) (h : M.length ≤ 65535) : ∃ q, Ev (fun k => A0w.f k M M) q ∧ q = 1 := by
 obtain ⟨q, g1, g2⟩ := Same_iff M M rfl (by omega)
 exact ⟨q, g1, g2.mpr rfl⟩
theorem QuickSame_j0 (kind : Int) (l : List S48) (nl : l.length ≤ 100) (a by_ cut n : Int) (b : List Int) (hb : Bs.Bytes b) (h0 : 1 ≤ b.length) (hl : b.length ≤ 100000) :
    Ev (fun k => A02.j0 k kind l a by_ cut n true b none false) true := by
  obtain ⟨t1, p1, p2, p3⟩ := same_pick a (b.length : Int) (by omega)
  have w1 : wrap64 ((b.length : Int) + 1) = (b.length : Int) + 1 := PBits.w64 _ (by omega)
  have w2 : wrap64 ((l.length : Int) + 2) = (l.length : Int) + 2 := PBits.w64 _ (by omega)
  obtain ⟨t2, q1, q2, q3⟩ := same_pick cut ((b.length : Int) + 1) (by omega)
  obtain ⟨t3, r1, r2, r3⟩ := same_pick n ((l.length : Int) + 2) (by omega)
  have q3' : t2 ≤ (b.length : Int) := by omega
  have hs := set_bytes hb t1.toNat (rd b t1) by_
  have hsl : (b.set t1.toNat (Go.bits .xor .u8 (rd b t1) by_)).length = b.length := List.length_set
  have hcl : ((b.set t1.toNat (Go.bits .xor .u8 (rd b t1) by_)).take t2.toNat).length ≤ b.length := by rw [List.length_take, hsl]; omega
  obtain ⟨M1, c1, n1, m1, k1, e1, e2⟩ := both kind (b.set t1.toNat (Go.bits .xor .u8 (rd b t1) by_)) hs (by omega) t3
  obtain ⟨M2, c2, n2, m2, k2, e3, e4⟩ := both kind ((b.set t1.toNat (Go.bits .xor .u8 (rd b t1) by_)).take t2.toNat) (hs.take _) (by omega) t3
  obtain ⟨s1, g1, g1'⟩ := same_one M1 m1
  obtain ⟨s2, g2, g2'⟩ := same_one M2 m2
  subst g1' g2'
  refine Ev.step (fun k => by rw [A02.j0, if_neg Bool.false_ne_true, p1, Option.bind_some, if_pos p2, if_pos p3, Option.bind_some, w1, q1, Option.bind_some, if_pos q2, if_pos q3', Option.bind_some, w2, r1, Option.bind_some]) ?_
  refine Ev.bind e1 (Ev.bind e2 (Ev.bind e3 (Ev.bind e4 ?_)))
  refine Ev.congr (fun k => if_pos rfl) (Ev.bind g1 ?_)
  refine Ev.congr (fun k => by rw [if_pos rfl, k1, Option.bind_some, Option.bind_some, if_pos rfl]) (Ev.bind g2 ?_)
  exact Ev.congr (fun k => by rw [if_pos rfl, k2, Option.bind_some, Option.bind_some, beq_self_eq_true]) (Ev.now true)
theorem QuickSame : A02.Pure := by
 intro kind l a by_ cut n _ _ _ h1 _ _ _ _
 have h1 : ∀ x ∈ l, Rg x := fun x h => ⟨Ib.wf_i64 (h1 x h).1, Ib.wf_u64 (h1 x h).2⟩
 refine Ev.rounds (g := fun k => A02.f k kind l a by_ cut n) ?_
 unfold A02.f
 refine Ev.bind QuickSame_up ?_
 by_cases c1 : (l.length : Int) > 100
 ·exact Ev.congr (fun k => if_pos c1) (Ev.now _)
 obtain ⟨M, e1, e2, hM⟩ := Rising_is l h1 (by omega)
 refine Ev.congr (fun k => if_neg c1) (Ev.bind e1 ?_)
 have hbad : ∀ c : Int, Ev (fun k => A1m.f k kind M) ([], some c) → Ev (fun k => (A1m.f k kind M).bind fun bt1051 => (if bt1051.2.isNone = true then (A02.j0 k kind l a by_ cut n true bt1051.1 none ((bt1051.1.length : Int) == 0)) else (A02.j0 k kind l a by_ cut n true bt1051.1 (some (bt1051.2.getD 0)) true))) true := by
  intro c h
  refine Ev.bind h (Ev.congr (fun k => if_neg Bool.false_ne_true) ?_)
  exact Ev.step (fun k => by rw [A02.j0, if_pos rfl, if_pos rfl]; rfl) (Ev.now true)
 by_cases c0 : M = []
 ·subst c0
  exact hbad 1 (Encode_no kind)
 have h0 : 1 ≤ M.length := List.length_pos_iff.mpr c0
 have g1 := Encode_is kind M hM.rng h0 (by omega)
 unfold res at g1
 by_cases c3 : (enc kind M z8).2 = 0
 ·rw [if_pos c3, List.nil_append] at g1
  have hf := enc_first kind M h0 c3
  have hEl : (enc kind M z8).1.length ≤ 1000 * M.length := same_len kind M 0 0 0 0 0 0 0 0 0 hM.rng (by omega) (ok_zero 0 (Int.le_refl _)) c3
  have hpl := Bs.A3a (enc kind M z8).1
  have hpb := Bs.pack_bytes (enc_bits kind M z8)
  generalize Bs.pack (enc kind M z8).1 = P at *
  have hne : ((P.length : Int) == 0) = false := beq_eq_false_iff_ne.mpr (by omega)
  refine Ev.bind g1 (Ev.congr (fun k => if_pos (show (none : Option Int).isNone = true from rfl)) ?_)
  show Ev (fun k => A02.j0 k kind l a by_ cut n true P none ((P.length : Int) == 0)) true
  rw [hne]
  exact QuickSame_j0 kind l (by omega) a by_ cut n P hpb (by omega) (by omega)
 ·rw [if_neg c3] at g1
  exact hbad _ g1
end Go.Proofs.YtiahbcaoikoogabDoor.Pure
end
section
namespace Go.Proofs.YtiahbcaoikoogabDoor
open Go Go.ChangeShapes Go.WideShapes Go.Deep
set_option linter.unusedVariables false
set_option linter.unusedSimpArgs false
theorem recs2 {H : Type} {enc : TypeId × Value → H} {P : Program} {W : World} {base : Nat} {spare : Nat → Bool} {held : Bool} {t e : TypeId} {f0 f1 : Field} {k0 k1 : IntKind} {a : Option Addr} {len cap : Nat} {d : DataW H} {ps : List MemPlace} {ts : List TypeId} {ds : List (DataW H)} {j : Nat}
    (hsz : (DataW.weightsEach P ts ds).all (· ≤ reachBytes) = true) (hts : ts[j]? = some t) (hds : ds[j]? = some d) (ht : P.underlying t = some (.slice e)) (he : P.underlying e = some (.struct #[f0, f1]))
    (ce : P.cellsOf e = 2) (o0 : f0.offset = 0) (o1 : f1.offset = 1) (c0 : P.cellsOf f0.type = 1) (c1 : P.cellsOf f1.type = 1) (u0 : P.underlying f0.type = some (.int k0)) (u1 : P.underlying f1.type = some (.int k1))
    {B : Nat} (hB : P.bytesOf e = B) (h : DataW.Trod enc P W base spare held t (.slice a len cap) d ps) :
    ∃ zs : List (Int × Int), len = zs.length ∧ len ≤ cap ∧ len ≤ maxLen ∧ len * B ≤ 140737488351232 ∧ (∀ z ∈ zs, (Lit.int k0 z.1).wf = true ∧ (Lit.int k1 z.2).wf = true) ∧
      (0 < len → ∃ ad, a = some ad ∧ ∀ i z, zs[i]? = some z → W.cell? (ad.add (i * 2)) = some (.int k0 z.1) ∧ W.cell? (ad.add (i * 2 + 1)) = some (.int k1 z.2)) := by
  obtain ⟨fuel, hf⟩ := h
  rcases open_slice_pairs ht he ce o0 o1 c0 c1 hf with ⟨hcs, _⟩ | ⟨a', len', cap', m, n, V0, V1, D0, D1, P0, P1, hcs, hb, hl, hm, hmm, hx, hall⟩
  · simp [Value.cells] at hcs
    obtain ⟨rfl, rfl, rfl⟩ := hcs
    exact ⟨[], rfl, Nat.le_refl _, Nat.zero_le _, by simp, fun z hz => by simp at hz, fun h => absurd h (Nat.lt_irrefl 0)⟩
  · simp [Value.cells] at hcs
    obtain ⟨rfl, rfl, rfl⟩ := hcs
    have hlm : len ≤ m := by
      rw [hmm]
      split
      · exact hl
      · exact Nat.le_refl _
    have each : ∀ i, i < len → ∃ z : Int × Int, W.cell? (a'.add (i * 2)) = some (.int k0 z.1) ∧ W.cell? (a'.add (i * 2 + 1)) = some (.int k1 z.2) ∧ (Lit.int k0 z.1).wf = true ∧ (Lit.int k1 z.2).wf = true := by
      intro i hi
      obtain ⟨h0, h1, t0, t1⟩ := hall i (Nat.lt_of_lt_of_le hi hlm)
      obtain ⟨z0, e0, _, w0⟩ := DataW.trod_int u0 t0
      obtain ⟨z1, e1, _, w1⟩ := DataW.trod_int u1 t1
      injection e0 with e0
      injection e1 with e1
      rw [e0] at h0
      rw [e1] at h1
      exact ⟨(z0, z1), h0, h1, w0, w1⟩
    obtain ⟨q, hq⟩ := choose_lt each
    obtain ⟨hx, _⟩ := Prod.mk.inj hx
    subst hx
    have z := sized_slice hsz hts hds ht
    rw [hB] at z
    simp only [List.length_map, List.length_range] at z
    refine ⟨(List.range len).map q, by simp, hl, Nat.le_trans hl hm, Nat.le_trans (Nat.mul_le_mul_right _ (by omega)) z, ?_, fun _ => ⟨a', rfl, ?_⟩⟩
    · intro p hp
      obtain ⟨i, hi, rfl⟩ := List.mem_map.1 hp
      have := hq i (List.mem_range.1 hi)
      exact ⟨this.2.2.1, this.2.2.2⟩
    · intro i p hp
      rw [List.getElem?_map] at hp
      obtain ⟨i', hi', rfl⟩ := Option.map_eq_some_iff.1 hp
      have hlt := List.getElem?_eq_some_iff.1 hi'
      obtain ⟨hlt, hie⟩ := hlt
      rw [List.length_range] at hlt
      rw [List.getElem_range] at hie
      subst hie
      have := hq i hlt
      exact ⟨this.1, this.2.1⟩
end Go.Proofs.YtiahbcaoikoogabDoor
end
