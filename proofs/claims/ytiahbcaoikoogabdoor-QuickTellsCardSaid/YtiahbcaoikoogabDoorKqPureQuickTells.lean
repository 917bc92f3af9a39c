-- copied by a program of the session
import Derived.Test.YtiahbcaoikoogabDoorKqPSlowB
section
namespace Go.Proofs.YtiahbcaoikoogabDoor.PBatch
open Go Go.RowKit Go.Proofs.YtiahbcaoikoogabDoor Go.Proofs.YtiahbcaoikoogabDoor.All Go.Proofs.YtiahbcaoikoogabDoorW.PrintWords Go.Proofs.YtiahbcaoikoogabDoorW.PrintLast Go.Proofs.YtiahbcaoikoogabDoor.PKinds Go.Proofs.YtiahbcaoikoogabDoor.PSlowB
set_option linter.unusedVariables false
set_option linter.unusedSimpArgs false
def nxs (kind : Int) : Nat → S8 → List Int → S8
 | 0, s, _ => s
 | r + 1, (n, t, d, v, e, xp, xl, xn), R =>
  if (PKinds.kg kind n t d v e xp xl.toNat xn.toNat R).2.2.2.2 = 0 then nxs kind r (PKinds.kg kind n t d v e xp xl.toNat xn.toNat R).2.2.1 (R.drop (PKinds.kg kind n t d v e xp xl.toNat xn.toNat R).2.2.2.1.toNat)
  else (n, t, d, v, e, xp, xl, xn)
theorem nxs_succ (kind : Int) (r : Nat) (n t d v e xp : Int) (xl xn : Nat) (R : List Int) : nxs kind (r + 1) (n, t, d, v, e, xp, (xl : Int), (xn : Int)) R =
    if (PKinds.kg kind n t d v e xp xl xn R).2.2.2.2 = 0 then nxs kind r (PKinds.kg kind n t d v e xp xl xn R).2.2.1 (R.drop (PKinds.kg kind n t d v e xp xl xn R).2.2.2.1.toNat)
    else (n, t, d, v, e, xp, (xl : Int), (xn : Int)) := rfl
theorem dec_step (kind : Int) (r : Nat) (n t d v e xp xl xn : Int) (R : List Int) : dec kind (r + 1) (n, t, d, v, e, xp, xl, xn) R =
    if (PKinds.kg kind n t d v e xp xl.toNat xn.toNat R).2.2.2.2 = 0 then
      (⟨(PKinds.kg kind n t d v e xp xl.toNat xn.toNat R).1, (PKinds.kg kind n t d v e xp xl.toNat xn.toNat R).2.1⟩ :: (dec kind r (PKinds.kg kind n t d v e xp xl.toNat xn.toNat R).2.2.1 (R.drop (PKinds.kg kind n t d v e xp xl.toNat xn.toNat R).2.2.2.1.toNat)).1,
        (dec kind r (PKinds.kg kind n t d v e xp xl.toNat xn.toNat R).2.2.1 (R.drop (PKinds.kg kind n t d v e xp xl.toNat xn.toNat R).2.2.2.1.toNat)).2)
    else ([], (PKinds.kg kind n t d v e xp xl.toNat xn.toNat R).2.2.2.2, R) := rfl
theorem nxs_step (kind : Int) (r : Nat) (n t d v e xp xl xn : Int) (R : List Int) : nxs kind (r + 1) (n, t, d, v, e, xp, xl, xn) R =
    if (PKinds.kg kind n t d v e xp xl.toNat xn.toNat R).2.2.2.2 = 0 then nxs kind r (PKinds.kg kind n t d v e xp xl.toNat xn.toNat R).2.2.1 (R.drop (PKinds.kg kind n t d v e xp xl.toNat xn.toNat R).2.2.2.1.toNat)
    else (n, t, d, v, e, xp, xl, xn) := rfl
theorem dec_add (kind : Int) : ∀ (a b : Nat) (s : S8) (R : List Int), (dec kind a s R).2.1 = 0 → dec kind (a + b) s R = ((dec kind a s R).1 ++ (dec kind b (nxs kind a s R) (dec kind a s R).2.2).1, (dec kind b (nxs kind a s R) (dec kind a s R).2.2).2) := by
 intro a
 induction a with
 | zero =>
  intro b s R h
  rw [Nat.zero_add]
  obtain ⟨n, t, d, v, e, xp, xl, xn⟩ := s
  rfl
 | succ a ih =>
  intro b s R h
  rw [Nat.succ_add]
  obtain ⟨n, t, d, v, e, xp, xl, xn⟩ := s
  rw [dec_step] at h
  rw [dec_step kind (a + b), dec_step kind a, nxs_step]
  generalize PKinds.kg kind n t d v e xp xl.toNat xn.toNat R = K at *
  by_cases c : K.2.2.2.2 = 0
  ·rw [if_pos c] at h ⊢
   rw [if_pos c, if_pos c]
   rw [ih b _ _ h]
   rfl
  ·rw [if_neg c] at h
   exact absurd h c
theorem dec_err (kind : Int) : ∀ (a b : Nat) (s : S8) (R : List Int), ¬ (dec kind a s R).2.1 = 0 → dec kind (a + b) s R = dec kind a s R := by
 intro a
 induction a with
 | zero =>
  intro b s R h
  obtain ⟨n, t, d, v, e, xp, xl, xn⟩ := s
  exact absurd rfl h
 | succ a ih =>
  intro b s R h
  rw [Nat.succ_add]
  obtain ⟨n, t, d, v, e, xp, xl, xn⟩ := s
  rw [dec_step] at h
  rw [dec_step kind (a + b), dec_step kind a]
  generalize PKinds.kg kind n t d v e xp xl.toNat xn.toNat R = K at *
  by_cases c : K.2.2.2.2 = 0
  ·rw [if_pos c] at h ⊢
   rw [if_pos c]
   rw [ih b _ _ h]
  ·rw [if_neg c, if_neg c]
theorem dec_len (kind : Int) : ∀ (a : Nat) (s : S8) (R : List Int), (dec kind a s R).1.length ≤ a ∧ ((dec kind a s R).2.1 = 0 → (dec kind a s R).1.length = a) := by
 intro a
 induction a with
 | zero =>
  intro s R
  obtain ⟨n, t, d, v, e, xp, xl, xn⟩ := s
  exact ⟨Nat.le_refl _, fun _ => rfl⟩
 | succ a ih =>
  intro s R
  obtain ⟨n, t, d, v, e, xp, xl, xn⟩ := s
  unfold dec
  generalize PKinds.kg kind n t d v e xp xl.toNat xn.toNat R = K at *
  have h := ih K.2.2.1 (R.drop K.2.2.2.1.toNat)
  by_cases c : K.2.2.2.2 = 0
  ·rw [if_pos c]
   refine ⟨?_, fun q => ?_⟩
   ·show (_ :: (dec kind a K.2.2.1 (R.drop K.2.2.2.1.toNat)).1).length ≤ a + 1
    rw [List.length_cons]
    have := h.1
    omega
   ·show (_ :: (dec kind a K.2.2.1 (R.drop K.2.2.2.1.toNat)).1).length = a + 1
    rw [List.length_cons, h.2 q]
  ·rw [if_neg c]
   exact ⟨Nat.zero_le _, fun q => absurd q c⟩
theorem dec_rest (kind : Int) : ∀ (a : Nat) (s : S8) (R : List Int), (dec kind a s R).2.2.length ≤ R.length := by
 intro a
 induction a with
 | zero =>
  intro s R
  obtain ⟨n, t, d, v, e, xp, xl, xn⟩ := s
  exact Nat.le_refl _
 | succ a ih =>
  intro s R
  obtain ⟨n, t, d, v, e, xp, xl, xn⟩ := s
  unfold dec
  generalize PKinds.kg kind n t d v e xp xl.toNat xn.toNat R = K at *
  by_cases c : K.2.2.2.2 = 0
  ·rw [if_pos c]
   show (dec kind a K.2.2.1 (R.drop K.2.2.2.1.toNat)).2.2.length ≤ R.length
   have h := ih K.2.2.1 (R.drop K.2.2.2.1.toNat)
   rw [List.length_drop] at h
   omega
  ·rw [if_neg c]
   exact Nat.le_refl _
abbrev NOut := List S48 × Int × Int × Int × Int × Int × Int × Int × Int × Option Int × List Int × Int × Int
def npk (L : List S48) (s : S8) (c : Option Int) (b : List Int) (u h : Int) : NOut := (L, s.1, s.2.1, s.2.2.1, s.2.2.2.1, s.2.2.2.2.1, s.2.2.2.2.2.1, s.2.2.2.2.2.2.1, s.2.2.2.2.2.2.2, c, b, u, h)
def NSays (B : Int) (out : List S48) (D : List S48 × Int × List Int) (s' : S8) (f : Nat → Option NOut) : Prop :=
 ∃ s b' u' h', Ev f (npk (out ++ D.1) s (if D.2.1 = 0 then none else some D.2.1) b' u' h') ∧ (D.2.1 = 0 → s = s' ∧ PFill.Inv D.2.2 b' u' h' ∧ Ok B s')
theorem Next_l0 (kind : Int) (hk : kind = 1 ∨ kind = 2) (N : Nat) (hN : N ≤ 65535) (base : Nat) (hbase : base ≤ 65535) :
    ∀ (r j : Nat) (R b : List Int) (u h : Int) (out : List S48) (n t d v e xp : Int) (xl xn : Nat), j + r = N → out.length = j → PFill.Inv R b u h → R.length < 70368744177664 → Ok ((base + j : Nat) : Int) (n, t, d, v, e, xp, (xl : Int), (xn : Int)) →
      NSays ((base + N : Nat) : Int) out (dec kind r (n, t, d, v, e, xp, (xl : Int), (xn : Int)) R) (nxs kind r (n, t, d, v, e, xp, (xl : Int), (xn : Int)) R)
        (fun k => A1d.l0 k kind out (N : Int) (j : Int) b u h n t d v e xp (xl : Int) (xn : Int)) := by
  intro r
  induction r with
  | zero =>
    intro j R b u h out n t d v e xp xl xn hj ho hI hRl hok
    obtain rfl : j = N := by omega
    have hnl : ¬ (j : Int) < (j : Int) := by omega
    refine ⟨(n, t, d, v, e, xp, (xl : Int), (xn : Int)), b, u, h, ?_, fun _ => ⟨rfl, hI, hok⟩⟩
    show Ev _ (npk (out ++ []) (n, t, d, v, e, xp, (xl : Int), (xn : Int)) none b u h)
    rw [List.append_nil]
    exact Ev.step (fun k => by rw [A1d.l0, if_neg hnl]; rfl) (Ev.now _)
  | succ r ih =>
    intro j R b u h out n t d v e xp xl xn hj ho hI hRl hok
    have hlt : (j : Int) < (N : Int) := by omega
    obtain ⟨xl', xn', el, en, hx⟩ := hok.w
    have hx : xl + xn ≤ 64 := by
      have e1 : (xl : Int) = (xl' : Int) := el
      have e2 : (xn : Int) = (xn' : Int) := en
      omega
    have hp := hok.p0
    have hn0 : 0 ≤ n := hok.n0
    have hn1 : n ≤ ((base + j : Nat) : Int) := hok.n1
    have ho8 : out.length < 8796093022208 := by omega
    have hOne := One_is kind hk hI n t d v e xp xl xn hn0 hp hx
    have ko := kg_ok ((base + j : Nat) : Int) (by omega) kind n t d v e xp xl xn ⟨hn0, hn1⟩ hp hx R hI.bits hRl
    rw [dec_succ, nxs_succ]
    generalize PKinds.kg kind n t d v e xp xl xn R = K at *
    obtain ⟨T, V, s, b1, u1, h1, g1, g2⟩ := hOne
    obtain ⟨KT, KV, ⟨n', t', d', v', e', xp', al, an⟩, len, c⟩ := K
    have g1 : Ev (fun k => A1q.f k kind b u h n t d v e xp (xl : Int) (xn : Int)) (pk8 T V s (if c = 0 then none else some c) b1 u1 h1) := g1
    by_cases c0 : c = 0
    · obtain ⟨q1, q2, q3, hI1⟩ := g2 c0
      obtain ⟨ko', m, hm1, hm2, _⟩ := ko c0
      have q1 : T = KT := q1
      have q2 : V = KV := q2
      have q3 : s = (n', t', d', v', e', xp', al, an) := q3
      have hm1 : len = (m : Int) := hm1
      subst hm1
      obtain ⟨yl, yn, e1, e2, hy⟩ := ko'.w
      have e1 : al = (yl : Int) := e1
      have e2 : an = (yn : Int) := e2
      subst e1 e2 q1 q2 q3
      rw [if_pos c0] at g1
      have hI1 : PFill.Inv (R.drop (m : Int).toNat) b1 u1 h1 := hI1
      have hok2 : Ok ((base + (j + 1) : Nat) : Int) (n', t', d', v', e', xp', (yl : Int), (yn : Int)) := by
        rw [show ((base + (j + 1) : Nat) : Int) = ((base + j : Nat) : Int) + 1 from by omega]
        exact ko'
      have l1 : (out ++ [(⟨T, V⟩ : S48)]).length = j + 1 := by rw [List.length_append, List.length_singleton, ho]
      have l3 : j + 1 + r = N := by omega
      have l4 : (R.drop (m : Int).toNat).length < 70368744177664 := Nat.lt_of_le_of_lt (by rw [List.length_drop]; exact Nat.sub_le _ _) hRl
      have wj : wrap64 ((j : Int) + 1) = ((j + 1 : Nat) : Int) := by rw [PBits.w64 _ (by omega)]; omega
      have hnext := ih (j + 1) (R.drop (m : Int).toNat) b1 u1 h1 (out ++ [⟨T, V⟩]) n' t' d' v' e' xp' yl yn l3 l1 hI1 l4 hok2
      generalize hD : dec kind r (n', t', d', v', e', xp', (yl : Int), (yn : Int)) (R.drop (m : Int).toNat) = D at hnext
      generalize hS : nxs kind r (n', t', d', v', e', xp', (yl : Int), (yn : Int)) (R.drop (m : Int).toNat) = s' at hnext
      obtain ⟨s2, b2, u2, h2, f1, f2⟩ := hnext
      show NSays ((base + N : Nat) : Int) out (if c = 0 then (((⟨T, V⟩ : S48) :: D.1, D.2) : List S48 × Int × List Int) else ([], c, R)) (if c = 0 then s' else (n, t, d, v, e, xp, (xl : Int), (xn : Int))) _
      rw [if_pos c0, if_pos c0]
      refine ⟨s2, b2, u2, h2, ?_, f2⟩
      rw [List.append_assoc] at f1
      refine Ev.step (fun k => by rw [A1d.l0, if_pos hlt]) (Ev.bind g1 ?_)
      exact Ev.congr (fun k => if_pos rfl) (Ev.congr (fun k => by rw [if_pos ho8, wj]; rfl) f1)
    · rw [if_neg c0] at g1
      have hDD : ∀ D : List S48 × Int × List Int, (if c = 0 then (((⟨KT, KV⟩ : S48) :: D.1, D.2) : List S48 × Int × List Int) else ([], c, R)) = ([], c, R) := fun D => if_neg c0
      have hSS : ∀ q : S8, (if c = 0 then q else (n, t, d, v, e, xp, (xl : Int), (xn : Int))) = (n, t, d, v, e, xp, (xl : Int), (xn : Int)) := fun q => if_neg c0
      show NSays ((base + N : Nat) : Int) out (if c = 0 then (((⟨KT, KV⟩ : S48) :: (dec kind r (n', t', d', v', e', xp', al, an) (R.drop len.toNat)).1, (dec kind r (n', t', d', v', e', xp', al, an) (R.drop len.toNat)).2) : List S48 × Int × List Int) else ([], c, R)) (if c = 0 then nxs kind r (n', t', d', v', e', xp', al, an) (R.drop len.toNat) else (n, t, d, v, e, xp, (xl : Int), (xn : Int))) _
      rw [hDD, hSS]
      refine ⟨(n, t, d, v, e, xp, (xl : Int), (xn : Int)), b1, u1, h1, ?_, fun q => absurd q c0⟩
      show Ev _ (npk (out ++ []) (n, t, d, v, e, xp, (xl : Int), (xn : Int)) (if c = 0 then none else some c) b1 u1 h1)
      rw [List.append_nil, if_neg c0]
      refine Ev.step (fun k => by rw [A1d.l0, if_pos hlt]) (Ev.bind g1 ?_)
      exact Ev.congr (fun k => if_neg Bool.false_ne_true) (Ev.now _)
theorem Next_is (kind : Int) (hk : kind = 1 ∨ kind = 2) (q : Nat) (hq : q ≤ 65535) (base : Nat) (hbase : base ≤ 65535) (R b : List Int) (u h : Int) (hI : PFill.Inv R b u h) (hRl : R.length < 70368744177664) (n t d v e xp : Int) (xl xn : Nat) (hok : Ok (base : Int) (n, t, d, v, e, xp, (xl : Int), (xn : Int))) :
    NSays ((base + min q 32 : Nat) : Int) [] (dec kind (min q 32) (n, t, d, v, e, xp, (xl : Int), (xn : Int)) R) (nxs kind (min q 32) (n, t, d, v, e, xp, (xl : Int), (xn : Int)) R)
      (fun k => A1d.f k kind b u h n t d v e xp (xl : Int) (xn : Int) (q : Int)) := by
  have hmn : mn (q : Int) 32 = ((min q 32 : Nat) : Int) := by
    unfold mn
    split <;> omega
  obtain ⟨s2, b2, u2, h2, f1, f2⟩ := Next_l0 kind hk (min q 32) (by omega) base hbase (min q 32) 0 R b u h [] n t d v e xp xl xn (by omega) rfl hI hRl hok
  refine ⟨s2, b2, u2, h2, ?_, f2⟩
  have hj : Ev (fun k => A1d.j0 k kind (q : Int) false b u h n t d v e xp (xl : Int) (xn : Int)) (npk ([] ++ (dec kind (min q 32) (n, t, d, v, e, xp, (xl : Int), (xn : Int)) R).1) s2 (if (dec kind (min q 32) (n, t, d, v, e, xp, (xl : Int), (xn : Int)) R).2.1 = 0 then none else some (dec kind (min q 32) (n, t, d, v, e, xp, (xl : Int), (xn : Int)) R).2.1) b2 u2 h2) :=
    Ev.step (fun k => by rw [A1d.j0, if_neg Bool.false_ne_true, hmn]; rfl) f1
  unfold A1d.f
  rcases hk with rfl | rfl
  · exact Ev.congr (fun k => if_pos rfl) hj
  · exact Ev.congr (fun k => if_neg (by decide)) hj
theorem Next_no (kind : Int) (hk : ¬ (kind = 1 ∨ kind = 2)) (q : Int) (b : List Int) (u h n t d v e xp xl xn : Int) : Ev (fun k => A1d.f k kind b u h n t d v e xp xl xn q) (npk [] (n, t, d, v, e, xp, xl, xn) (some 6) b u h) := by
 unfold A1d.f
 have c1 : ¬ kind = 1 := fun c => hk (.inl c)
 have c2 : (kind != 2) = true := bne_iff_ne.mpr (fun c => hk (.inr c))
 refine Ev.congr (fun k => if_neg c1) ?_
 rw [c2]
 exact Ev.step (fun k => by rw [A1d.j0, if_pos rfl]; rfl) (Ev.now _)
end Go.Proofs.YtiahbcaoikoogabDoor.PBatch
end
section
namespace Go.Proofs.YtiahbcaoikoogabDoor.PQuick
open Go Go.RowKit Go.Proofs.YtiahbcaoikoogabDoor Go.Proofs.YtiahbcaoikoogabDoor.All Go.Proofs.YtiahbcaoikoogabDoorW.PrintWords Go.Proofs.YtiahbcaoikoogabDoorW.PrintLast Go.Proofs.YtiahbcaoikoogabDoor.PKinds Go.Proofs.YtiahbcaoikoogabDoor.PSlowB Go.Proofs.YtiahbcaoikoogabDoor.PBatch
set_option linter.unusedVariables false
set_option linter.unusedSimpArgs false
theorem pk_zero {R : List Int} (hR : Bs.Bits R) (h8 : R.length < 8) : PFill.pk R (R.length : Int) = Bs.number R := by
 unfold PFill.pk
 by_cases c : (R.length : Int) < 1
 ·rw [if_pos (.inl c)]
  have e : R = [] := List.eq_nil_of_length_eq_zero (by omega)
  rw [e, Bs.number_nil]
 ·rw [if_neg (by omega), Int.toNat_natCast, List.take_append_of_le_length (Nat.le_refl _), List.take_of_length_le (Nat.le_refl _)]
theorem quick_end (kind : Int) (nn : Nat) (out : List S48) (ho : out.length = nn) {R b : List Int} {u h : Int} (hI : PFill.Inv R b u h) (n t d v e xp xl xn : Int) :
    Ev (fun k => A0x.l0 k kind (nn : Int) out n t d v e xp xl xn b u h) (ans out ([], 0, R)) := by
  have hnl : ¬ (out.length : Int) < (nn : Int) := by omega
  have hl := PFill.Left_is hI
  unfold ans fc
  rw [List.append_nil, if_pos rfl]
  by_cases c1 : R.length ≥ 8
  · have c1' : (R.length : Int) ≥ 8 := by omega
    show Ev _ (out, if (if R.length ≥ 8 then (3 : Int) else if Bs.number R = 0 then 0 else 3) = 0 then none else some (if R.length ≥ 8 then (3 : Int) else if Bs.number R = 0 then 0 else 3))
    rw [if_pos c1]
    refine Ev.step (fun k => by rw [A0x.l0, if_neg hnl, hl, Option.bind_some]) ?_
    exact Ev.congr (fun k => if_pos c1') (Ev.now (out, some 3))
  · have c1' : ¬ (R.length : Int) ≥ 8 := by omega
    obtain ⟨b2, u2, h2, e2, _⟩ := PFill.Peek_is hI (R.length : Int)
    rw [pk_zero hI.bits (by omega)] at e2
    show Ev _ (out, if (if R.length ≥ 8 then (3 : Int) else if Bs.number R = 0 then 0 else 3) = 0 then none else some (if R.length ≥ 8 then (3 : Int) else if Bs.number R = 0 then 0 else 3))
    rw [if_neg c1]
    by_cases c2 : Bs.number R = 0
    · have e : (out, if (if Bs.number R = 0 then (0 : Int) else 3) = 0 then none else some (if Bs.number R = 0 then (0 : Int) else 3)) = (out, none) := by rw [if_pos c2, if_pos rfl]
      rw [e]
      refine Ev.step (fun k => by rw [A0x.l0, if_neg hnl, hl, Option.bind_some]) ?_
      exact Ev.congr (fun k => if_neg c1') (Ev.bind e2 (Ev.congr (fun k => if_pos c2) (Ev.now (out, none))))
    · have e : (out, if (if Bs.number R = 0 then (0 : Int) else 3) = 0 then none else some (if Bs.number R = 0 then (0 : Int) else 3)) = (out, some 3) := by rw [if_neg c2]; rfl
      rw [e]
      refine Ev.step (fun k => by rw [A0x.l0, if_neg hnl, hl, Option.bind_some]) ?_
      exact Ev.congr (fun k => if_neg c1') (Ev.bind e2 (Ev.congr (fun k => if_neg c2) (Ev.now (out, some 3))))
theorem ans_app (out L : List S48) (D : List S48 × Int × List Int) : ans out (L ++ D.1, D.2) = ans (out ++ L) D := by
 unfold ans fc
 rw [List.append_assoc]
theorem ans_bad (out : List S48) (D : List S48 × Int × List Int) (h : ¬ D.2.1 = 0) : ans out D = (out ++ D.1, some D.2.1) := by
 have hf : fc D = D.2.1 := by
  unfold fc
  rw [if_neg h]
 unfold ans
 rw [hf, if_neg h]
theorem sub_w (a b : Nat) (h : b ≤ a) (h2 : a ≤ 65535) : wrap64 ((a : Int) - (b : Int)) = ((a - b : Nat) : Int) := by rw [PBits.w64 _ (by omega)]; omega
theorem quick_l0 (kind : Int) (hk : kind = 1 ∨ kind = 2) (nn : Nat) (hnn : nn ≤ 65535) :
    ∀ (f r : Nat), r ≤ f → ∀ (R b : List Int) (u h : Int) (out : List S48) (n t d v e xp : Int) (xl xn : Nat), out.length + r = nn → PFill.Inv R b u h → R.length < 70368744177664 → Ok (out.length : Int) (n, t, d, v, e, xp, (xl : Int), (xn : Int)) →
      Ev (fun k => A0x.l0 k kind (nn : Int) out n t d v e xp (xl : Int) (xn : Int) b u h) (ans out (dec kind r (n, t, d, v, e, xp, (xl : Int), (xn : Int)) R)) := by
  intro f
  induction f with
  | zero =>
    intro r hr R b u h out n t d v e xp xl xn ho hI hRl hok
    obtain rfl : r = 0 := by omega
    exact quick_end kind nn out (by omega) hI n t d v e xp (xl : Int) (xn : Int)
  | succ f ih =>
    intro r hr R b u h out n t d v e xp xl xn ho hI hRl hok
    by_cases c0 : r = 0
    · subst c0
      exact quick_end kind nn out (by omega) hI n t d v e xp (xl : Int) (xn : Int)
    have hlt : (out.length : Int) < (nn : Int) := by omega
    have hw := sub_w nn out.length (by omega) hnn
    have hr2 : nn - out.length = r := by omega
    rw [hr2] at hw
    obtain ⟨a, ha⟩ : ∃ a, r = min r 32 + a := ⟨r - min r 32, by omega⟩
    have hmin : 1 ≤ min r 32 := by omega
    have hdl := dec_len kind (min r 32) (n, t, d, v, e, xp, (xl : Int), (xn : Int)) R
    have hda := dec_add kind (min r 32) a (n, t, d, v, e, xp, (xl : Int), (xn : Int)) R
    have hde := dec_err kind (min r 32) a (n, t, d, v, e, xp, (xl : Int), (xn : Int)) R
    rw [← ha] at hda hde
    obtain ⟨s2, b2, u2, h2, g1, g2⟩ := Next_is kind hk r (by omega) out.length (by omega) R b u h hI hRl n t d v e xp xl xn hok
    have hsub : ∀ L : List Int, L = (dec kind (min r 32) (n, t, d, v, e, xp, (xl : Int), (xn : Int)) R).2.2 → (dec kind (min r 32) (n, t, d, v, e, xp, (xl : Int), (xn : Int)) R).2.1 = 0 → L.length < 70368744177664 := by
      intro L hL hz
      rw [hL]
      exact Nat.lt_of_le_of_lt (dec_rest kind _ _ R) hRl
    generalize dec kind (min r 32) (n, t, d, v, e, xp, (xl : Int), (xn : Int)) R = D at *
    generalize nxs kind (min r 32) (n, t, d, v, e, xp, (xl : Int), (xn : Int)) R = s' at *
    have hd1 := hdl.1
    have hroom : out.length + D.1.length < 8796093022208 := by omega
    by_cases c1 : D.2.1 = 0
    · obtain ⟨q1, hI2, hok2⟩ := g2 c1
      rw [hda c1, ans_app]
      rw [if_pos c1] at g1
      subst q1
      obtain ⟨n', t', d', v', e', xp', al, an⟩ := s2
      obtain ⟨yl, yn, e1, e2, hy⟩ := hok2.w
      have e1 : al = (yl : Int) := e1
      have e2 : an = (yn : Int) := e2
      subst e1 e2
      have hl2 : (out ++ D.1).length = out.length + min r 32 := by rw [List.length_append, hdl.2 c1]
      have hok3 : Ok ((out ++ D.1).length : Int) (n', t', d', v', e', xp', (yl : Int), (yn : Int)) := by
        rw [hl2]
        exact hok2
      have h1 := ih a (by omega) D.2.2 b2 u2 h2 (out ++ D.1) n' t' d' v' e' xp' yl yn (by omega) hI2 (hsub _ rfl c1) hok3
      refine Ev.step (fun k => by rw [A0x.l0, if_pos hlt, hw]) (Ev.bind g1 ?_)
      refine Ev.congr (fun k => if_pos hroom) (Ev.congr (fun k => Option.bind_some ..) (Ev.congr (fun k => if_pos rfl) ?_))
      exact h1
    · rw [hde c1, ans_bad out D c1]
      rw [if_neg c1] at g1
      refine Ev.step (fun k => by rw [A0x.l0, if_pos hlt, hw]) (Ev.bind g1 ?_)
      refine Ev.congr (fun k => if_pos hroom) (Ev.congr (fun k => Option.bind_some ..) (Ev.congr (fun k => if_neg Bool.false_ne_true) ?_))
      exact Ev.now _
theorem Decode_is (kind : Int) (b : List Int) (hb : Bs.Bytes b) (hl : b.length ≤ 1000000) (nn : Nat) (h1 : 1 ≤ nn) (h2 : nn ≤ 65535) : Ev (fun k => A0x.f k kind b (nn : Int)) (ans [] (dec kind nn z8 (Bs.flat b))) := by
 unfold A0x.f
 have c1 : ¬ (nn : Int) < 1 := by omega
 have c2 : ¬ (nn : Int) > 65535 := by omega
 have hfl := Bs.A2n b
 have hI := PFill.New_is b hb (by omega)
 have hnew : fill_New.f b = some (b, 0, 0) := rfl
 simp only [if_neg c1]
 rw [decide_eq_false c2]
 refine Ev.step (fun k => by rw [A0x.j0, if_neg Bool.false_ne_true, hnew, Option.bind_some]) ?_
 by_cases hk : kind = 1 ∨ kind = 2
 ·exact quick_l0 kind hk nn h2 nn nn (Nat.le_refl _) (Bs.flat b) b 0 0 [] 0 0 0 0 0 0 0 0 (by rw [List.length_nil]; omega) hI (by omega) (ok_zero 0 (Int.le_refl _))
 ·obtain ⟨r, rfl⟩ : ∃ r, nn = r + 1 := ⟨nn - 1, by omega⟩
  have hkg : PKinds.kg kind 0 0 0 0 0 0 0 0 (Bs.flat b) = PKinds.bad 6 := by
   unfold PKinds.kg
   rw [if_pos hk]
  have hd : dec kind (r + 1) z8 (Bs.flat b) = ([], 6, Bs.flat b) := by
   show dec kind (r + 1) (0, 0, 0, 0, 0, 0, ((0 : Nat) : Int), ((0 : Nat) : Int)) (Bs.flat b) = _
   rw [dec_succ, hkg]
   exact if_neg (by show ¬ ((6 : Int) = 0); decide)
  have hno := fun q => Next_no kind hk q b 0 0 0 0 0 0 0 0 0 0
  rw [hd, ans_bad [] _ (by show ¬ ((6 : Int) = 0); decide)]
  have hlt : (([] : List S48).length : Int) < ((r + 1 : Nat) : Int) := by rw [List.length_nil]; omega
  refine Ev.step (fun k => by rw [A0x.l0, if_pos hlt]) (Ev.bind (hno _) ?_)
  exact Ev.congr (fun k => if_pos (show ([] : List S48).length + ([] : List S48).length < 8796093022208 from by decide)) (Ev.congr (fun k => Option.bind_some ..) (Ev.congr (fun k => if_neg Bool.false_ne_true) (Ev.now _)))
theorem Decode_no (kind : Int) (b : List Int) (n : Int) (h : n < 1 ∨ n > 65535) : Ev (fun k => A0x.f k kind b n) ([], some 1) := by
 have hno : ∀ x, x = true → Ev (fun k => A0x.j0 k kind b n x) (([] : List S48), some 1) := by
  intro x hx
  subst hx
  exact Ev.step (fun k => by rw [A0x.j0, if_pos rfl]) (Ev.now _)
 unfold A0x.f
 by_cases c1 : n < 1
 ·simp only [if_pos c1]
  exact hno _ rfl
 ·simp only [if_neg c1]
  exact hno _ (decide_eq_true (h.resolve_left c1))
end Go.Proofs.YtiahbcaoikoogabDoor.PQuick
end
section
namespace Go.Proofs.YtiahbcaoikoogabDoor.PDecRef
open Go Go.RowKit Go.Proofs.YtiahbcaoikoogabDoor Go.Proofs.YtiahbcaoikoogabDoor.All Go.Proofs.YtiahbcaoikoogabDoorW.PrintWords Go.Proofs.YtiahbcaoikoogabDoorW.PrintLast Go.Proofs.YtiahbcaoikoogabDoor.PKinds Go.Proofs.YtiahbcaoikoogabDoor.PSlowB
set_option linter.unusedVariables false
set_option linter.unusedSimpArgs false
def rans (out : List S48) (D : List S48 × Int × List Int) : List S48 × Int := (out ++ D.1, fc D)
theorem rans_cons (out : List S48) (x : S48) (D : List S48 × Int × List Int) : rans out (x :: D.1, D.2) = rans (out ++ [x]) D := by
 unfold rans fc
 rw [List.append_assoc]
 rfl
theorem ref_end (kind : Int) (nn : Nat) (R : List Int) (hR : Bs.Bits R) (out : List S48) (n t d v e xp xl xn : Int) :
    Ev (fun k => A0w.l0 k kind (nn : Int) R out (nn : Int) n t d v e xp xl xn) (rans out ([], 0, R)) := by
  have hnl : ¬ (nn : Int) < (nn : Int) := by omega
  unfold rans fc
  rw [List.append_nil, if_pos rfl]
  show Ev _ (out, if R.length ≥ 8 then (3 : Int) else if Bs.number R = 0 then 0 else 3)
  by_cases c1 : R.length ≥ 8
  · have c1' : (R.length : Int) ≥ 8 := by omega
    rw [if_pos c1]
    exact Ev.step (fun k => by rw [A0w.l0, if_neg hnl, if_pos c1']) (Ev.now (out, 3))
  · have c1' : ¬ (R.length : Int) ≥ 8 := by omega
    have g2 := PBits.Number_is R hR (by omega)
    rw [if_neg c1]
    by_cases c2 : Bs.number R = 0
    · rw [if_pos c2]
      exact Ev.step (fun k => by rw [A0w.l0, if_neg hnl, if_neg c1']) (Ev.bind g2 (Ev.congr (fun k => if_pos c2) (Ev.now (out, 0))))
    · rw [if_neg c2]
      exact Ev.step (fun k => by rw [A0w.l0, if_neg hnl, if_neg c1']) (Ev.bind g2 (Ev.congr (fun k => if_neg c2) (Ev.now (out, 3))))
theorem ref_l0 (kind : Int) (nn : Nat) (hnn : nn ≤ 65535) :
    ∀ (r j : Nat) (R : List Int) (out : List S48) (n t d v e xp : Int) (xl xn : Nat), j + r = nn → out.length = j → Bs.Bits R → R.length < 70368744177664 → Ok (j : Int) (n, t, d, v, e, xp, (xl : Int), (xn : Int)) →
      Ev (fun k => A0w.l0 k kind (nn : Int) R out (j : Int) n t d v e xp (xl : Int) (xn : Int)) (rans out (dec kind r (n, t, d, v, e, xp, (xl : Int), (xn : Int)) R)) := by
  intro r
  induction r with
  | zero =>
    intro j R out n t d v e xp xl xn hj ho hRb hl hok
    obtain rfl : j = nn := by omega
    exact ref_end kind j R hRb out n t d v e xp (xl : Int) (xn : Int)
  | succ r ih =>
    intro j R out n t d v e xp xl xn hj ho hRb hl hok
    have hlt : (j : Int) < (nn : Int) := by omega
    obtain ⟨xl', xn', el, en, hx⟩ := hok.w
    have hx : xl + xn ≤ 64 := by
      have e1 : (xl : Int) = (xl' : Int) := el
      have e2 : (xn : Int) = (xn' : Int) := en
      omega
    have hp := hok.p0
    have hn0 : 0 ≤ n := hok.n0
    have hn1 : n ≤ (j : Int) := hok.n1
    have g2 := PKinds.RGet_is kind n t d v e xp xl xn hn0 hp hx R hRb hl
    have ko := kg_ok (j : Int) (by omega) kind n t d v e xp xl xn ⟨hn0, hn1⟩ hp hx R hRb hl
    rw [dec_succ]
    generalize PKinds.kg kind n t d v e xp xl xn R = K at *
    obtain ⟨T, V, ⟨n', t', d', v', e', xp', al, an⟩, len, c⟩ := K
    have ho8 : out.length < 8796093022208 := by omega
    have g2 : Ev (fun k => A0f.f k kind n t d v e xp (xl : Int) (xn : Int) R) (T, V, n', t', d', v', e', xp', al, an, len, c) := g2
    by_cases c0 : c = 0
    · obtain ⟨ko', m, hm1, hm2, hm3⟩ := ko c0
      have hm1 : len = (m : Int) := hm1
      subst hm1
      obtain ⟨yl, yn, e1, e2, hy⟩ := ko'.w
      have e1 : al = (yl : Int) := e1
      have e2 : an = (yn : Int) := e2
      subst e1 e2 c0
      have hok2 : Ok ((j + 1 : Nat) : Int) (n', t', d', v', e', xp', (yl : Int), (yn : Int)) := by
        rw [show ((j + 1 : Nat) : Int) = (j : Int) + 1 from by omega]
        exact ko'
      have l1 : (out ++ [(⟨T, V⟩ : S48)]).length = j + 1 := by rw [List.length_append, List.length_singleton, ho]
      have l3 : j + 1 + r = nn := by omega
      have l4 : (R.drop m).length < 70368744177664 := by rw [List.length_drop]; omega
      have hm2' : (m : Int) ≤ (R.length : Int) := Int.ofNat_le.mpr hm2
      have wj : wrap64 ((j : Int) + 1) = ((j + 1 : Nat) : Int) := by rw [PBits.w64 _ (by omega)]; omega
      have h1 := ih (j + 1) (R.drop m) (out ++ [⟨T, V⟩]) n' t' d' v' e' xp' yl yn l3 l1 (hRb.drop m) l4 hok2
      show Ev _ (rans out (⟨T, V⟩ :: (dec kind r (n', t', d', v', e', xp', (yl : Int), (yn : Int)) (R.drop (m : Int).toNat)).1, (dec kind r (n', t', d', v', e', xp', (yl : Int), (yn : Int)) (R.drop (m : Int).toNat)).2))
      rw [rans_cons, Int.toNat_natCast]
      refine Ev.step (fun k => by rw [A0w.l0, if_pos hlt]) (Ev.bind g2 ?_)
      exact Ev.congr (fun k => by rw [if_pos rfl, if_pos ho8, if_pos (Int.natCast_nonneg m), if_pos hm2', Int.toNat_natCast, wj]) h1
    · have he : ∀ D : List S48 × Int × List Int, rans out (if c = 0 then (⟨T, V⟩ :: D.1, D.2) else ([], c, R)) = (out, c) := by
        intro D
        rw [if_neg c0]
        unfold rans fc
        rw [if_neg c0, List.append_nil]
      show Ev _ (rans out (if c = 0 then (⟨T, V⟩ :: (dec kind r (n', t', d', v', e', xp', al, an) (R.drop len.toNat)).1, (dec kind r (n', t', d', v', e', xp', al, an) (R.drop len.toNat)).2) else ([], c, R)))
      rw [he]
      refine Ev.step (fun k => by rw [A0w.l0, if_pos hlt]) (Ev.bind g2 ?_)
      exact Ev.congr (fun k => if_neg c0) (Ev.now (out, c))
theorem RDecode_is (kind : Int) (b : List Int) (hb : Bs.Bytes b) (hl : b.length ≤ 1000000) (nn : Nat) (h1 : 1 ≤ nn) (h2 : nn ≤ 65535) : Ev (fun k => A0w.f k kind b (nn : Int)) (rans [] (dec kind nn z8 (Bs.flat b))) := by
 unfold A0w.f
 have c1 : ¬ (nn : Int) < 1 := by omega
 have c2 : ¬ (nn : Int) > 65535 := by omega
 have hfl := Bs.A2n b
 have hf := PBits.Flat_is b hb (by omega)
 simp only [if_neg c1]
 rw [decide_eq_false c2]
 have h := ref_l0 kind nn h2 nn 0 (Bs.flat b) [] 0 0 0 0 0 0 0 0 (by omega) rfl (Bs.A36 b) (by omega) (ok_zero 0 (Int.le_refl _))
 exact Ev.step (fun k => by rw [A0w.j0, if_neg Bool.false_ne_true]) (Ev.bind hf h)
theorem RDecode_no (kind : Int) (b : List Int) (n : Int) (h : n < 1 ∨ n > 65535) : Ev (fun k => A0w.f k kind b n) ([], 1) := by
 have hno : ∀ x, x = true → Ev (fun k => A0w.j0 k kind b n x) (([] : List S48), 1) := by
  intro x hx
  subst hx
  exact Ev.step (fun k => by rw [A0w.j0, if_pos rfl]) (Ev.now _)
 unfold A0w.f
 by_cases c1 : n < 1
 ·simp only [if_pos c1]
  exact hno _ rfl
 ·simp only [if_neg c1]
  exact hno _ (decide_eq_true (h.resolve_left c1))
theorem dec_code (kind : Int) : ∀ (a : Nat) (s : S8) (R : List Int), (dec kind a s R).2.1 = 0 ∨ (dec kind a s R).2.1 = 2 ∨ (dec kind a s R).2.1 = 3 ∨ (dec kind a s R).2.1 = 4 ∨ (dec kind a s R).2.1 = 6 := by
 intro a
 induction a with
 | zero =>
  intro s R
  obtain ⟨n, t, d, v, e, xp, xl, xn⟩ := s
  exact .inl rfl
 | succ a ih =>
  intro s R
  obtain ⟨n, t, d, v, e, xp, xl, xn⟩ := s
  have h := kg_code kind n t d v e xp xl.toNat xn.toNat R
  unfold dec
  split
  ·exact ih _ _
  ·exact h
theorem fc_code (kind : Int) (a : Nat) (s : S8) (R : List Int) : fc (dec kind a s R) = 0 ∨ fc (dec kind a s R) = 2 ∨ fc (dec kind a s R) = 3 ∨ fc (dec kind a s R) = 4 ∨ fc (dec kind a s R) = 6 := by
 have h := dec_code kind a s R
 unfold fc
 split
 ·split
  ·exact .inr (.inr (.inl rfl))
  ·split
   ·exact .inl rfl
   ·exact .inr (.inr (.inl rfl))
 ·exact h
end Go.Proofs.YtiahbcaoikoogabDoor.PDecRef
end
section
namespace Go.Proofs.YtiahbcaoikoogabDoor.Pure
open Go Go.RowKit Go.Proofs.YtiahbcaoikoogabDoor Go.Proofs.YtiahbcaoikoogabDoor.All Go.Proofs.YtiahbcaoikoogabDoorW.PrintWords Go.Proofs.YtiahbcaoikoogabDoorW.PrintLast Go.Proofs.YtiahbcaoikoogabDoor.PSlowB
set_option linter.unusedVariables false
set_option linter.unusedSimpArgs false
theorem QuickTells_up : Ev (fun k => A2t.f k) true :=
 Ev.of A2t.mono (k := 300) (by decide +kernel)
theorem quick_no (c : Int) (h : c = 0 ∨ c = 1 ∨ c = 2 ∨ c = 3 ∨ c = 4 ∨ c = 6) : codeNo (if c = 0 then none else some c) = c := by
 rcases h with rfl | rfl | rfl | rfl | rfl | rfl <;> decide
theorem QuickTells : A1z.Pure := by
  intro kind b n _ _ _ h1 _
  have h1 : Bs.Bytes b := fun x h => Ib.wf_u8 (h1 x h)
  refine Ev.rounds (g := fun k => A1z.f k kind b n) ?_
  unfold A1z.f
  refine Ev.bind QuickTells_up ?_
  by_cases c1 : (b.length : Int) > 600
  · exact Ev.congr (fun k => if_pos c1) (Ev.now _)
  have main : ∀ (M : List S48) (c : Int), M.length ≤ 65535 → (c = 0 ∨ c = 1 ∨ c = 2 ∨ c = 3 ∨ c = 4 ∨ c = 6) → Ev (fun k => A0x.f k kind b n) (M, if c = 0 then none else some c) → Ev (fun k => A0w.f k kind b n) (M, c) →
      Ev (fun k => if (b.length : Int) > 600 then some true else ((A0x.f k kind b n).bind fun bt988 => ((A0w.f k kind b n).bind fun bt992 => (if true = true then ((A04.f k bt988.1 bt992.1).bind fun t996 => (if t996 = 1 then ((A2d.f bt988.2).bind fun t997 => (some (t997 == bt992.2))) else (none))) else (none))))) true := by
    intro M c hM hc g1 g2
    have hs := PSame.Same_is M (by omega)
    have hcode : A2d.f (if c = 0 then none else some c) = some c := by
      unfold A2d.f
      rw [quick_no c hc]
    refine Ev.congr (fun k => if_neg c1) (Ev.bind g1 (Ev.bind g2 ?_))
    refine Ev.congr (fun k => if_pos rfl) (Ev.bind hs ?_)
    refine Ev.congr (fun k => ?_) (Ev.now true)
    show (if (1 : Int) = 1 then (A2d.f (if c = 0 then none else some c)).bind fun t1403 => some (t1403 == c) else none) = some true
    rw [if_pos rfl, hcode, Option.bind_some, beq_self_eq_true]
  by_cases c2 : n < 1 ∨ n > 65535
  · exact main [] 1 (by decide) (.inr (.inl rfl)) (PQuick.Decode_no kind b n c2) (PDecRef.RDecode_no kind b n c2)
  obtain ⟨nn, rfl⟩ : ∃ m : Nat, n = (m : Int) := ⟨n.toNat, by omega⟩
  have g1 := PQuick.Decode_is kind b h1 (by omega) nn (by omega) (by omega)
  have g2 := PDecRef.RDecode_is kind b h1 (by omega) nn (by omega) (by omega)
  have hl := (PBatch.dec_len kind nn PKinds.z8 (Bs.flat b)).1
  have hc := PDecRef.fc_code kind nn PKinds.z8 (Bs.flat b)
  generalize dec kind nn PKinds.z8 (Bs.flat b) = D at *
  refine main ([] ++ D.1) (fc D) (by rw [List.nil_append]; omega) ?_ g1 g2
  rcases hc with h | h | h | h | h
  · exact .inl h
  · exact .inr (.inr (.inl h))
  · exact .inr (.inr (.inr (.inl h)))
  · exact .inr (.inr (.inr (.inr (.inl h))))
  · exact .inr (.inr (.inr (.inr (.inr h))))
end Go.Proofs.YtiahbcaoikoogabDoor.Pure
end
