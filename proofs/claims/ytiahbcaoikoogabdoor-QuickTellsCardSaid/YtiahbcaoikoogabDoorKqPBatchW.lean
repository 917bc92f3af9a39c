-- copied by a program of the session
import Derived.Test.YtiahbcaoikoogabDoorKqPBatchV
namespace Go.Proofs.YtiahbcaoikoogabDoor.PBatch
open Go Go.RowKit Go.Proofs.YtiahbcaoikoogabDoor Go.Proofs.YtiahbcaoikoogabDoor.All Go.Proofs.YtiahbcaoikoogabDoorW.PrintWords Go.Proofs.YtiahbcaoikoogabDoorW.PrintLast Go.Proofs.YtiahbcaoikoogabDoor.PXor
set_option linter.unusedVariables false
set_option linter.unusedSimpArgs false
set_option linter.unusedSectionVars false
theorem rdv_no {R : List Int} {n : Nat} (h : R.length < n) : PFill.rdv R (n : Int) = (0, false) := by
 unfold PFill.rdv
 rw [if_pos (by omega)]
theorem rdv_yes {R : List Int} {n : Nat} (h64 : n ≤ 64) (h : n ≤ R.length) : PFill.rdv R (n : Int) = (Bs.number (R.take n), true) := by
 unfold PFill.rdv
 rw [if_neg (by omega), Int.toNat_natCast]
theorem rdR_yes {R : List Int} {n : Nat} (h64 : n ≤ 64) (h : n ≤ R.length) : PFill.rdR R (n : Int) = R.drop n := by
 unfold PFill.rdR
 rw [if_neg (by omega), Int.toNat_natCast]
theorem read_yes {R b : List Int} {u h : Int} (hI : PFill.Inv R b u h) (n : Nat) (h64 : n ≤ 64) (hn : n ≤ R.length) :
    ∃ b' u' h', Ev (fun k => A0j.f k b u h (n : Int)) (Bs.number (R.take n), true, b', u', h') ∧ PFill.Inv (R.drop n) b' u' h' := by
  obtain ⟨b', u', h', e1, e2⟩ := PFill.Read_is hI (n : Int)
  rw [rdv_yes h64 hn] at e1
  rw [rdR_yes h64 hn] at e2
  exact ⟨b', u', h', e1, e2⟩
theorem read_no {R b : List Int} {u h : Int} (hI : PFill.Inv R b u h) (n : Nat) (hn : R.length < n) :
    ∃ b' u' h', Ev (fun k => A0j.f k b u h (n : Int)) (0, false, b', u', h') := by
  obtain ⟨b', u', h', e1, e2⟩ := PFill.Read_is hI (n : Int)
  rw [rdv_no hn] at e1
  exact ⟨b', u', h', e1⟩
def Says (G : PXor.G) (R : List Int) (f : Nat → Option (Int × Int × Int × Int × Option Int × List Int × Int × Int)) : Prop :=
 ∃ V s0 s1 s2 b' u' h', Ev f (V, s0, s1, s2, (if G.2.2.2.2.2 = 0 then none else some G.2.2.2.2.2), b', u', h') ∧ (G.2.2.2.2.2 = 0 → V = G.1 ∧ s0 = G.2.1 ∧ s1 = G.2.2.1 ∧ s2 = G.2.2.2.1 ∧ PFill.Inv (R.drop G.2.2.2.2.1.toNat) b' u' h')
theorem says_err {c : Int} {R : List Int} {f} (hc : ¬ c = 0) {V s0 s1 s2 : Int} {b' : List Int} {u' h' : Int} (h : Ev f (V, s0, s1, s2, some c, b', u', h')) : Says (0, 0, 0, 0, 0, c) R f := by
 refine ⟨V, s0, s1, s2, b', u', h', ?_, fun h0 => absurd h0 hc⟩
 show Ev f (V, s0, s1, s2, (if c = 0 then none else some c), b', u', h')
 rw [if_neg hc]
 exact h
theorem wr2 (s : Nat) (h : s ≤ 64) : wrap64 (2 + (s : Int)) = ((2 + s : Nat) : Int) := by rw [PBits.w64 _ (by omega)]; omega
theorem wr14 (s : Nat) (h : s ≤ 64) : wrap64 (((2 + s : Nat) : Int) + 12) = ((14 + s : Nat) : Int) := by rw [PBits.w64 _ (by omega)]; omega
theorem ne_cast {a b : Nat} (h : ¬ a = b) : ¬ (a : Int) = (b : Int) := by omega
theorem eq_cast {a b : Nat} (h : a = b) : (a : Int) = (b : Int) := by omega
theorem j3_new (C : List Int) (hpos : 0 < ((Bs.pack C).length : Int)) (lead size CL CN : Nat) (h64 : size ≤ 64) (b : List Int) (u h p l n v w : Int) :
    Ev (fun k => A0q.j3 k 1 (lead : Int) (size : Int) v ((2 + size : Nat) : Int) b u h p l n (Bs.pack C) (C.length : Int) w (CL : Int) (CN : Int))
      (if C.length = 14 + size ∧ CL = lead ∧ CN = size ∧ rd (Bs.pack C) 0 / 64 = 3 then (v, w, (CL : Int), (CN : Int), none, b, u, h) else (0, p, l, n, some 3, b, u, h)) := by
  have hw := wr14 size h64
  by_cases c1 : C.length = 14 + size
  · by_cases c2 : CL = lead
    · by_cases c3 : CN = size
      · by_cases c4 : rd (Bs.pack C) 0 / 64 = 3
        · rw [if_pos ⟨c1, c2, c3, c4⟩]
          exact Ev.step (fun k => by rw [A0q.j3, if_pos rfl, hw, if_pos (eq_cast c1), if_pos (eq_cast c2), if_pos (eq_cast c3), if_pos hpos, if_pos c4]) (Ev.now (v, w, (CL : Int), (CN : Int), none, b, u, h))
        · rw [if_neg (fun q => c4 q.2.2.2)]
          exact Ev.step (fun k => by rw [A0q.j3, if_pos rfl, hw, if_pos (eq_cast c1), if_pos (eq_cast c2), if_pos (eq_cast c3), if_pos hpos, if_neg c4]) (Ev.now (0, p, l, n, some 3, b, u, h))
      · rw [if_neg (fun q => c3 q.2.2.1)]
        exact Ev.step (fun k => by rw [A0q.j3, if_pos rfl, hw, if_pos (eq_cast c1), if_pos (eq_cast c2), if_neg (ne_cast c3)]) (Ev.now (0, p, l, n, some 3, b, u, h))
    · rw [if_neg (fun q => c2 q.2.1)]
      exact Ev.step (fun k => by rw [A0q.j3, if_pos rfl, hw, if_pos (eq_cast c1), if_neg (ne_cast c2)]) (Ev.now (0, p, l, n, some 3, b, u, h))
  · rw [if_neg (fun q => c1 q.1)]
    exact Ev.step (fun k => by rw [A0q.j3, if_pos rfl, hw, if_neg (ne_cast c1)]) (Ev.now (0, p, l, n, some 3, b, u, h))
theorem j3_old (C : List Int) (hpos : 0 < ((Bs.pack C).length : Int)) (size : Nat) (b : List Int) (u h p l n v w lead CL CN : Int) :
    Ev (fun k => A0q.j3 k 0 lead (size : Int) v ((2 + size : Nat) : Int) b u h p l n (Bs.pack C) (C.length : Int) w CL CN)
      (if C.length = 2 + size ∧ ¬ rd (Bs.pack C) 0 / 64 = 3 then (v, w, CL, CN, none, b, u, h) else (0, p, l, n, some 3, b, u, h)) := by
  have z1 : ¬ (0 : Int) = 1 := by decide
  by_cases c1 : C.length = 2 + size
  · by_cases c4 : rd (Bs.pack C) 0 / 64 = 3
    · rw [if_neg (fun q => q.2 c4)]
      exact Ev.step (fun k => by rw [A0q.j3, if_neg z1, if_pos (eq_cast c1), if_pos hpos, if_pos c4]) (Ev.now (0, p, l, n, some 3, b, u, h))
    · rw [if_pos ⟨c1, c4⟩]
      exact Ev.step (fun k => by rw [A0q.j3, if_neg z1, if_pos (eq_cast c1), if_pos hpos, if_neg c4]) (Ev.now (v, w, CL, CN, none, b, u, h))
  · rw [if_neg (fun q => c1 q.1)]
    exact Ev.step (fun k => by rw [A0q.j3, if_neg z1, if_neg (ne_cast c1)]) (Ev.now (0, p, l, n, some 3, b, u, h))
theorem ev_iff {α : Type} {f : Nat → Option α} {P Q : Prop} [Decidable P] [Decidable Q] {x y : α} (h : P ↔ Q) (e : Ev f (if Q then x else y)) : Ev f (if P then x else y) := by
 by_cases c : P
 ·rw [if_pos (h.mp c)] at e
  rw [if_pos c]
  exact e
 ·rw [if_neg (fun q => c (h.mpr q))] at e
  rw [if_neg c]
  exact e
section
variable {R : List Int} (hR : Bs.Bits R) (p : Int) (hp : 0 ≤ p ∧ p < 18446744073709551616) (l n : Nat) (hln : l + n ≤ 64) (r0 : rd R 0 = 1)
include hR hp hln r0
theorem test_new (r1 : rd R 1 = 1) (hh : 14 + sd R ≤ R.length) (hs : ld R + sd R ≤ 64) (b : List Int) (u h : Int) (v : Int) :
    Ev (fun k => A0q.j3 k 1 (ld R : Int) (sd R : Int) v ((2 + sd R : Nat) : Int) b u h p (l : Int) (n : Int) (Bs.pack (cb l n (xv R 14 (ld R) (sd R)))) ((cb l n (xv R 14 (ld R) (sd R))).length : Int) v (cl l n (xv R 14 (ld R) (sd R)) : Int) (cn l n (xv R 14 (ld R) (sd R)) : Int))
      (if cb l n (xv R 14 (ld R) (sd R)) = R.take (14 + sd R) then (v, v, (cl l n (xv R 14 (ld R) (sd R)) : Int), (cn l n (xv R 14 (ld R) (sd R)) : Int), none, b, u, h) else (0, p, (l : Int), (n : Int), some 3, b, u, h)) := by
  have h14 : 14 ≤ R.length := by omega
  have hx := xv_range hR 14 (ld R) (sd R) hh hs
  exact ev_iff (new_iff hR l n hln hh hs r0 r1) (j3_new _ (pack_pos _ (cb_short l n _ hln hx.1 hx.2).1) (ld R) (sd R) _ _ (sd_lt hR h14).2.1 b u h p (l : Int) (n : Int) v v)
theorem test_old (r1 : rd R 1 = 0) (h0 : 0 < n) (hh : 2 + n ≤ R.length) (b : List Int) (u h : Int) (v : Int) :
    Ev (fun k => A0q.j3 k 0 (l : Int) (n : Int) v ((2 + n : Nat) : Int) b u h p (l : Int) (n : Int) (Bs.pack (cb l n (xv R 2 l n))) ((cb l n (xv R 2 l n)).length : Int) v (cl l n (xv R 2 l n) : Int) (cn l n (xv R 2 l n) : Int))
      (if cb l n (xv R 2 l n) = R.take (2 + n) then (v, v, (cl l n (xv R 2 l n) : Int), (cn l n (xv R 2 l n) : Int), none, b, u, h) else (0, p, (l : Int), (n : Int), some 3, b, u, h)) := by
  have hx := xv_range hR 2 l n hh hln
  exact ev_iff (old_iff hR l n hln h0 hh r0 r1) (j3_old _ (pack_pos _ (cb_short l n _ hln hx.1 hx.2).1) n b u h p (l : Int) (n : Int) v v _ _ _)
theorem body (h0 : Nat) (hh0 : h0 ≤ R.length) {b : List Int} {u h : Int} (hI : PFill.Inv (R.drop h0) b u h) (lead size : Nat) (hls : lead + size ≤ 64) (x9 : Int)
    (hk : (x9 = 0 ∧ h0 = 2 ∧ lead = l ∧ size = n ∧ rd R 1 = 0) ∨ (x9 = 1 ∧ h0 = 14 ∧ lead = ld R ∧ size = sd R ∧ rd R 1 = 1)) :
    Says (bd p l n R h0 lead size) R (fun k => A0q.j1 k x9 (lead : Int) (size : Int) b u h p (l : Int) (n : Int)) := by
  unfold bd
  by_cases c0 : size = 0
  · rw [if_pos (.inl c0)]
    have c0' : (size : Int) = 0 := by omega
    exact says_err (by decide) (Ev.step (fun k => by rw [A0q.j1, if_pos c0']) (Ev.now (0, p, (l : Int), (n : Int), some 3, b, u, h)))
  have c0' : ¬ (size : Int) = 0 := by omega
  have c01 : ¬ (size = 0 ∨ lead + size > 64) := by omega
  rw [if_neg c01]
  have hd := List.length_drop (l := R) (i := h0)
  by_cases c1 : R.length < h0 + size
  · rw [if_pos c1]
    obtain ⟨b1, u1, h1, e1⟩ := read_no hI size (by omega)
    refine says_err (by decide) (V := 0) (s0 := p) (s1 := (l : Int)) (s2 := (n : Int)) (b' := b1) (u' := u1) (h' := h1) ?_
    refine Ev.step (fun k => by rw [A0q.j1, if_neg c0']) (Ev.bind e1 ?_)
    exact Ev.step (fun k => by rw [A0q.j2, if_neg Bool.false_ne_true]) (Ev.now _)
  rw [if_neg c1]
  obtain ⟨b1, u1, h1, e1, hI1⟩ := read_yes hI size (by omega) (by omega)
  rw [List.drop_drop] at hI1
  have hj3 : Ev (fun k => A0q.j3 k x9 (lead : Int) (size : Int) (Go.bits .xor .u64 p (xv R h0 lead size)) ((2 + size : Nat) : Int) b1 u1 h1 p (l : Int) (n : Int) (Bs.pack (cb l n (xv R h0 lead size))) ((cb l n (xv R h0 lead size)).length : Int) (Go.bits .xor .u64 p (xv R h0 lead size)) (cl l n (xv R h0 lead size) : Int) (cn l n (xv R h0 lead size) : Int))
      (if cb l n (xv R h0 lead size) = R.take (h0 + size) then (Go.bits .xor .u64 p (xv R h0 lead size), Go.bits .xor .u64 p (xv R h0 lead size), (cl l n (xv R h0 lead size) : Int), (cn l n (xv R h0 lead size) : Int), none, b1, u1, h1) else (0, p, (l : Int), (n : Int), some 3, b1, u1, h1)) := by
    rcases hk with ⟨k1, k2, k3, k4, k5⟩ | ⟨k1, k2, k3, k4, k5⟩
    · subst k1 k2 k3 k4
      exact test_old hR p hp lead size hln r0 k5 (by omega) (by omega) b1 u1 h1 _
    · subst k1 k2 k3 k4
      exact test_new hR p hp l n hln r0 k5 (by omega) hls b1 u1 h1 _
  have hx := xv_range hR h0 lead size (by omega) hls
  have hsh := shl_xv R h0 lead size hls hx
  have hws := wsub lead size hls
  have hw2 := wr2 size (by omega)
  have hv := xor_range p (xv R h0 lead size) hp hx
  have hcode := Code_is p (Go.bits .xor .u64 p (xv R h0 lead size)) l n hp hv hln (d := xv R h0 lead size) (xor_back p _ hp hx)
  have hall : Ev (fun k => A0q.j1 k x9 (lead : Int) (size : Int) b u h p (l : Int) (n : Int)) (if cb l n (xv R h0 lead size) = R.take (h0 + size) then (Go.bits .xor .u64 p (xv R h0 lead size), Go.bits .xor .u64 p (xv R h0 lead size), (cl l n (xv R h0 lead size) : Int), (cn l n (xv R h0 lead size) : Int), none, b1, u1, h1) else (0, p, (l : Int), (n : Int), some 3, b1, u1, h1)) := by
    refine Ev.step (fun k => by rw [A0q.j1, if_neg c0']) (Ev.bind e1 ?_)
    refine Ev.step (fun k => by rw [A0q.j2, if_pos rfl, hws, if_pos (Int.natCast_nonneg _), hsh, hw2]) (Ev.bind hcode ?_)
    exact hj3
  by_cases c2 : cb l n (xv R h0 lead size) = R.take (h0 + size)
  · rw [if_pos c2] at hall ⊢
    refine ⟨_, _, _, _, b1, u1, h1, hall, fun _ => ⟨rfl, rfl, rfl, rfl, ?_⟩⟩
    show PFill.Inv (R.drop ((h0 + size : Nat) : Int).toNat) b1 u1 h1
    rw [Int.toNat_natCast]
    exact hI1
  · rw [if_neg c2] at hall ⊢
    exact says_err (by decide) hall
end
theorem and63 (x : Int) (hx : 0 ≤ x ∧ x < 18446744073709551616) : Go.bits .and .u64 x 63 = x % 64 := by
 rw [Ib.and_u64 x 63 hx (by decide)]
 have e : x.toNat &&& (63 : Int).toNat = x.toNat % 64 := Nat.and_two_pow_sub_one_eq_mod x.toNat 6
 rw [e]
 omega
theorem window12 {R : List Int} (hR : Bs.Bits R) (h14 : 14 ≤ R.length) : Bs.number ((R.drop 2).take 12) / 64 = (ld R : Int) ∧ Go.bits .and .u64 (Bs.number ((R.drop 2).take 12)) 63 + 1 = (sd R : Int) := by
 have hl := ld_lt hR h14
 have hs := sd_lt hR h14
 have hcut := PFill.number_cut ((R.drop 2).take 12) 6
 have e1 : ((R.drop 2).take 12).take 6 = (R.drop 2).take 6 := by rw [List.take_take]; rfl
 have e2 : ((R.drop 2).take 12).drop 6 = (R.drop 8).take 6 := by rw [List.drop_take, List.drop_drop]
 have e3 : ((R.drop 2).take 12).length = 12 := by rw [List.length_take, List.length_drop]; omega
 rw [e1, e2, e3] at hcut
 have k6 : (2 : Int) ^ (12 - 6) = 64 := by decide
 rw [k6] at hcut
 have hn := num_range hR 2 12 (by omega)
 have k12 : (2 : Int) ^ 12 = 4096 := by decide
 rw [k12] at hn
 rw [and63 _ ⟨hn.1, by omega⟩]
 have h1 := hl.1
 have h2 := hs.1
 have n6 := num_range hR 8 6 (by omega)
 have k6' : (2 : Int) ^ 6 = 64 := by decide
 rw [k6'] at n6
 omega
theorem wr_size (y : Int) (s : Nat) (h : y + 1 = (s : Int)) (h1 : 1 ≤ s) (h64 : s ≤ 64) : wrap64 (wrap64 y + 1) = (s : Int) := by rw [PBits.w64 y (by omega), h, PBits.w64 _ (by omega)]
theorem Value_is {R b : List Int} {u h : Int} (hI : PFill.Inv R b u h) (p : Int) (hp : 0 ≤ p ∧ p < 18446744073709551616) (l n : Nat) (hln : l + n ≤ 64) :
    Says (xg p l n R) R (fun k => A0q.f k b u h p (l : Int) (n : Int)) := by
  have hR := hI.bits
  unfold xg A0q.f
  by_cases c0 : R.length = 0
  · rw [if_pos c0]
    obtain ⟨b1, u1, h1, e1⟩ := read_no hI 1 (by omega)
    refine says_err (by decide) (V := 0) (s0 := p) (s1 := (l : Int)) (s2 := (n : Int)) (b' := b1) (u' := u1) (h' := h1) ?_
    exact Ev.bind e1 (Ev.congr (fun k => if_neg Bool.false_ne_true) (Ev.now _))
  rw [if_neg c0]
  obtain ⟨b1, u1, h1, e1, hI1⟩ := read_yes hI 1 (by decide) (by omega)
  rw [num1 R (by omega)] at e1
  by_cases c1 : rd R 0 = 0
  · rw [if_pos c1]
    refine ⟨p, p, (l : Int), (n : Int), b1, u1, h1, ?_, fun _ => ⟨rfl, rfl, rfl, rfl, hI1⟩⟩
    exact Ev.bind e1 (Ev.congr (fun k => by rw [if_pos rfl, if_pos c1]) (Ev.now (p, p, (l : Int), (n : Int), none, b1, u1, h1)))
  rw [if_neg c1]
  have r0 : rd R 0 = 1 := (bit01 hR 0 (by omega)).resolve_left c1
  have hd1 := List.length_drop (l := R) (i := 1)
  by_cases c2 : R.length = 1
  · rw [if_pos c2]
    obtain ⟨b2, u2, h2, e2⟩ := read_no hI1 1 (by omega)
    refine says_err (by decide) (V := 0) (s0 := p) (s1 := (l : Int)) (s2 := (n : Int)) (b' := b2) (u' := u2) (h' := h2) ?_
    refine Ev.bind e1 (Ev.congr (fun k => if_pos rfl) (Ev.congr (fun k => if_neg c1) (Ev.bind e2 ?_)))
    exact Ev.step (fun k => by rw [A0q.j0, if_neg Bool.false_ne_true]) (Ev.now _)
  rw [if_neg c2]
  obtain ⟨b2, u2, h2, e2, hI2⟩ := read_yes hI1 1 (by decide) (by omega)
  rw [num1' R 1 (by omega)] at e2
  rw [List.drop_drop] at hI2
  have hI2 : PFill.Inv (R.drop 2) b2 u2 h2 := hI2
  have hd2 := List.length_drop (l := R) (i := 2)
  have e2 : Ev (fun k => A0j.f k b1 u1 h1 1) (rd R 1, true, b2, u2, h2) := e2
  by_cases c3 : rd R 1 = 1
  · rw [if_pos c3]
    rw [c3] at e2
    by_cases c4 : R.length < 14
    · rw [if_pos c4]
      obtain ⟨b3, u3, h3, e3⟩ := read_no hI2 12 (by omega)
      refine says_err (by decide) (V := 0) (s0 := p) (s1 := (l : Int)) (s2 := (n : Int)) (b' := b3) (u' := u3) (h' := h3) ?_
      refine Ev.bind e1 (Ev.congr (fun k => if_pos rfl) (Ev.congr (fun k => if_neg c1) (Ev.bind e2 ?_)))
      have hf : Ev (fun k => A2p.f k b2 u2 h2) (0, 0, some 2, b3, u3, h3) := by
        unfold A2p.f
        exact Ev.bind e3 (Ev.congr (fun k => if_neg Bool.false_ne_true) (Ev.now _))
      refine Ev.step (fun k => by rw [A0q.j0, if_pos rfl, if_pos rfl]) (Ev.bind hf ?_)
      exact Ev.congr (fun k => if_neg Bool.false_ne_true) (Ev.now _)
    rw [if_neg c4]
    obtain ⟨b3, u3, h3, e3, hI3⟩ := read_yes hI2 12 (by decide) (by omega)
    rw [List.drop_drop] at hI3
    have hI3 : PFill.Inv (R.drop 14) b3 u3 h3 := hI3
    have e3 : Ev (fun k => A0j.f k b2 u2 h2 12) (Bs.number ((R.drop 2).take 12), true, b3, u3, h3) := e3
    have h14 : 14 ≤ R.length := Nat.le_of_not_lt c4
    have hl := ld_lt hR h14
    have hs := sd_lt hR h14
    have q1 : wrap64 (ld R : Int) = (ld R : Int) := wsm _ hl.2
    have q3 : wrap64 ((ld R : Int) + (sd R : Int)) = ((ld R + sd R : Nat) : Int) := wadd _ _ (Nat.le_of_lt hl.2) hs.2.1
    obtain ⟨w1, w2⟩ := window12 hR h14
    have q2 : wrap64 (wrap64 (Go.bits .and .u64 (Bs.number ((R.drop 2).take 12)) 63) + 1) = (sd R : Int) := wr_size _ _ w2 hs.2.2 hs.2.1
    by_cases c5 : ld R + sd R > 64
    · have c5' : ((ld R + sd R : Nat) : Int) > 64 := gtc c5
      unfold bd
      rw [if_pos (.inr c5)]
      refine says_err (by decide) (V := 0) (s0 := p) (s1 := (l : Int)) (s2 := (n : Int)) (b' := b3) (u' := u3) (h' := h3) ?_
      refine Ev.bind e1 (Ev.congr (fun k => if_pos rfl) (Ev.congr (fun k => if_neg c1) (Ev.bind e2 ?_)))
      have hf : Ev (fun k => A2p.f k b2 u2 h2) (0, 0, some 3, b3, u3, h3) := by
        unfold A2p.f
        exact Ev.bind e3 (Ev.congr (fun k => by rw [if_pos rfl, w1, q1, q2, q3, if_pos c5']) (Ev.now _))
      refine Ev.step (fun k => by rw [A0q.j0, if_pos rfl, if_pos rfl]) (Ev.bind hf ?_)
      exact Ev.congr (fun k => if_neg Bool.false_ne_true) (Ev.now _)
    · have c5' : ¬ ((ld R + sd R : Nat) : Int) > 64 := gtc' c5
      have hf : Ev (fun k => A2p.f k b2 u2 h2) ((ld R : Int), (sd R : Int), none, b3, u3, h3) := by
        unfold A2p.f
        exact Ev.bind e3 (Ev.congr (fun k => by rw [if_pos rfl, w1, q1, q2, q3, if_neg c5']) (Ev.now _))
      obtain ⟨V, s0, s1, s2, b', u', h', g1, g2⟩ := body hR p hp l n hln r0 14 h14 hI3 (ld R) (sd R) (Nat.le_of_not_lt c5) 1 (.inr ⟨rfl, rfl, rfl, rfl, c3⟩)
      refine ⟨V, s0, s1, s2, b', u', h', ?_, g2⟩
      refine Ev.bind e1 (Ev.congr (fun k => if_pos rfl) (Ev.congr (fun k => if_neg c1) (Ev.bind e2 ?_)))
      refine Ev.step (fun k => by rw [A0q.j0, if_pos rfl, if_pos rfl]) (Ev.bind hf ?_)
      exact Ev.congr (fun k => if_pos (show (none : Option Int).isNone = true from rfl)) g1
  · rw [if_neg c3]
    have r1 : rd R 1 = 0 := (bit01 hR 1 (by omega)).resolve_right c3
    have z1 : ¬ (0 : Int) = 1 := by decide
    rw [r1] at e2
    obtain ⟨V, s0, s1, s2, b', u', h', g1, g2⟩ := body hR p hp l n hln r0 2 (by omega) hI2 l n hln 0 (.inl ⟨rfl, rfl, rfl, rfl, r1⟩)
    refine ⟨V, s0, s1, s2, b', u', h', ?_, g2⟩
    refine Ev.bind e1 (Ev.congr (fun k => if_pos rfl) (Ev.congr (fun k => if_neg c1) (Ev.bind e2 ?_)))
    exact Ev.step (fun k => by rw [A0q.j0, if_pos rfl, if_neg z1]) g1
end Go.Proofs.YtiahbcaoikoogabDoor.PBatch
