-- copied by a program of the session
import Derived.Test.YtodocfjbpkicgaaDoorKvPBatchV
import Derived.Test.YtodocfjbpkicgaaDoorKvAllx32
import Derived.Test.YtodocfjbpkicgaaDoorKvAllx11
import Derived.Test.YtodocfjbpkicgaaDoorKvM4
section
namespace Go.Proofs.YtodocfjbpkicgaaDoor.PBatch
open Go Go.RowKit Go.Proofs.YtodocfjbpkicgaaDoor Go.Proofs.YtodocfjbpkicgaaDoor.All Go.Proofs.YtodocfjbpkicgaaDoorW.PrintWords Go.Proofs.YtodocfjbpkicgaaDoorW.PrintLast Go.Proofs.YtodocfjbpkicgaaDoor.PXor
set_option linter.unusedVariables false
set_option linter.unusedSimpArgs false
set_option linter.unusedSectionVars false
theorem rdv_no {R : List Int} {n : Nat} (h : R.length < n) : PFill.rdv R (n : Int) = (0, false) := by
 unfold PFill.rdv
 rw [if_pos (by omega)]
theorem rdv_yes {R : List Int} {n : Nat} (h64 : n ≤ 64) (h : n ≤ R.length) : PFill.rdv R (n : Int) = (Bs.number (R.take n), true) := by
 unfold PFill.rdv
 rw [if_neg (by omega), Int.toNat_natCast]
theorem rdR_yes {R : List Int} {n : Nat} (h64 : n ≤ 64) (h : n ≤ R.length) : PFill.rdR R (n : Int) = R.drop n := by
 unfold PFill.rdR
 rw [if_neg (by omega), Int.toNat_natCast]
theorem read_yes {R b : List Int} {u h : Int} (hI : PFill.Inv R b u h) (n : Nat) (h64 : n ≤ 64) (hn : n ≤ R.length) :
    ∃ b' u' h', Ev (fun k => A0j.f k b u h (n : Int)) (Bs.number (R.take n), true, b', u', h') ∧ PFill.Inv (R.drop n) b' u' h' := by
  obtain ⟨b', u', h', e1, e2⟩ := PFill.Read_is hI (n : Int)
  rw [rdv_yes h64 hn] at e1
  rw [rdR_yes h64 hn] at e2
  exact ⟨b', u', h', e1, e2⟩
theorem read_no {R b : List Int} {u h : Int} (hI : PFill.Inv R b u h) (n : Nat) (hn : R.length < n) :
    ∃ b' u' h', Ev (fun k => A0j.f k b u h (n : Int)) (0, false, b', u', h') := by
  obtain ⟨b', u', h', e1, e2⟩ := PFill.Read_is hI (n : Int)
  rw [rdv_no hn] at e1
  exact ⟨b', u', h', e1⟩
def Says (G : PXor.G) (R : List Int) (f : Nat → Option (Int × Int × Int × Int × Option Int × List Int × Int × Int)) : Prop :=
 ∃ V s0 s1 s2 b' u' h', Ev f (V, s0, s1, s2, (if G.2.2.2.2.2 = 0 then none else some G.2.2.2.2.2), b', u', h') ∧ (G.2.2.2.2.2 = 0 → V = G.1 ∧ s0 = G.2.1 ∧ s1 = G.2.2.1 ∧ s2 = G.2.2.2.1 ∧ PFill.Inv (R.drop G.2.2.2.2.1.toNat) b' u' h')
theorem says_err {c : Int} {R : List Int} {f} (hc : ¬ c = 0) {V s0 s1 s2 : Int} {b' : List Int} {u' h' : Int} (h : Ev f (V, s0, s1, s2, some c, b', u', h')) : Says (0, 0, 0, 0, 0, c) R f := by
 refine ⟨V, s0, s1, s2, b', u', h', ?_, fun h0 => absurd h0 hc⟩
 show Ev f (V, s0, s1, s2, (if c = 0 then none else some c), b', u', h')
 rw [if_neg hc]
 exact h
theorem wr2 (s : Nat) (h : s ≤ 64) : wrap64 (2 + (s : Int)) = ((2 + s : Nat) : Int) := by rw [PBits.w64 _ (by omega)]; omega
theorem wr14 (s : Nat) (h : s ≤ 64) : wrap64 (((2 + s : Nat) : Int) + 12) = ((14 + s : Nat) : Int) := by rw [PBits.w64 _ (by omega)]; omega
theorem ne_cast {a b : Nat} (h : ¬ a = b) : ¬ (a : Int) = (b : Int) := by omega
theorem eq_cast {a b : Nat} (h : a = b) : (a : Int) = (b : Int) := by omega
theorem j3_new (C : List Int) (hpos : 0 < ((Bs.pack C).length : Int)) (lead size CL CN : Nat) (h64 : size ≤ 64) (b : List Int) (u h p l n v w : Int) :
    Ev (fun k => A0q.j3 k 1 (lead : Int) (size : Int) v ((2 + size : Nat) : Int) b u h p l n (Bs.pack C) (C.length : Int) w (CL : Int) (CN : Int))
      (if C.length = 14 + size ∧ CL = lead ∧ CN = size ∧ rd (Bs.pack C) 0 / 64 = 3 then (v, w, (CL : Int), (CN : Int), none, b, u, h) else (0, p, l, n, some 3, b, u, h)) := by
  have hw := wr14 size h64
  by_cases c1 : C.length = 14 + size
  · by_cases c2 : CL = lead
    · by_cases c3 : CN = size
      · by_cases c4 : rd (Bs.pack C) 0 / 64 = 3
        · rw [if_pos ⟨c1, c2, c3, c4⟩]
          exact Ev.step (fun k => by rw [A0q.j3, if_pos rfl, hw, if_pos (eq_cast c1), if_pos (eq_cast c2), if_pos (eq_cast c3), if_pos hpos, if_pos c4]) (Ev.now (v, w, (CL : Int), (CN : Int), none, b, u, h))
        · rw [if_neg (fun q => c4 q.2.2.2)]
          exact Ev.step (fun k => by rw [A0q.j3, if_pos rfl, hw, if_pos (eq_cast c1), if_pos (eq_cast c2), if_pos (eq_cast c3), if_pos hpos, if_neg c4]) (Ev.now (0, p, l, n, some 3, b, u, h))
      · rw [if_neg (fun q => c3 q.2.2.1)]
        exact Ev.step (fun k => by rw [A0q.j3, if_pos rfl, hw, if_pos (eq_cast c1), if_pos (eq_cast c2), if_neg (ne_cast c3)]) (Ev.now (0, p, l, n, some 3, b, u, h))
    · rw [if_neg (fun q => c2 q.2.1)]
      exact Ev.step (fun k => by rw [A0q.j3, if_pos rfl, hw, if_pos (eq_cast c1), if_neg (ne_cast c2)]) (Ev.now (0, p, l, n, some 3, b, u, h))
  · rw [if_neg (fun q => c1 q.1)]
    exact Ev.step (fun k => by rw [A0q.j3, if_pos rfl, hw, if_neg (ne_cast c1)]) (Ev.now (0, p, l, n, some 3, b, u, h))
theorem j3_old (C : List Int) (hpos : 0 < ((Bs.pack C).length : Int)) (size : Nat) (b : List Int) (u h p l n v w lead CL CN : Int) :
    Ev (fun k => A0q.j3 k 0 lead (size : Int) v ((2 + size : Nat) : Int) b u h p l n (Bs.pack C) (C.length : Int) w CL CN)
      (if C.length = 2 + size ∧ ¬ rd (Bs.pack C) 0 / 64 = 3 then (v, w, CL, CN, none, b, u, h) else (0, p, l, n, some 3, b, u, h)) := by
  have z1 : ¬ (0 : Int) = 1 := by decide
  by_cases c1 : C.length = 2 + size
  · by_cases c4 : rd (Bs.pack C) 0 / 64 = 3
    · rw [if_neg (fun q => q.2 c4)]
      exact Ev.step (fun k => by rw [A0q.j3, if_neg z1, if_pos (eq_cast c1), if_pos hpos, if_pos c4]) (Ev.now (0, p, l, n, some 3, b, u, h))
    · rw [if_pos ⟨c1, c4⟩]
      exact Ev.step (fun k => by rw [A0q.j3, if_neg z1, if_pos (eq_cast c1), if_pos hpos, if_neg c4]) (Ev.now (v, w, CL, CN, none, b, u, h))
  · rw [if_neg (fun q => c1 q.1)]
    exact Ev.step (fun k => by rw [A0q.j3, if_neg z1, if_neg (ne_cast c1)]) (Ev.now (0, p, l, n, some 3, b, u, h))
theorem ev_iff {α : Type} {f : Nat → Option α} {P Q : Prop} [Decidable P] [Decidable Q] {x y : α} (h : P ↔ Q) (e : Ev f (if Q then x else y)) : Ev f (if P then x else y) := by
 by_cases c : P
 ·rw [if_pos (h.mp c)] at e
  rw [if_pos c]
  exact e
 ·rw [if_neg (fun q => c (h.mpr q))] at e
  rw [if_neg c]
  exact e
section
variable {R : List Int} (hR : Bs.Bits R) (p : Int) (hp : 0 ≤ p ∧ p < 18446744073709551616) (l n : Nat) (hln : l + n ≤ 64) (r0 : rd R 0 = 1)
include hR hp hln r0
theorem test_new (r1 : rd R 1 = 1) (hh : 14 + sd R ≤ R.length) (hs : ld R + sd R ≤ 64) (b : List Int) (u h : Int) (v : Int) :
    Ev (fun k => A0q.j3 k 1 (ld R : Int) (sd R : Int) v ((2 + sd R : Nat) : Int) b u h p (l : Int) (n : Int) (Bs.pack (cb l n (xv R 14 (ld R) (sd R)))) ((cb l n (xv R 14 (ld R) (sd R))).length : Int) v (cl l n (xv R 14 (ld R) (sd R)) : Int) (cn l n (xv R 14 (ld R) (sd R)) : Int))
      (if cb l n (xv R 14 (ld R) (sd R)) = R.take (14 + sd R) then (v, v, (cl l n (xv R 14 (ld R) (sd R)) : Int), (cn l n (xv R 14 (ld R) (sd R)) : Int), none, b, u, h) else (0, p, (l : Int), (n : Int), some 3, b, u, h)) := by
  have h14 : 14 ≤ R.length := by omega
  have hx := xv_range hR 14 (ld R) (sd R) hh hs
  exact ev_iff (new_iff hR l n hln hh hs r0 r1) (j3_new _ (pack_pos _ (cb_short l n _ hln hx.1 hx.2).1) (ld R) (sd R) _ _ (sd_lt hR h14).2.1 b u h p (l : Int) (n : Int) v v)
theorem test_old (r1 : rd R 1 = 0) (h0 : 0 < n) (hh : 2 + n ≤ R.length) (b : List Int) (u h : Int) (v : Int) :
    Ev (fun k => A0q.j3 k 0 (l : Int) (n : Int) v ((2 + n : Nat) : Int) b u h p (l : Int) (n : Int) (Bs.pack (cb l n (xv R 2 l n))) ((cb l n (xv R 2 l n)).length : Int) v (cl l n (xv R 2 l n) : Int) (cn l n (xv R 2 l n) : Int))
      (if cb l n (xv R 2 l n) = R.take (2 + n) then (v, v, (cl l n (xv R 2 l n) : Int), (cn l n (xv R 2 l n) : Int), none, b, u, h) else (0, p, (l : Int), (n : Int), some 3, b, u, h)) := by
  have hx := xv_range hR 2 l n hh hln
  exact ev_iff (old_iff hR l n hln h0 hh r0 r1) (j3_old _ (pack_pos _ (cb_short l n _ hln hx.1 hx.2).1) n b u h p (l : Int) (n : Int) v v _ _ _)
theorem body (h0 : Nat) (hh0 : h0 ≤ R.length) {b : List Int} {u h : Int} (hI : PFill.Inv (R.drop h0) b u h) (lead size : Nat) (hls : lead + size ≤ 64) (x9 : Int)
    (hk : (x9 = 0 ∧ h0 = 2 ∧ lead = l ∧ size = n ∧ rd R 1 = 0) ∨ (x9 = 1 ∧ h0 = 14 ∧ lead = ld R ∧ size = sd R ∧ rd R 1 = 1)) :
    Says (bd p l n R h0 lead size) R (fun k => A0q.j1 k x9 (lead : Int) (size : Int) b u h p (l : Int) (n : Int)) := by
  unfold bd
  by_cases c0 : size = 0
  · rw [if_pos (.inl c0)]
    have c0' : (size : Int) = 0 := by omega
    exact says_err (by decide) (Ev.step (fun k => by rw [A0q.j1, if_pos c0']) (Ev.now (0, p, (l : Int), (n : Int), some 3, b, u, h)))
  have c0' : ¬ (size : Int) = 0 := by omega
  have c01 : ¬ (size = 0 ∨ lead + size > 64) := by omega
  rw [if_neg c01]
  have hd := List.length_drop (l := R) (i := h0)
  by_cases c1 : R.length < h0 + size
  · rw [if_pos c1]
    obtain ⟨b1, u1, h1, e1⟩ := read_no hI size (by omega)
    refine says_err (by decide) (V := 0) (s0 := p) (s1 := (l : Int)) (s2 := (n : Int)) (b' := b1) (u' := u1) (h' := h1) ?_
    refine Ev.step (fun k => by rw [A0q.j1, if_neg c0']) (Ev.bind e1 ?_)
    exact Ev.step (fun k => by rw [A0q.j2, if_neg Bool.false_ne_true]) (Ev.now _)
  rw [if_neg c1]
  obtain ⟨b1, u1, h1, e1, hI1⟩ := read_yes hI size (by omega) (by omega)
  rw [List.drop_drop] at hI1
  have hj3 : Ev (fun k => A0q.j3 k x9 (lead : Int) (size : Int) (Go.bits .xor .u64 p (xv R h0 lead size)) ((2 + size : Nat) : Int) b1 u1 h1 p (l : Int) (n : Int) (Bs.pack (cb l n (xv R h0 lead size))) ((cb l n (xv R h0 lead size)).length : Int) (Go.bits .xor .u64 p (xv R h0 lead size)) (cl l n (xv R h0 lead size) : Int) (cn l n (xv R h0 lead size) : Int))
      (if cb l n (xv R h0 lead size) = R.take (h0 + size) then (Go.bits .xor .u64 p (xv R h0 lead size), Go.bits .xor .u64 p (xv R h0 lead size), (cl l n (xv R h0 lead size) : Int), (cn l n (xv R h0 lead size) : Int), none, b1, u1, h1) else (0, p, (l : Int), (n : Int), some 3, b1, u1, h1)) := by
    rcases hk with ⟨k1, k2, k3, k4, k5⟩ | ⟨k1, k2, k3, k4, k5⟩
    · subst k1 k2 k3 k4
      exact test_old hR p hp lead size hln r0 k5 (by omega) (by omega) b1 u1 h1 _
    · subst k1 k2 k3 k4
      exact test_new hR p hp l n hln r0 k5 (by omega) hls b1 u1 h1 _
  have hx := xv_range hR h0 lead size (by omega) hls
  have hsh := shl_xv R h0 lead size hls hx
  have hws := wsub lead size hls
  have hw2 := wr2 size (by omega)
  have hv := xor_range p (xv R h0 lead size) hp hx
  have hcode := Code_is p (Go.bits .xor .u64 p (xv R h0 lead size)) l n hp hv hln (d := xv R h0 lead size) (xor_back p _ hp hx)
  have hall : Ev (fun k => A0q.j1 k x9 (lead : Int) (size : Int) b u h p (l : Int) (n : Int)) (if cb l n (xv R h0 lead size) = R.take (h0 + size) then (Go.bits .xor .u64 p (xv R h0 lead size), Go.bits .xor .u64 p (xv R h0 lead size), (cl l n (xv R h0 lead size) : Int), (cn l n (xv R h0 lead size) : Int), none, b1, u1, h1) else (0, p, (l : Int), (n : Int), some 3, b1, u1, h1)) := by
    refine Ev.step (fun k => by rw [A0q.j1, if_neg c0']) (Ev.bind e1 ?_)
    refine Ev.step (fun k => by rw [A0q.j2, if_pos rfl, hws, if_pos (Int.natCast_nonneg _), hsh, hw2]) (Ev.bind hcode ?_)
    exact hj3
  by_cases c2 : cb l n (xv R h0 lead size) = R.take (h0 + size)
  · rw [if_pos c2] at hall ⊢
    refine ⟨_, _, _, _, b1, u1, h1, hall, fun _ => ⟨rfl, rfl, rfl, rfl, ?_⟩⟩
    show PFill.Inv (R.drop ((h0 + size : Nat) : Int).toNat) b1 u1 h1
    rw [Int.toNat_natCast]
    exact hI1
  · rw [if_neg c2] at hall ⊢
    exact says_err (by decide) hall
end
theorem and63 (x : Int) (hx : 0 ≤ x ∧ x < 18446744073709551616) : Go.bits .and .u64 x 63 = x % 64 := by
 rw [Ib.and_u64 x 63 hx (by decide)]
 have e : x.toNat &&& (63 : Int).toNat = x.toNat % 64 := Nat.and_two_pow_sub_one_eq_mod x.toNat 6
 rw [e]
 omega
theorem window12 {R : List Int} (hR : Bs.Bits R) (h14 : 14 ≤ R.length) : Bs.number ((R.drop 2).take 12) / 64 = (ld R : Int) ∧ Go.bits .and .u64 (Bs.number ((R.drop 2).take 12)) 63 + 1 = (sd R : Int) := by
 have hl := ld_lt hR h14
 have hs := sd_lt hR h14
 have hcut := PFill.number_cut ((R.drop 2).take 12) 6
 have e1 : ((R.drop 2).take 12).take 6 = (R.drop 2).take 6 := by rw [List.take_take]; rfl
 have e2 : ((R.drop 2).take 12).drop 6 = (R.drop 8).take 6 := by rw [List.drop_take, List.drop_drop]
 have e3 : ((R.drop 2).take 12).length = 12 := by rw [List.length_take, List.length_drop]; omega
 rw [e1, e2, e3] at hcut
 have k6 : (2 : Int) ^ (12 - 6) = 64 := by decide
 rw [k6] at hcut
 have hn := num_range hR 2 12 (by omega)
 have k12 : (2 : Int) ^ 12 = 4096 := by decide
 rw [k12] at hn
 rw [and63 _ ⟨hn.1, by omega⟩]
 have h1 := hl.1
 have h2 := hs.1
 have n6 := num_range hR 8 6 (by omega)
 have k6' : (2 : Int) ^ 6 = 64 := by decide
 rw [k6'] at n6
 omega
theorem wr_size (y : Int) (s : Nat) (h : y + 1 = (s : Int)) (h1 : 1 ≤ s) (h64 : s ≤ 64) : wrap64 (wrap64 y + 1) = (s : Int) := by rw [PBits.w64 y (by omega), h, PBits.w64 _ (by omega)]
theorem Value_is {R b : List Int} {u h : Int} (hI : PFill.Inv R b u h) (p : Int) (hp : 0 ≤ p ∧ p < 18446744073709551616) (l n : Nat) (hln : l + n ≤ 64) :
    Says (xg p l n R) R (fun k => A0q.f k b u h p (l : Int) (n : Int)) := by
  have hR := hI.bits
  unfold xg A0q.f
  by_cases c0 : R.length = 0
  · rw [if_pos c0]
    obtain ⟨b1, u1, h1, e1⟩ := read_no hI 1 (by omega)
    refine says_err (by decide) (V := 0) (s0 := p) (s1 := (l : Int)) (s2 := (n : Int)) (b' := b1) (u' := u1) (h' := h1) ?_
    exact Ev.bind e1 (Ev.congr (fun k => if_neg Bool.false_ne_true) (Ev.now _))
  rw [if_neg c0]
  obtain ⟨b1, u1, h1, e1, hI1⟩ := read_yes hI 1 (by decide) (by omega)
  rw [num1 R (by omega)] at e1
  by_cases c1 : rd R 0 = 0
  · rw [if_pos c1]
    refine ⟨p, p, (l : Int), (n : Int), b1, u1, h1, ?_, fun _ => ⟨rfl, rfl, rfl, rfl, hI1⟩⟩
    exact Ev.bind e1 (Ev.congr (fun k => by rw [if_pos rfl, if_pos c1]) (Ev.now (p, p, (l : Int), (n : Int), none, b1, u1, h1)))
  rw [if_neg c1]
  have r0 : rd R 0 = 1 := (bit01 hR 0 (by omega)).resolve_left c1
  have hd1 := List.length_drop (l := R) (i := 1)
  by_cases c2 : R.length = 1
  · rw [if_pos c2]
    obtain ⟨b2, u2, h2, e2⟩ := read_no hI1 1 (by omega)
    refine says_err (by decide) (V := 0) (s0 := p) (s1 := (l : Int)) (s2 := (n : Int)) (b' := b2) (u' := u2) (h' := h2) ?_
    refine Ev.bind e1 (Ev.congr (fun k => if_pos rfl) (Ev.congr (fun k => if_neg c1) (Ev.bind e2 ?_)))
    exact Ev.step (fun k => by rw [A0q.j0, if_neg Bool.false_ne_true]) (Ev.now _)
  rw [if_neg c2]
  obtain ⟨b2, u2, h2, e2, hI2⟩ := read_yes hI1 1 (by decide) (by omega)
  rw [num1' R 1 (by omega)] at e2
  rw [List.drop_drop] at hI2
  have hI2 : PFill.Inv (R.drop 2) b2 u2 h2 := hI2
  have hd2 := List.length_drop (l := R) (i := 2)
  have e2 : Ev (fun k => A0j.f k b1 u1 h1 1) (rd R 1, true, b2, u2, h2) := e2
  by_cases c3 : rd R 1 = 1
  · rw [if_pos c3]
    rw [c3] at e2
    by_cases c4 : R.length < 14
    · rw [if_pos c4]
      obtain ⟨b3, u3, h3, e3⟩ := read_no hI2 12 (by omega)
      refine says_err (by decide) (V := 0) (s0 := p) (s1 := (l : Int)) (s2 := (n : Int)) (b' := b3) (u' := u3) (h' := h3) ?_
      refine Ev.bind e1 (Ev.congr (fun k => if_pos rfl) (Ev.congr (fun k => if_neg c1) (Ev.bind e2 ?_)))
      have hf : Ev (fun k => A1x.f k b2 u2 h2) (0, 0, some 2, b3, u3, h3) := by
        unfold A1x.f
        exact Ev.bind e3 (Ev.congr (fun k => if_neg Bool.false_ne_true) (Ev.now _))
      refine Ev.step (fun k => by rw [A0q.j0, if_pos rfl, if_pos rfl]) (Ev.bind hf ?_)
      exact Ev.congr (fun k => if_neg Bool.false_ne_true) (Ev.now _)
    rw [if_neg c4]
    obtain ⟨b3, u3, h3, e3, hI3⟩ := read_yes hI2 12 (by decide) (by omega)
    rw [List.drop_drop] at hI3
    have hI3 : PFill.Inv (R.drop 14) b3 u3 h3 := hI3
    have e3 : Ev (fun k => A0j.f k b2 u2 h2 12) (Bs.number ((R.drop 2).take 12), true, b3, u3, h3) := e3
    have h14 : 14 ≤ R.length := Nat.le_of_not_lt c4
    have hl := ld_lt hR h14
    have hs := sd_lt hR h14
    have q1 : wrap64 (ld R : Int) = (ld R : Int) := wsm _ hl.2
    have q3 : wrap64 ((ld R : Int) + (sd R : Int)) = ((ld R + sd R : Nat) : Int) := wadd _ _ (Nat.le_of_lt hl.2) hs.2.1
    obtain ⟨w1, w2⟩ := window12 hR h14
    have q2 : wrap64 (wrap64 (Go.bits .and .u64 (Bs.number ((R.drop 2).take 12)) 63) + 1) = (sd R : Int) := wr_size _ _ w2 hs.2.2 hs.2.1
    by_cases c5 : ld R + sd R > 64
    · have c5' : ((ld R + sd R : Nat) : Int) > 64 := gtc c5
      unfold bd
      rw [if_pos (.inr c5)]
      refine says_err (by decide) (V := 0) (s0 := p) (s1 := (l : Int)) (s2 := (n : Int)) (b' := b3) (u' := u3) (h' := h3) ?_
      refine Ev.bind e1 (Ev.congr (fun k => if_pos rfl) (Ev.congr (fun k => if_neg c1) (Ev.bind e2 ?_)))
      have hf : Ev (fun k => A1x.f k b2 u2 h2) (0, 0, some 3, b3, u3, h3) := by
        unfold A1x.f
        exact Ev.bind e3 (Ev.congr (fun k => by rw [if_pos rfl, w1, q1, q2, q3, if_pos c5']) (Ev.now _))
      refine Ev.step (fun k => by rw [A0q.j0, if_pos rfl, if_pos rfl]) (Ev.bind hf ?_)
      exact Ev.congr (fun k => if_neg Bool.false_ne_true) (Ev.now _)
    · have c5' : ¬ ((ld R + sd R : Nat) : Int) > 64 := gtc' c5
      have hf : Ev (fun k => A1x.f k b2 u2 h2) ((ld R : Int), (sd R : Int), none, b3, u3, h3) := by
        unfold A1x.f
        exact Ev.bind e3 (Ev.congr (fun k => by rw [if_pos rfl, w1, q1, q2, q3, if_neg c5']) (Ev.now _))
      obtain ⟨V, s0, s1, s2, b', u', h', g1, g2⟩ := body hR p hp l n hln r0 14 h14 hI3 (ld R) (sd R) (Nat.le_of_not_lt c5) 1 (.inr ⟨rfl, rfl, rfl, rfl, c3⟩)
      refine ⟨V, s0, s1, s2, b', u', h', ?_, g2⟩
      refine Ev.bind e1 (Ev.congr (fun k => if_pos rfl) (Ev.congr (fun k => if_neg c1) (Ev.bind e2 ?_)))
      refine Ev.step (fun k => by rw [A0q.j0, if_pos rfl, if_pos rfl]) (Ev.bind hf ?_)
      exact Ev.congr (fun k => if_pos (show (none : Option Int).isNone = true from rfl)) g1
  · rw [if_neg c3]
    have r1 : rd R 1 = 0 := (bit01 hR 1 (by omega)).resolve_right c3
    have z1 : ¬ (0 : Int) = 1 := by decide
    rw [r1] at e2
    obtain ⟨V, s0, s1, s2, b', u', h', g1, g2⟩ := body hR p hp l n hln r0 2 (by omega) hI2 l n hln 0 (.inl ⟨rfl, rfl, rfl, rfl, r1⟩)
    refine ⟨V, s0, s1, s2, b', u', h', ?_, g2⟩
    refine Ev.bind e1 (Ev.congr (fun k => if_pos rfl) (Ev.congr (fun k => if_neg c1) (Ev.bind e2 ?_)))
    exact Ev.step (fun k => by rw [A0q.j0, if_pos rfl, if_neg z1]) g1
end Go.Proofs.YtodocfjbpkicgaaDoor.PBatch
end
section
namespace Go.Proofs.YtodocfjbpkicgaaDoor.PDod
open Go Go.RowKit Go.Proofs.YtodocfjbpkicgaaDoor Go.Proofs.YtodocfjbpkicgaaDoor.All Go.Proofs.YtodocfjbpkicgaaDoorW.PrintWords Go.Proofs.YtodocfjbpkicgaaDoorW.PrintLast
set_option linter.unusedVariables false
set_option linter.unusedSimpArgs false
def ones (d : Int) : Nat :=
 if d = 0 then 0 else if -64 ≤ d ∧ d < 64 then 1 else if -256 ≤ d ∧ d < 256 then 2 else if -2048 ≤ d ∧ d < 2048 then 3 else 4
def size : Nat → Nat
 | 0 => 0
 | 1 => 7
 | 2 => 9
 | 3 => 12
 | _ => 64
theorem ones_le (d : Int) : ones d ≤ 4 := by unfold ones; (repeat' split) <;> omega
theorem l1 (d : Int) (k : Nat) : A1i.l0 (k + 1) d 1 = if d ≥ -64 then (if d < 64 then some 1 else A1i.l0 k d 2) else A1i.l0 k d 2 := by
 rw [A1i.l0, if_pos (by decide), show A16.f 1 = some 7 from rfl, Option.bind_some, if_pos (show (0 : Int) ≤ wrap64 (7 - 1) by decide +kernel), show wrap64 (1 + 1) = 2 from by decide +kernel, show wrap64 (-(shl .i64 1 (wrap64 (7 - 1)))) = -64 from by decide +kernel, show shl .i64 1 (wrap64 (7 - 1)) = 64 from by decide +kernel]
theorem l2 (d : Int) (k : Nat) : A1i.l0 (k + 1) d 2 = if d ≥ -256 then (if d < 256 then some 2 else A1i.l0 k d 3) else A1i.l0 k d 3 := by
 rw [A1i.l0, if_pos (by decide), show A16.f 2 = some 9 from rfl, Option.bind_some, if_pos (show (0 : Int) ≤ wrap64 (9 - 1) by decide +kernel), show wrap64 (2 + 1) = 3 from by decide +kernel, show wrap64 (-(shl .i64 1 (wrap64 (9 - 1)))) = -256 from by decide +kernel, show shl .i64 1 (wrap64 (9 - 1)) = 256 from by decide +kernel]
theorem l3 (d : Int) (k : Nat) : A1i.l0 (k + 1) d 3 = if d ≥ -2048 then (if d < 2048 then some 3 else A1i.l0 k d 4) else A1i.l0 k d 4 := by
 rw [A1i.l0, if_pos (by decide), show A16.f 3 = some 12 from rfl, Option.bind_some, if_pos (show (0 : Int) ≤ wrap64 (12 - 1) by decide +kernel), show wrap64 (3 + 1) = 4 from by decide +kernel, show wrap64 (-(shl .i64 1 (wrap64 (12 - 1)))) = -2048 from by decide +kernel, show shl .i64 1 (wrap64 (12 - 1)) = 2048 from by decide +kernel]
theorem l4 (d : Int) (k : Nat) : A1i.l0 (k + 1) d 4 = some 4 := by
 rw [A1i.l0, if_neg (by decide)]
theorem Ones_is (d : Int) : Ev (fun k => A1i.f k d) ((ones d : Nat) : Int) := by
 refine ⟨4, fun k hk => ?_⟩
 obtain ⟨k, rfl⟩ : ∃ j, k = j + 4 := ⟨k - 4, by omega⟩
 show A1i.f (k + 4) d = _
 unfold A1i.f ones
 by_cases h0 : d = 0
 ·rw [if_pos h0, if_pos h0]; rfl
 rw [if_neg h0, if_neg h0, l1, l2, l3, l4]
 repeat' split
 all_goals first | rfl | (exfalso; omega)
def dodL (d : Int) : List Int := List.replicate (ones d) 1 ++ (if ones d < 4 then [0] else []) ++ Bs.low (d % 18446744073709551616) (size (ones d))
theorem dodL_bits (d : Int) : Bs.Bits (dodL d) := by
 refine Bs.Bits.append (Bs.Bits.append (Bs.Bits.ones _) ?_) (Bs.low_bits _ _)
 split
 ·exact Bs.Bits.cons (.inl rfl) Bs.Bits.nil
 ·exact Bs.Bits.nil
theorem size_le (o : Nat) : size o ≤ 64 := by unfold size; split <;> omega
theorem size_is (o : Nat) (h : o ≤ 4) : A16.f (o : Int) = some ((size o : Nat) : Int) := by
 have : ∀ i : Fin 5, A16.f ((i.val : Nat) : Int) = some ((size i.val : Nat) : Int) := by decide +kernel
 exact this ⟨o, by omega⟩
theorem low_ones (o : Nat) (h : o ≤ 4) : Bs.low (IntKind.u64.wrap ((shl .u64 1 (o : Int)) - 1)) o = List.replicate o 1 := by
 have : ∀ i : Fin 5, Bs.low (IntKind.u64.wrap ((shl .u64 1 ((i.val : Nat) : Int)) - 1)) i.val = List.replicate i.val 1 := by decide +kernel
 exact this ⟨o, by omega⟩
theorem Code_is (d : Int) : Ev (fun k => A2k.f k d) (Bs.pack (dodL d), ((dodL d).length : Int)) := by
 have ho := ones_le d
 have hs := size_le (ones d)
 have hsz := size_is (ones d) ho
 have hlo := low_ones (ones d) ho
 have hw : 0 ≤ IntKind.u64.wrap (d) ∧ IntKind.u64.wrap (d) < 18446744073709551616 := by rw [Ib.wrap_u64]; omega
 have hwo : 0 ≤ IntKind.u64.wrap ((shl .u64 1 ((ones d : Nat) : Int)) - 1) ∧ IntKind.u64.wrap ((shl .u64 1 ((ones d : Nat) : Int)) - 1) < 18446744073709551616 := by rw [Ib.wrap_u64]; omega
 have hdl : dodL d = List.replicate (ones d) 1 ++ (if ones d < 4 then [0] else []) ++ Bs.low (IntKind.u64.wrap d) (size (ones d)) := by rw [Ib.wrap_u64]; rfl
 have h1 := PBits.Put_is [] Bs.Bits.nil (by simp) _ hwo ((ones d : Nat) : Int)
 rw [Bs.pack_nil, if_neg (by omega), Int.toNat_natCast, hlo, List.nil_append] at h1
 have hb1 : Bs.Bits (List.replicate (ones d) (1 : Int)) := Bs.Bits.ones _
 have hl1 : ((([] : List Int).length + ones d : Nat) : Int) = ((List.replicate (ones d) (1 : Int)).length : Int) := by simp
 rw [hl1] at h1
 have hlen1 : (List.replicate (ones d) (1 : Int)).length = ones d := List.length_replicate
 generalize List.replicate (ones d) (1 : Int) = R at h1 hb1 hdl hlen1
 rw [hdl]
 unfold A2k.f
 refine Ev.bind (Ones_is d) ?_
 simp only [if_pos (Int.natCast_nonneg (ones d))]
 refine Ev.bind h1 ?_
 by_cases c : ones d < 4
 ·have c' : ((ones d : Nat) : Int) < 4 := by omega
  simp only [if_pos c', if_pos c]
  have h2 := PBits.Put_is R hb1 (by omega) 0 (by decide) 1
  rw [if_neg (by decide), show (1 : Int).toNat = 1 from rfl, show Bs.low 0 1 = [0] from by decide] at h2
  have hb2 : Bs.Bits (R ++ [0]) := hb1.append (Bs.Bits.cons (.inl rfl) Bs.Bits.nil)
  have hl2 : ((R.length + 1 : Nat) : Int) = ((R ++ [0]).length : Int) := by simp
  have hlen2 : (R ++ [0]).length + 64 < 140737488355328 := by rw [List.length_append, List.length_singleton]; omega
  rw [hl2] at h2
  have h3 := PBits.Put_is (R ++ [0]) hb2 hlen2 _ hw ((size (ones d) : Nat) : Int)
  rw [if_neg (by omega), Int.toNat_natCast] at h3
  refine Ev.bind h2 ?_
  simp only [hsz, Option.bind_some]
  refine Ev.bind h3 ?_
  have hz : (R ++ [0]).length + size (ones d) = (R ++ [0] ++ Bs.low (IntKind.u64.wrap d) (size (ones d))).length := by
   generalize R ++ [0] = Q
   rw [List.length_append, Bs.A1k]
  rw [hz]
  exact Ev.now _
 ·have c' : ¬ ((ones d : Nat) : Int) < 4 := by omega
  simp only [if_neg c', if_neg c, List.append_nil]
  have h3 := PBits.Put_is R hb1 (by omega) _ hw ((size (ones d) : Nat) : Int)
  rw [if_neg (by omega), Int.toNat_natCast] at h3
  simp only [hsz, Option.bind_some]
  refine Ev.bind h3 ?_
  rw [show R.length + size (ones d) = (R ++ Bs.low (IntKind.u64.wrap d) (size (ones d))).length from by rw [List.length_append, Bs.A1k]]
  exact Ev.now _
theorem sext7 (v : Int) (h : 0 ≤ v ∧ v < 128) : shr .i64 (wrap64 (shl .u64 v 57)) 57 = if v < 64 then v else v - 128 := by
 unfold shr shl
 rw [show (57 : Int).toNat = 57 from rfl, show IntKind.u64.bits = 64 from rfl, show IntKind.i64.bits = 64 from rfl, show min 57 64 = 57 from rfl, show (2 : Int) ^ 57 = 144115188075855872 from by decide, Ib.wrap_u64]
 unfold wrap64
 split <;> omega
theorem sext9 (v : Int) (h : 0 ≤ v ∧ v < 512) : shr .i64 (wrap64 (shl .u64 v 55)) 55 = if v < 256 then v else v - 512 := by
 unfold shr shl
 rw [show (55 : Int).toNat = 55 from rfl, show IntKind.u64.bits = 64 from rfl, show IntKind.i64.bits = 64 from rfl, show min 55 64 = 55 from rfl, show (2 : Int) ^ 55 = 36028797018963968 from by decide, Ib.wrap_u64]
 unfold wrap64
 split <;> omega
theorem sext12 (v : Int) (h : 0 ≤ v ∧ v < 4096) : shr .i64 (wrap64 (shl .u64 v 52)) 52 = if v < 2048 then v else v - 4096 := by
 unfold shr shl
 rw [show (52 : Int).toNat = 52 from rfl, show IntKind.u64.bits = 64 from rfl, show IntKind.i64.bits = 64 from rfl, show min 52 64 = 52 from rfl, show (2 : Int) ^ 52 = 4503599627370496 from by decide, Ib.wrap_u64]
 unfold wrap64
 split <;> omega
theorem sext64 (v : Int) (h : 0 ≤ v ∧ v < 18446744073709551616) : shr .i64 (wrap64 (shl .u64 v 0)) 0 = if v < 9223372036854775808 then v else v - 18446744073709551616 := by
 unfold shr shl
 rw [show (0 : Int).toNat = 0 from rfl, show IntKind.u64.bits = 64 from rfl, show IntKind.i64.bits = 64 from rfl, show min 0 64 = 0 from rfl, show (2 : Int) ^ 0 = 1 from by decide, Ib.wrap_u64]
 unfold wrap64
 split <;> omega
def lead : Nat → List Int → Nat
 | 0, _ => 0
 | _ + 1, [] => 0
 | f + 1, x :: t => if x = 1 then lead f t + 1 else 0
theorem lead_le : ∀ (f : Nat) (R : List Int), lead f R ≤ f := by
 intro f
 induction f with
 | zero => intro R; exact Nat.le_refl _
 | succ f ih =>
  intro R
  cases R with
  | nil => exact Nat.zero_le _
  | cons x t =>
   have := ih t
   simp only [lead]
   split <;> omega
theorem lead_len : ∀ (f : Nat) (R : List Int), lead f R ≤ R.length := by
 intro f
 induction f with
 | zero => intro R; exact Nat.zero_le _
 | succ f ih =>
  intro R
  cases R with
  | nil => exact Nat.zero_le _
  | cons x t =>
   have := ih t
   simp only [lead, List.length_cons]
   split <;> omega
def sgn (L : List Int) : Int := if Bs.number L < 2 ^ (L.length - 1) then Bs.number L else Bs.number L - 2 ^ L.length
def A29 (R : List Int) : Int × Int × Int :=
 if R.length < min (lead 4 R + 1) 4 + size (lead 4 R) then (0, 0, 2)
 else if ones (sgn ((R.drop (min (lead 4 R + 1) 4)).take (size (lead 4 R)))) = lead 4 R then (sgn ((R.drop (min (lead 4 R + 1) 4)).take (size (lead 4 R))), ((min (lead 4 R + 1) 4 + size (lead 4 R) : Nat) : Int), 0)
 else (0, 0, 3)
theorem lead_one : ∀ (f : Nat) (R : List Int) (j : Nat) (h : j < R.length), j < lead f R → R[j] = 1 := by
 intro f
 induction f with
 | zero => intro R j h hj; exact absurd hj (by simp [lead])
 | succ f ih =>
  intro R j h hj
  cases R with
  | nil => simp at h
  | cons x t =>
   simp only [lead] at hj
   by_cases c : x = 1
   ·rw [if_pos c] at hj
    cases j with
    | zero => exact c
    | succ j => exact ih t j (by simpa using h) (by omega)
   ·rw [if_neg c] at hj; omega
theorem lead_stop : ∀ (f : Nat) (R : List Int) (h : lead f R < R.length), lead f R < f → R[lead f R] ≠ 1 := by
 intro f
 induction f with
 | zero => intro R h hj; omega
 | succ f ih =>
  intro R h hj
  cases R with
  | nil => simp at h
  | cons x t =>
   by_cases c : x = 1
   ·have e : lead (f + 1) (x :: t) = lead f t + 1 := by simp only [lead, if_pos c]
    simp only [e] at h hj ⊢
    simp only [List.getElem_cons_succ]
    exact ih t (by simpa using h) (by omega)
   ·have e : lead (f + 1) (x :: t) = 0 := by simp only [lead, if_neg c]
    simp only [e, List.getElem_cons_zero]
    exact c
theorem tk_bit (L : List Int) (i : Nat) (h : i < L.length) : PBits.tk L (i : Int) 1 = (L[i], true) := by
 rw [PBits.tk_yes (by omega), Int.toNat_natCast, List.drop_eq_getElem_cons h, show (1 : Int).toNat = 1 from rfl, List.take_succ_cons, List.take_zero]
 simp [Bs.number]
theorem tk_end (L : List Int) (i : Nat) (h : L.length ≤ i) : PBits.tk L (i : Int) 1 = (0, false) := PBits.tk_no (by omega)
theorem Get_l0 (b : List Int) (hb : Bs.Bytes b) (hl : 8 * b.length < 140737488355328) (a : Nat) (ha : a ≤ (Bs.flat b).length) (o : Nat) (ho : o = lead 4 ((Bs.flat b).drop a)) (r : Int × Int × Option Int)
    (hr : min (o + 1) 4 ≤ ((Bs.flat b).drop a).length → Ev (fun k => A1t.j2 k b (a : Int) (o : Int) ((min (o + 1) 4 : Nat) : Int)) r)
    (hs : ((Bs.flat b).drop a).length < min (o + 1) 4 → r = (0, 0, some 2)) :
    ∀ (e j : Nat), j + e = o → Ev (fun k => A1t.l0 k b (a : Int) (j : Int) (j : Int)) r := by
  have hL := Bs.A10 b
  have hB := Bs.flat_bits b
  have hdl : ((Bs.flat b).drop a).length = (Bs.flat b).length - a := List.length_drop
  have ho4 := lead_le 4 ((Bs.flat b).drop a)
  have hoL := lead_len 4 ((Bs.flat b).drop a)
  rw [← ho] at ho4 hoL
  have ha0 : ¬ ((a : Int) < 0) := by omega
  intro e
  induction e with
  | zero =>
    intro j hj
    obtain rfl : j = o := by omega
    by_cases c4 : j < 4
    · have c4' : (j : Int) < 4 := by omega
      have hm : min (j + 1) 4 = j + 1 := by omega
      have hj4 : a + j < 140737488355328 := by omega
      have hj5 : j < 140737488355328 := by omega
      rw [hm] at hr hs
      by_cases ce : a + j < (Bs.flat b).length
      · have hj2 : j < ((Bs.flat b).drop a).length := by omega
        have hz : (Bs.flat b)[a + j] = 0 := by
          have h1 := lead_stop 4 ((Bs.flat b).drop a) (by rw [← ho]; exact hj2) (by rw [← ho]; exact c4)
          simp only [← ho, List.getElem_drop] at h1
          rcases hB _ (List.getElem_mem ce) with h2 | h2
          · exact h2
          · exact absurd h2 h1
        have hr1 := hr hj2
        have hwa : wrap64 ((a : Int) + (j : Int)) = ((a + j : Nat) : Int) := PBits.wr_add a j hj4
        have hws := PBits.wr_succ j hj5
        refine Ev.step (fun k => by rw [A1t.l0]) ?_
        simp only [if_pos c4', hwa]
        refine Ev.bind (PBits.Take_is b hb hl _ 1) ?_
        rw [tk_bit _ _ ce, hz]
        simp only [if_neg ha0, Bool.not_true]
        refine Ev.step (fun k => by rw [A1t.j1]) ?_
        simp only [Bool.false_eq_true, if_false, if_true, hws]
        exact hr1
      · have hle : (Bs.flat b).length ≤ a + j := by omega
        have hs1 := hs (by omega)
        have hwa : wrap64 ((a : Int) + (j : Int)) = ((a + j : Nat) : Int) := PBits.wr_add a j hj4
        refine Ev.step (fun k => by rw [A1t.l0]) ?_
        simp only [if_pos c4', hwa]
        refine Ev.bind (PBits.Take_is b hb hl _ 1) ?_
        rw [tk_end _ _ hle]
        simp only [if_neg ha0, Bool.not_false]
        refine Ev.step (fun k => by rw [A1t.j1]) ?_
        simp only [if_true]
        rw [hs1]
        exact Ev.now _
    · have c4' : ¬ (j : Int) < 4 := by omega
      have hm : min (j + 1) 4 = j := by omega
      rw [hm] at hr
      refine Ev.step (fun k => by rw [A1t.l0]) ?_
      simp only [if_neg c4']
      exact hr hoL
  | succ e ih =>
    intro j hj
    have c4' : (j : Int) < 4 := by omega
    have ce : a + j < (Bs.flat b).length := by omega
    have hj2 : j < ((Bs.flat b).drop a).length := by omega
    have hj3 : j < lead 4 ((Bs.flat b).drop a) := by omega
    have hj4 : a + j < 140737488355328 := by omega
    have hj5 : j < 140737488355328 := by omega
    have hj6 : j + 1 + e = o := by omega
    have hz : (Bs.flat b)[a + j] = 1 := by
      have h1 := lead_one 4 ((Bs.flat b).drop a) j hj2 hj3
      rwa [List.getElem_drop] at h1
    have hwa : wrap64 ((a : Int) + (j : Int)) = ((a + j : Nat) : Int) := PBits.wr_add a j hj4
    have hws := PBits.wr_succ j hj5
    have hih := ih (j + 1) hj6
    refine Ev.step (fun k => by rw [A1t.l0]) ?_
    simp only [if_pos c4', hwa]
    refine Ev.bind (PBits.Take_is b hb hl _ 1) ?_
    rw [tk_bit _ _ ce, hz]
    simp only [if_neg ha0, Bool.not_true]
    refine Ev.step (fun k => by rw [A1t.j1]) ?_
    simp only [Bool.false_eq_true, if_false, show ¬ ((1 : Int) = 0) from by decide, hws]
    exact hih
theorem sext_is (L : List Int) (hL : Bs.Bits L) (o : Nat) (ho : o ≤ 4) (h0 : 0 < o) (hl : L.length = size o) : shr .i64 (wrap64 (shl .u64 (Bs.number L) (wrap64 (64 - ((size o : Nat) : Int))))) (wrap64 (64 - ((size o : Nat) : Int))) = sgn L := by
 have hr := Bs.A2j hL
 unfold sgn
 rw [hl] at hr ⊢
 generalize Bs.number L = v at hr
 obtain rfl | rfl | rfl | rfl : o = 1 ∨ o = 2 ∨ o = 3 ∨ o = 4 := by omega
 ·rw [show wrap64 (64 - ((size 1 : Nat) : Int)) = 57 from by decide +kernel]
  exact sext7 v hr
 ·rw [show wrap64 (64 - ((size 2 : Nat) : Int)) = 55 from by decide +kernel]
  exact sext9 v hr
 ·rw [show wrap64 (64 - ((size 3 : Nat) : Int)) = 52 from by decide +kernel]
  exact sext12 v hr
 ·rw [show wrap64 (64 - ((size 4 : Nat) : Int)) = 0 from by decide +kernel]
  exact sext64 v hr
theorem size_pos {o : Nat} (ho : o ≤ 4) (h0 : 0 < o) : 0 < size o := by
 obtain rfl | rfl | rfl | rfl : o = 1 ∨ o = 2 ∨ o = 3 ∨ o = 4 := by omega
 all_goals decide
def gimp (g : Int × Int × Int) : Int × Int × Option Int := (g.1, g.2.1, if g.2.2 = 0 then none else some g.2.2)
theorem Get_j2 (b : List Int) (hb : Bs.Bytes b) (hl : 8 * b.length < 140737488355328) (a : Nat) (ha : a ≤ (Bs.flat b).length) (o : Nat) (ho : o = lead 4 ((Bs.flat b).drop a)) (hfit : min (o + 1) 4 ≤ ((Bs.flat b).drop a).length) :
    Ev (fun k => A1t.j2 k b (a : Int) (o : Int) ((min (o + 1) 4 : Nat) : Int)) (gimp (A29 ((Bs.flat b).drop a))) := by
  have hL := Bs.A10 b
  have hB := Bs.flat_bits b
  have hdl : ((Bs.flat b).drop a).length = (Bs.flat b).length - a := List.length_drop
  have ho4 := lead_le 4 ((Bs.flat b).drop a)
  rw [← ho] at ho4
  have hs64 := size_le o
  have hszi := size_is o ho4
  have hsp := fun h => size_pos ho4 h
  have hsx := fun M hM h0 hMl => sext_is M hM o ho4 h0 hMl
  obtain ⟨h, hh⟩ : ∃ h, h = min (o + 1) 4 := ⟨_, rfl⟩
  have hh4 : h ≤ 4 := by omega
  have hg : A29 ((Bs.flat b).drop a) = if ((Bs.flat b).drop a).length < h + size o then (0, 0, 2)
    else if ones (sgn ((((Bs.flat b).drop a).drop h).take (size o))) = o then (sgn ((((Bs.flat b).drop a).drop h).take (size o)), ((h + size o : Nat) : Int), 0) else (0, 0, 3) := by
    unfold A29
    rw [← ho, ← hh]
  rw [hg]
  rw [← hh] at hfit ⊢
  have hdd : ((Bs.flat b).drop a).drop h = (Bs.flat b).drop (a + h) := List.drop_drop
  have hMlen : ¬ ((Bs.flat b).drop a).length < h + size o → (((Bs.flat b).drop (a + h)).take (size o)).length = size o := by
    intro c
    rw [List.length_take, List.length_drop]
    omega
  have hno : ((Bs.flat b).drop a).length < h + size o → (((size o : Nat) : Int) < 0 ∨ ((size o : Nat) : Int) > 64 ∨ ((a + h : Nat) : Int) < 0 ∨ ((a + h : Nat) : Int) > ((Bs.flat b).length : Int) ∨ ((size o : Nat) : Int) > ((Bs.flat b).length : Int) - ((a + h : Nat) : Int)) := by
    intro c
    omega
  have hyes : ¬ ((Bs.flat b).drop a).length < h + size o → ¬ (((size o : Nat) : Int) < 0 ∨ ((size o : Nat) : Int) > 64 ∨ ((a + h : Nat) : Int) < 0 ∨ ((a + h : Nat) : Int) > ((Bs.flat b).length : Int) ∨ ((size o : Nat) : Int) > ((Bs.flat b).length : Int) - ((a + h : Nat) : Int)) := by
    intro c
    omega
  have hb1 : a + h < 140737488355328 := by omega
  have hb2 : h + size o < 140737488355328 := by omega
  have hM : Bs.Bits (((Bs.flat b).drop (a + h)).take (size o)) := (hB.drop _).take _
  have hwa : wrap64 ((a : Int) + (h : Int)) = ((a + h : Nat) : Int) := PBits.wr_add a h hb1
  have hwn : wrap64 ((h : Int) + ((size o : Nat) : Int)) = ((h + size o : Nat) : Int) := PBits.wr_add h (size o) hb2
  have hTk := PBits.Take_is b hb hl ((a + h : Nat) : Int) ((size o : Nat) : Int)
  clear hL hB hdl hg hh hfit hs64 hb1 hb2 ho
  refine Ev.step (fun k => by rw [A1t.j2]) ?_
  simp only [hszi, Option.bind_some, hwa]
  refine Ev.bind hTk ?_
  by_cases c : ((Bs.flat b).drop a).length < h + size o
  · rw [PBits.tk_no (hno c), if_pos c]
    simp only [Bool.false_eq_true, if_false]
    exact Ev.now _
  · have hMl := hMlen c
    rw [PBits.tk_yes (hyes c), if_neg c, hdd, Int.toNat_natCast, Int.toNat_natCast]
    simp only [if_true]
    clear hyes hno hMlen hTk hdd
    generalize ((Bs.flat b).drop (a + h)).take (size o) = M at hM hMl
    by_cases c0 : 0 < o
    · have hsi : ((size o : Nat) : Int) > 0 := Int.natCast_pos.2 (hsp c0)
      have hw0 : 0 ≤ wrap64 (64 - ((size o : Nat) : Int)) := by
        clear hwa hwn
        have := size_le o
        rw [PBits.w64 _ (by omega)]
        omega
      have hsx := hsx M hM c0 hMl
      simp only [if_pos hsi, if_pos hw0, hsx]
      refine Ev.bind (Ones_is _) ?_
      by_cases e : ones (sgn M) = o
      · have e' : ((ones (sgn M) : Nat) : Int) = (o : Int) := congrArg _ e
        simp only [if_pos e', if_pos e, hwn]
        exact Ev.now _
      · have e' : ¬ ((ones (sgn M) : Nat) : Int) = (o : Int) := fun h => e (Int.ofNat_inj.1 h)
        simp only [if_neg e', if_neg e]
        exact Ev.now _
    · obtain rfl : o = 0 := Nat.eq_zero_of_not_pos c0
      have hM0 : M = [] := List.eq_nil_of_length_eq_zero hMl
      subst hM0
      have hsi : ¬ (((size 0 : Nat) : Int) > 0) := by decide
      have hz : wrap64 (Bs.number []) = 0 := by decide +kernel
      have hz2 : sgn [] = 0 := by decide +kernel
      simp only [if_neg hsi, hz, hz2]
      refine Ev.bind (Ones_is _) ?_
      have e : ones 0 = 0 := by decide
      have e' : ((ones 0 : Nat) : Int) = ((0 : Nat) : Int) := by rw [e]
      simp only [if_pos e', if_pos e, hwn]
      exact Ev.now _
theorem gspec_nil : A29 [] = (0, 0, 2) := by decide +kernel
theorem Get_is (b : List Int) (hb : Bs.Bytes b) (hl : 8 * b.length < 140737488355328) (a : Int) (ha : -9223372036854775808 ≤ a ∧ a < 9223372036854775808) : Ev (fun k => A1t.f k b a) (gimp (A29 (restL (Bs.flat b) a))) := by
 have hL := Bs.A10 b
 unfold A1t.f
 by_cases c : a < 0 ∨ a > ((Bs.flat b).length : Int)
 ·have hr : restL (Bs.flat b) a = [] := if_pos c
  have h04 : (0 : Int) < 4 := by decide
  rw [hr, gspec_nil]
  have hw : wrap64 (a + 0) < 0 ∨ wrap64 (a + 0) > ((Bs.flat b).length : Int) := by rw [PBits.w64 _ (by omega)]; omega
  refine Ev.step (fun k => by rw [A1t.l0]) ?_
  simp only [if_pos h04]
  refine Ev.bind (PBits.Take_is b hb hl _ 1) ?_
  rw [PBits.tk_no (by omega)]
  by_cases c0 : a < 0
  ·simp only [if_pos c0]
   refine Ev.step (fun k => by rw [A1t.j1]) ?_
   simp only [if_true]
   exact Ev.now _
  ·simp only [if_neg c0, Bool.not_false]
   refine Ev.step (fun k => by rw [A1t.j1]) ?_
   simp only [if_true]
   exact Ev.now _
 ·have hr : restL (Bs.flat b) a = (Bs.flat b).drop a.toNat := if_neg c
  rw [hr]
  obtain ⟨n, rfl⟩ : ∃ n : Nat, a = (n : Int) := ⟨a.toNat, by omega⟩
  rw [Int.toNat_natCast]
  have hn : n ≤ (Bs.flat b).length := by omega
  refine Get_l0 b hb hl n hn (lead 4 ((Bs.flat b).drop n)) rfl _ (fun hf => Get_j2 b hb hl n hn _ rfl hf) (fun hs => ?_) (lead 4 ((Bs.flat b).drop n)) 0 (by omega)
  unfold A29
  rw [if_pos (by omega)]
  rfl
theorem dodL_length (d : Int) : (dodL d).length = min (ones d + 1) 4 + size (ones d) := by
 have ho := ones_le d
 unfold dodL
 rw [List.length_append, List.length_append, List.length_replicate, Bs.A1k]
 split
 ·rw [List.length_singleton]; omega
 ·rw [List.length_nil]; omega
theorem size_inj (o p : Nat) (ho : o ≤ 4) (hp : p ≤ 4) (h : min (o + 1) 4 + size o = min (p + 1) 4 + size p) : o = p := by
 have : ∀ i j : Fin 5, min (i.val + 1) 4 + size i.val = min (j.val + 1) 4 + size j.val → i.val = j.val := by decide
 exact this ⟨o, by omega⟩ ⟨p, by omega⟩ h
theorem gspec_code (R : List Int) : (A29 R).2.2 = 0 ∨ (A29 R).2.2 = 2 ∨ (A29 R).2.2 = 3 := by
 unfold A29
 split
 ·exact .inr (.inl rfl)
 split
 ·exact .inl rfl
 ·exact .inr (.inr rfl)
end Go.Proofs.YtodocfjbpkicgaaDoor.PDod
end
section
namespace Go.Proofs.YtodocfjbpkicgaaDoor.PTab
open Go Go.RowKit Go.Proofs.YtodocfjbpkicgaaDoor Go.Proofs.YtodocfjbpkicgaaDoor.All Go.Proofs.YtodocfjbpkicgaaDoorW.PrintWords Go.Proofs.YtodocfjbpkicgaaDoorW.PrintLast
open Go.Proofs.YtodocfjbpkicgaaDoor.PDod (lead size A29 gimp sgn ones)
set_option linter.unusedVariables false
set_option linter.unusedSimpArgs false
theorem lead_cut : ∀ (f m : Nat) (L : List Int), f ≤ m → lead f (L.take m) = lead f L := by
 intro f
 induction f with
 | zero => intro m L h; rfl
 | succ f ih =>
  intro m L h
  obtain ⟨m, rfl⟩ : ∃ n, m = n + 1 := ⟨m - 1, by omega⟩
  cases L with
  | nil => rfl
  | cons x t =>
   rw [List.take_succ_cons]
   simp only [lead]
   rw [ih m t (by omega)]
theorem lead_zeros : ∀ (f : Nat) (L : List Int) (n : Nat), lead f (L ++ List.replicate n 0) = lead f L := by
 intro f
 induction f with
 | zero => intro L n; rfl
 | succ f ih =>
  intro L n
  cases L with
  | nil =>
   cases n with
   | zero => rfl
   | succ n =>
    rw [List.replicate_succ, List.nil_append]
    simp only [lead, show ¬ ((0 : Int) = 1) from by decide, if_false]
  | cons x t =>
   rw [List.cons_append]
   simp only [lead, ih t n]
theorem row_is (B : List Int) (hB : Bs.Bits B) (h8 : B.length = 8) : tab_row.f (Bs.number B) = some (((min (lead 4 B + 1) 4 : Nat) : Int), ((size (lead 4 B) : Nat) : Int)) := by
 have hr := Bs.A2j hB
 have hl := Bs.low_number hB
 rw [h8] at hr hl
 have hr2 : Bs.number B < 256 := hr.2
 have all : ∀ i : Fin 256, tab_row.f ((i.val : Nat) : Int) = some (((min (lead 4 (Bs.low ((i.val : Nat) : Int) 8) + 1) 4 : Nat) : Int), ((size (lead 4 (Bs.low ((i.val : Nat) : Int) 8)) : Nat) : Int)) := by decide +kernel
 have h := all ⟨(Bs.number B).toNat, by omega⟩
 simp only [Int.toNat_of_nonneg hr.1] at h
 rw [hl] at h
 exact h
theorem pk8_is (R : List Int) (hR : Bs.Bits R) : tab_row.f (PFill.pk R 8) = some (((min (lead 4 R + 1) 4 : Nat) : Int), ((size (lead 4 R) : Nat) : Int)) := by
 have e : PFill.pk R 8 = Bs.number ((R ++ List.replicate 8 0).take 8) := rfl
 rw [e, row_is _ ((hR.append (Bs.Bits.zeros 8)).take 8) (by rw [List.length_take, List.length_append, List.length_replicate]; omega), lead_cut 4 8 _ (by decide), lead_zeros]
theorem Get_is {R b : List Int} {u h : Int} (hI : PFill.Inv R b u h) :
    ∃ b' u' h', Ev (fun k => A1q.f k b u h) ((gimp (A29 R)).1, (gimp (A29 R)).2.2, b', u', h') ∧ ((A29 R).2.2 = 0 → PFill.Inv (R.drop (A29 R).2.1.toNat) b' u' h') := by
  have hR := hI.bits
  have hlen := hI.len
  obtain ⟨b1, u1, h1, hE1, hI1, _⟩ := PFill.Peek_is hI 8
  have hrow := pk8_is R hR
  have ho4 := PDod.lead_le 4 R
  obtain ⟨o, ho⟩ : ∃ o, o = lead 4 R := ⟨_, rfl⟩
  obtain ⟨hd, hh⟩ : ∃ hd, hd = min (o + 1) 4 := ⟨_, rfl⟩
  rw [← ho] at ho4 hrow
  have hsz := PDod.size_le o
  have hh4 : hd ≤ 4 := by omega
  have hg : A29 R = if R.length < hd + size o then (0, 0, 2)
    else if ones (sgn ((R.drop hd).take (size o))) = o then (sgn ((R.drop hd).take (size o)), ((hd + size o : Nat) : Int), 0) else (0, 0, 3) := by
    unfold A29
    rw [← ho, ← hh]
  rw [← hh] at hrow
  obtain ⟨b2, u2, h2, hE2, hI2⟩ := PFill.Skip_is hI1 (hd : Int) (by omega)
  by_cases c1 : hd ≤ R.length
  · have c1' : 0 ≤ (hd : Int) ∧ (hd : Int) ≤ (R.length : Int) := by omega
    rw [decide_eq_true c1'] at hE2
    rw [if_pos c1', Int.toNat_natCast] at hI2
    obtain ⟨b3, u3, h3, hE3, hI3⟩ := PFill.Read_is hI2 ((size o : Nat) : Int)
    have hdl : (R.drop hd).length = R.length - hd := List.length_drop
    by_cases c2 : R.length < hd + size o
    · have hno : ((size o : Nat) : Int) < 0 ∨ ((size o : Nat) : Int) > 64 ∨ ((size o : Nat) : Int) > ((R.drop hd).length : Int) := by omega
      rw [show PFill.rdv (R.drop hd) ((size o : Nat) : Int) = (0, false) from if_pos hno] at hE3
      rw [hg, if_pos c2]
      refine ⟨b3, u3, h3, ?_, fun h => absurd h (by decide)⟩
      unfold A1q.f
      refine Ev.bind hE1 ?_
      simp only [hrow, Option.bind_some]
      refine Ev.bind hE2 ?_
      simp only [if_true]
      refine Ev.bind hE3 ?_
      simp only [Bool.false_eq_true, if_false]
      exact Ev.now _
    · have hyes : ¬ (((size o : Nat) : Int) < 0 ∨ ((size o : Nat) : Int) > 64 ∨ ((size o : Nat) : Int) > ((R.drop hd).length : Int)) := by omega
      rw [show PFill.rdv (R.drop hd) ((size o : Nat) : Int) = (Bs.number ((R.drop hd).take (size o)), true) from by
        unfold PFill.rdv
        rw [if_neg hyes, Int.toNat_natCast]] at hE3
      rw [show PFill.rdR (R.drop hd) ((size o : Nat) : Int) = R.drop (hd + size o) from by
        unfold PFill.rdR
        rw [if_neg hyes, Int.toNat_natCast, List.drop_drop]] at hI3
      have hM : Bs.Bits ((R.drop hd).take (size o)) := (hR.drop _).take _
      have hMl : ((R.drop hd).take (size o)).length = size o := by rw [List.length_take, hdl]; omega
      rw [hg, if_neg c2]
      have hsp := fun h0 => PDod.size_pos ho4 h0
      have hsx := fun h0 => PDod.sext_is _ hM o ho4 h0 hMl
      have hb2 : hd + size o < 140737488355328 := by omega
      have hsi := fun v e => PDod.size_inj (ones v) o (PDod.ones_le v) ho4 e
      have hlenD := fun v => PDod.dodL_length v
      rw [← hh] at hsi
      have hg0 : 0 ≤ wrap64 (64 - ((size o : Nat) : Int)) := by
        rw [PBits.w64 _ (by omega)]
        omega
      have hwn : wrap64 ((hd : Int) + ((size o : Nat) : Int)) = ((hd + size o : Nat) : Int) := by
        rw [PBits.w64 _ (by omega)]
        omega
      generalize (R.drop hd).take (size o) = M at *
      clear hb2 hh4 hlen hdl c1 c1' hyes c2
      by_cases c0 : 0 < o
      · have hne : ¬ (((size o : Nat) : Int) = 0) := fun e => Nat.ne_of_gt (hsp c0) (Int.ofNat_inj.1 e)
        by_cases e : ones (sgn M) = o
        · have e' : ((PDod.dodL (sgn M)).length : Int) = ((hd + size o : Nat) : Int) := by rw [hlenD, e, ← hh]
          rw [if_pos e]
          refine ⟨b3, u3, h3, ?_, fun _ => ?_⟩
          · unfold A1q.f
            refine Ev.bind hE1 ?_
            simp only [hrow, Option.bind_some]
            refine Ev.bind hE2 ?_
            simp only [if_true]
            refine Ev.bind hE3 ?_
            simp only [if_true, if_neg hne, if_pos hg0, hsx c0, hwn]
            refine Ev.bind (PDod.Code_is _) ?_
            simp only [if_pos e']
            exact Ev.now _
          · rw [Int.toNat_natCast]
            exact hI3
        · have e' : ¬ ((PDod.dodL (sgn M)).length : Int) = ((hd + size o : Nat) : Int) := fun h => e (hsi _ ((hlenD _).symm.trans (Int.ofNat_inj.1 h)))
          rw [if_neg e]
          refine ⟨b3, u3, h3, ?_, fun h => absurd h (by decide)⟩
          unfold A1q.f
          refine Ev.bind hE1 ?_
          simp only [hrow, Option.bind_some]
          refine Ev.bind hE2 ?_
          simp only [if_true]
          refine Ev.bind hE3 ?_
          simp only [if_true, if_neg hne, if_pos hg0, hsx c0, hwn]
          refine Ev.bind (PDod.Code_is _) ?_
          simp only [if_neg e']
          exact Ev.now _
      · obtain rfl : o = 0 := Nat.eq_zero_of_not_pos c0
        have hM0 : M = [] := List.eq_nil_of_length_eq_zero hMl
        subst hM0
        have e : ones (sgn []) = 0 := by decide
        rw [if_pos e]
        refine ⟨b3, u3, h3, ?_, fun _ => ?_⟩
        · have hz : ((size 0 : Nat) : Int) = 0 := rfl
          have hz2 : sgn [] = 0 := by decide +kernel
          unfold A1q.f
          refine Ev.bind hE1 ?_
          simp only [hrow, Option.bind_some]
          refine Ev.bind hE2 ?_
          simp only [if_true]
          refine Ev.bind hE3 ?_
          simp only [if_true, if_pos hz]
          rw [hz2]
          exact Ev.now _
        · rw [Int.toNat_natCast]
          exact hI3
  · have c1' : ¬ (0 ≤ (hd : Int) ∧ (hd : Int) ≤ (R.length : Int)) := by omega
    rw [decide_eq_false c1'] at hE2
    rw [hg, if_pos (by omega)]
    refine ⟨b2, u2, h2, ?_, fun h => absurd h (by decide)⟩
    unfold A1q.f
    refine Ev.bind hE1 ?_
    simp only [hrow, Option.bind_some]
    refine Ev.bind hE2 ?_
    simp only [Bool.false_eq_true, if_false]
    exact Ev.now _
end Go.Proofs.YtodocfjbpkicgaaDoor.PTab
end
section
namespace Go.Proofs.YtodocfjbpkicgaaDoor.PKinds
open Go Go.RowKit Go.Proofs.YtodocfjbpkicgaaDoor Go.Proofs.YtodocfjbpkicgaaDoor.All Go.Proofs.YtodocfjbpkicgaaDoorW.PrintWords Go.Proofs.YtodocfjbpkicgaaDoorW.PrintLast
set_option linter.unusedVariables false
set_option linter.unusedSimpArgs false
abbrev S8 := Int × Int × Int × Int × Int × Int × Int × Int
def aft (kind n t d v e xp xl xn T V ap al an : Int) : S8 :=
 (wrap64 (n + 1), T, if n > 0 then wrap64 (T - t) else 0, V, if kind = 1 then 0 else if n > 0 then IntKind.u64.wrap (V - v) else 0,
  if kind = 1 then (if n = 0 then V else ap) else 0, if kind = 1 then (if n = 0 then 0 else al) else 0, if kind = 1 then (if n = 0 then 0 else an) else 0)
theorem After_is (kind n t d v e xp xl xn T V ap al an : Int) (hn : 0 ≤ n) : Ev (fun k => A0y.f k kind n t d v e xp xl xn T V ap al an) (aft kind n t d v e xp xl xn T V ap al an) := by
 unfold A0y.f aft
 by_cases c : n > 0
 ·have c0 : ¬ n = 0 := by omega
  have cb : (n == 0) = false := beq_eq_false_iff_ne.mpr c0
  simp only [if_pos c, if_neg c0]
  by_cases c1 : kind = 1
  ·simp only [if_pos c1]
   exact Ev.step (fun k => by rw [A0y.j0, if_pos c1, cb]) (Ev.step (fun k => by rw [A0y.j1, if_neg Bool.false_ne_true, if_pos c1]) (Ev.now _))
  ·simp only [if_neg c1]
   exact Ev.step (fun k => by rw [A0y.j0, if_neg c1]) (Ev.step (fun k => by rw [A0y.j1, if_neg Bool.false_ne_true, if_neg c1, if_pos c]) (Ev.now _))
 ·have c0 : n = 0 := by omega
  have cb : (n == 0) = true := beq_iff_eq.mpr c0
  simp only [if_neg c, if_pos c0]
  by_cases c1 : kind = 1
  ·simp only [if_pos c1]
   exact Ev.step (fun k => by rw [A0y.j0, if_pos c1, cb]) (Ev.step (fun k => by rw [A0y.j1, if_pos rfl]) (Ev.now _))
  ·simp only [if_neg c1]
   exact Ev.step (fun k => by rw [A0y.j0, if_neg c1]) (Ev.step (fun k => by rw [A0y.j1, if_neg Bool.false_ne_true, if_neg c1, if_neg c]) (Ev.now _))
end Go.Proofs.YtodocfjbpkicgaaDoor.PKinds
end
section
namespace Go.Proofs.YtodocfjbpkicgaaDoor.PBits
open Go Go.RowKit Go.Proofs.YtodocfjbpkicgaaDoor Go.Proofs.YtodocfjbpkicgaaDoor.All Go.Proofs.YtodocfjbpkicgaaDoorW.PrintWords Go.Proofs.YtodocfjbpkicgaaDoorW.PrintLast
set_option linter.unusedVariables false
set_option linter.unusedSimpArgs false
theorem join_byte {l : List Int} (hb : Bs.Bits l) (h : l.length % 8 ≠ 0) (c : Int) (hc : 0 ≤ c ∧ c < 256) :
    (Bs.pack l).set (l.length / 8) (Go.bits .or .u8 (rd (Bs.pack l) ((l.length / 8 : Nat) : Int)) (shr .u8 c ((l.length % 8 : Nat) : Int))) ++ [shl .u8 c ((8 - l.length % 8 : Nat) : Int)] = Bs.pack (l ++ Bs.low c 8) := by
  have hp := Bs.A2n l
  have hlt : l.length / 8 < (Bs.pack l).length := by omega
  have hby := Bs.pack_bytes hb _ (List.getElem_mem hlt)
  obtain ⟨t, ht⟩ := Bs.pack_last h
  have hg : (Bs.pack l).getD (l.length / 8) 0 = (Bs.pack l)[l.length / 8] := by simp [List.getD_eq_getElem?_getD, hlt]
  have hrd : rd (Bs.pack l) ((l.length / 8 : Nat) : Int) = t * 2 ^ (8 - l.length % 8) := by rw [rd_at _ _ hlt, ← hg, ht]
  rw [← hg, ht] at hby
  rw [Bs.pack_byte h c hc, hrd, ht]
  have hr : l.length % 8 < 8 := Nat.mod_lt _ (by decide)
  generalize l.length % 8 = r at h hby hr ⊢
  rw [shr_u8 _ _ (by omega), shl_u8 _ _ (by omega), or_u8_sum t _ _ (by omega) hby]
  have h3 := Bs.pow_pos r
  refine ⟨Int.ediv_nonneg hc.1 (Int.le_of_lt h3), Int.ediv_lt_of_lt_mul h3 ?_⟩
  rw [← Int.pow_add, show 8 - r + r = 8 from by omega]
  exact hc.2
theorem Join_l0 (l m : List Int) (hl : Bs.Bits l) (hm : Bs.Bits m) (h8 : l.length % 8 ≠ 0) (hlen : l.length + m.length + 16 < 140737488355328) : ∀ (d i : Nat), i + d = (Bs.pack m).length →
    Ev (fun k => A3f.l0 k ((l.length % 8 : Nat) : Int) (Bs.pack m) ((Bs.pack m).length : Int) (i : Int) (Bs.pack (l ++ Bs.flat ((Bs.pack m).take i))) (l.length : Int) (Bs.pack m) (m.length : Int)) (Bs.pack (l ++ m), ((l.length + m.length : Nat) : Int)) := by
  have hpm := Bs.A2n m
  have hBm := Bs.pack_bytes hm
  intro d
  induction d with
  | zero =>
    intro i hi
    refine Ev.step (fun k => ?_) (Ev.now _)
    simp only [A3f.l0]
    have hz := Bs.pack_zeros (hl.append hm) (8 * ((m.length + 7) / 8) - m.length)
    rw [List.append_assoc, ← Bs.flat_pack hm] at hz
    have hpl := Bs.A2n (l ++ Bs.flat (Bs.pack m))
    rw [List.length_append, Bs.A10] at hpl
    rw [List.length_append] at hz
    have hno : ¬ ((i : Int) < ((Bs.pack m).length : Int)) := by omega
    have hle : (((l.length + m.length + 7) / 8 : Nat) : Int) ≤ ((Bs.pack (l ++ Bs.flat (Bs.pack m))).length : Int) := by omega
    have htot : l.length + m.length < 140737488355328 := by omega
    have hfull : (Bs.pack m).length ≤ i := by omega
    have hw1 := wr_add l.length m.length htot
    have hw2 := wr_bytes (l.length + m.length) htot
    rw [if_neg hno, List.take_of_length_le hfull, hw1, hw2, if_pos (Int.natCast_nonneg _), if_pos hle, Int.toNat_natCast, hz]
  | succ d ih =>
    intro i hi
    have hlt : i < (Bs.pack m).length := by omega
    have hti : ((Bs.pack m).take i).length = i := by rw [List.length_take]; omega
    have hcl : (l ++ Bs.flat ((Bs.pack m).take i)).length = l.length + 8 * i := by rw [List.length_append, Bs.A10, hti]
    have hpl := Bs.A2n (l ++ Bs.flat ((Bs.pack m).take i))
    have hcb : Bs.Bits (l ++ Bs.flat ((Bs.pack m).take i)) := hl.append (Bs.flat_bits _)
    have hin : (i : Int) < ((Bs.pack m).length : Int) := by omega
    have hr8 : l.length % 8 = (l ++ Bs.flat ((Bs.pack m).take i)).length % 8 := by omega
    have hpi : (((l ++ Bs.flat ((Bs.pack m).take i)).length / 8 : Nat) : Int) < ((Bs.pack (l ++ Bs.flat ((Bs.pack m).take i))).length : Int) := by omega
    have hps : (Bs.pack (l ++ Bs.flat ((Bs.pack m).take i))).length < 140737488355328 := by omega
    have hp0 : 0 < (Bs.pack (l ++ Bs.flat ((Bs.pack m).take i))).length := by omega
    have hpe : (Bs.pack (l ++ Bs.flat ((Bs.pack m).take i))).length - 1 = (l ++ Bs.flat ((Bs.pack m).take i)).length / 8 := by omega
    have hi47 : i < 140737488355328 := by omega
    have hcr : (l ++ Bs.flat ((Bs.pack m).take i)).length % 8 ≠ 0 := by omega
    have hid : i + 1 + d = (Bs.pack m).length := by omega
    have hw1 := wr_succ i hi47
    have hw2 := wr_eight (l.length % 8) (Nat.le_of_lt (Nat.mod_lt _ (by decide)))
    have hw3 := wr_pred' _ hp0 hps
    rw [hpe] at hw3
    have hc := hBm _ (List.getElem_mem hlt)
    have := ih (i + 1) hid
    rw [List.take_add_one, List.getElem?_eq_getElem hlt, Option.toList_some, Bs.flat_append, show Bs.flat [(Bs.pack m)[i]] = Bs.low (Bs.pack m)[i] 8 from by simp [Bs.flat], ← List.append_assoc] at this
    rw [← join_byte hcb hcr _ hc] at this
    refine Ev.step (fun k => ?_) this
    simp only [A3f.l0]
    rw [if_pos hin, if_pos (Int.natCast_nonneg _), if_pos hin, hw3, if_pos (Int.natCast_nonneg _), if_pos hpi, if_pos (Int.natCast_nonneg _)]
    simp only [Option.bind_some]
    rw [hw2, if_pos (Int.natCast_nonneg _), List.length_set, if_pos hps, rd_at _ _ hlt, hw1, Int.toNat_natCast, hr8]
theorem Join_is (l m : List Int) (hl : Bs.Bits l) (hm : Bs.Bits m) (hlen : l.length + m.length + 16 < 140737488355328) :
    Ev (fun k => A3f.f k (Bs.pack l) (l.length : Int) (Bs.pack m) (m.length : Int)) (Bs.pack (l ++ m), ((l.length + m.length : Nat) : Int)) := by
  have hpl := Bs.A2n l
  have hpm := Bs.A2n m
  have hsm : (Bs.pack l).length + (Bs.pack m).length < 140737488355328 := by omega
  have hsl : (Bs.pack l).length < 140737488355328 := by omega
  have htot : l.length + m.length < 140737488355328 := by omega
  have hz1 : l.length % 8 = 0 → ((l.length % 8 : Nat) : Int) = 0 := by omega
  have hz2 : l.length % 8 ≠ 0 → ¬ ((l.length % 8 : Nat) : Int) = 0 := by omega
  have ht1 := tmod8 l.length
  have hw1 := wr_add l.length m.length htot
  unfold A3f.f A1s.f A2d.f
  rw [ht1]
  by_cases h8 : l.length % 8 = 0
  · refine Ev.congr (fun k => ?_) (Ev.now _)
    have hs : sumTo [Bs.pack l, Bs.pack m] [Bs.pack l, Bs.pack m].length = (Bs.pack l).length + (Bs.pack m).length := by simp [sumTo]
    rw [if_pos (hz1 h8), hs, if_pos hsm]
    simp only [Option.bind_some, List.flatten_cons, List.flatten_nil, List.append_nil]
    rw [hw1, Bs.pack_mod8 h8]
  · refine Ev.congr (fun k => ?_) (Join_l0 l m hl hm h8 hlen (Bs.pack m).length 0 (Nat.zero_add _))
    rw [if_neg (hz2 h8), if_pos hsl]
    simp only [Option.bind_some, List.take_zero, Bs.flat_nil, List.append_nil]
    rfl
end Go.Proofs.YtodocfjbpkicgaaDoor.PBits
end
