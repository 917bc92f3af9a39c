-- copied by a program of the session
import Derived.Test.YtodocfjbpkicgaaDoorKwPXorGet
import Derived.Test.YtodocfjbpkicgaaDoorKwAllx61
import Derived.Test.YtodocfjbpkicgaaDoorKwAllx71
set_option linter.unusedSectionVars false
set_option linter.unusedSimpArgs false
set_option linter.unusedVariables false
section
namespace Go.Proofs.YtodocfjbpkicgaaDoor.PXor
open Go Go.RowKit Go.Proofs.YtodocfjbpkicgaaDoor Go.Proofs.YtodocfjbpkicgaaDoor.All Go.Zw Go.Zl
theorem byte_inj {x y : Int} (hx : x = 0 ∨ x = 1) (hy : y = 0 ∨ y = 1) (h : UInt8.ofNat x.toNat = UInt8.ofNat y.toNat) : x = y := by
 rcases hx with rfl | rfl <;> rcases hy with rfl | rfl <;> first | rfl | exact absurd h (by decide)
theorem strs_inj : ∀ {a b : List Int}, Bs.Bits a → Bs.Bits b → (strOfNums a).toList = (strOfNums b).toList → a = b := by
 intro a
 induction a with
 | nil =>
  intro b ha hb h
  rw [Lib.strOfNums_toList, Lib.strOfNums_toList] at h
  cases b with
  | nil => rfl
  | cons y b => exact absurd h (by simp [Lib.bytesOf])
 | cons x a ih =>
  intro b ha hb h
  cases b with
  | nil => rw [Lib.strOfNums_toList, Lib.strOfNums_toList] at h; exact absurd h (by simp [Lib.bytesOf])
  | cons y b =>
   have h2 := h
   rw [Lib.strOfNums_toList, Lib.strOfNums_toList] at h2
   simp only [Lib.bytesOf, List.map_cons, List.cons.injEq] at h2
   have e1 : x = y := byte_inj (ha x (by simp)) (hb y (by simp)) h2.1
   have e2 := ih (b := b) (fun z hz => ha z (by simp [hz])) (fun z hz => hb z (by simp [hz])) (by rw [Lib.strOfNums_toList, Lib.strOfNums_toList]; exact h2.2)
   rw [e1, e2]
theorem zeros_bits (n : Nat) : Bs.Bits (List.replicate n (0 : Int)) := fun x hx => .inl (List.eq_of_mem_replicate hx)
theorem zeros_num (n : Nat) : Bs.number (List.replicate n (0 : Int)) = 0 := by
 have := Bs.A38 [] n
 rw [List.nil_append, Bs.number_nil, Int.zero_mul] at this
 exact this
theorem pad_num (b : List Int) (lead m : Nat) : Bs.number ((List.replicate lead 0 ++ b) ++ List.replicate m 0) = Bs.number b * 2 ^ m := by
 rw [Bs.A38, Bs.number_append, zeros_num, Int.zero_mul, Int.zero_add]
theorem wadd3 (h s : Nat) (h14 : h ≤ 14) (hs : s ≤ 64) : wrap64 ((h : Int) + (s : Int)) = ((h + s : Nat) : Int) := by rw [PBits.w64 _ (by omega)]; omega
theorem RGet_j2 (y : Int) (C : List Int) (q : Bool) (a b c : Int) : Ev (fun k => A0h.j2 k y C q a b c) (if q = true then (0, 0, 0, 0, 0, 3) else (y, a, b, c, (C.length : Int), 0)) := by
 cases q with
 | false =>
  rw [if_neg Bool.false_ne_true]
  exact Ev.step (fun k => by rw [A0h.j2, if_neg Bool.false_ne_true]) (Ev.now _)
 | true =>
  rw [if_pos rfl]
  exact Ev.step (fun k => by rw [A0h.j2, if_pos rfl]) (Ev.now _)
theorem RGet_j0 (p : Int) (hp : 0 ≤ p ∧ p < 18446744073709551616) (l n : Nat) (hln : l + n ≤ 64) (R : List Int) (hR : Bs.Bits R) (h lead size : Nat) (hs : size ≤ 64) (hld : lead ≤ 64) (h14 : h ≤ 14) :
    Ev (fun k => A0h.j0 k R (lead : Int) (size : Int) (h : Int) p (l : Int) (n : Int)) (bd p l n R h lead size) := by
  unfold bd
  by_cases c0 : size = 0
  · rw [if_pos (.inl c0)]
    subst c0
    refine Ev.step (fun k => by rw [A0h.j0, if_pos (by decide)]) ?_
    exact Ev.step (fun k => by rw [A0h.j1, if_pos rfl]) (Ev.now _)
  refine Ev.step (fun k => by rw [A0h.j0, if_neg (nz c0), wadd lead size hld hs]) ?_
  by_cases c1 : lead + size > 64
  · rw [if_pos (.inr c1), decide_eq_true (gtc c1)]
    exact Ev.step (fun k => by rw [A0h.j1, if_pos rfl]) (Ev.now _)
  have c1' : lead + size ≤ 64 := Nat.le_of_not_lt c1
  rw [if_neg (fun h => h.elim c0 c1), decide_eq_false (gtc' c1)]
  by_cases c2 : R.length < h + size
  · rw [if_pos c2]
    exact Ev.step (fun k => by rw [A0h.j1, if_neg Bool.false_ne_true, wadd3 h size h14 hs, if_pos (Int.ofNat_lt.mpr c2)]) (Ev.now _)
  have c2' : h + size ≤ R.length := Nat.le_of_not_lt c2
  rw [if_neg c2]
  have hxr := xv_range hR h lead size c2' c1'
  have hcut : (R.take (h + size)).drop h = (R.drop h).take size := by rw [List.drop_take, Nat.add_sub_cancel_left]
  have hblen : ((R.drop h).take size).length = size := cut_len R h size c2'
  have hbits : Bs.Bits ((List.replicate lead 0 ++ (R.drop h).take size) ++ List.replicate (64 - lead - size) 0) := ((zeros_bits lead).append (bits_take hR h size)).append (zeros_bits _)
  have hplen : ((List.replicate lead 0 ++ (R.drop h).take size) ++ List.replicate (64 - lead - size) (0 : Int)).length ≤ 64 := by
    rw [List.length_append, List.length_append, List.length_replicate, List.length_replicate, hblen]; omega
  have hN := PBits.Number_is _ hbits hplen
  rw [pad_num] at hN
  have hcode := RCode_is p (Go.bits .xor .u64 p (xv R h lead size)) l n hp (xor_range p _ hp hxr) hln (xor_back p _ hp hxr)
  have hle1 : lead ≤ 281474976710656 := Nat.le_trans hld (by decide)
  have hl1 : (List.replicate lead (0 : Int)).length + ((R.drop h).take size).length < 140737488355328 := by
    refine lt47 _ _ ?_
    rw [List.length_replicate, hblen]; omega
  have hl2 : (List.replicate lead (0 : Int) ++ (R.drop h).take size).length + (64 - lead - size) < 140737488355328 := by
    rw [List.length_append, List.length_replicate, hblen]; omega
  refine Ev.step (fun k => by
    rw [A0h.j1, if_neg Bool.false_ne_true, wadd3 h size h14 hs, if_neg (fun hh => c2 (Int.ofNat_lt.mp hh)), if_pos (Int.natCast_nonneg lead), wsub lead size c1']
    simp only [Int.toNat_natCast]
    rw [if_pos hle1, Option.bind_some, if_pos (Int.natCast_nonneg h), if_pos (Int.ofNat_le.mpr (Nat.le_add_right h size)), if_pos (Int.ofNat_le.mpr c2'), hcut, if_pos hl1, Option.bind_some, if_pos (Int.natCast_nonneg _), if_pos hl2]) (Ev.bind hN ?_)
  refine Ev.bind hcode ?_
  have hcb := cb_bits l n (xv R h lead size)
  show Ev (fun k => if ((cb l n (xv R h lead size)).length : Int) = ((h + size : Nat) : Int) then (if 0 ≤ ((h + size : Nat) : Int) then A0h.j2 k (Go.bits .xor .u64 p (xv R h lead size)) (cb l n (xv R h lead size)) ((strOfNums (cb l n (xv R h lead size))).toList != (strOfNums (R.take (h + size))).toList) (Go.bits .xor .u64 p (xv R h lead size)) (cl l n (xv R h lead size) : Int) (cn l n (xv R h lead size) : Int) else none) else A0h.j2 k (Go.bits .xor .u64 p (xv R h lead size)) (cb l n (xv R h lead size)) true (Go.bits .xor .u64 p (xv R h lead size)) (cl l n (xv R h lead size) : Int) (cn l n (xv R h lead size) : Int)) _
  have hj := RGet_j2 (Go.bits .xor .u64 p (xv R h lead size)) (cb l n (xv R h lead size))
  by_cases e : cb l n (xv R h lead size) = R.take (h + size)
  · have elen : ((cb l n (xv R h lead size)).length : Int) = ((h + size : Nat) : Int) := by rw [e, List.length_take, Nat.min_eq_left c2']
    have hq : ((strOfNums (cb l n (xv R h lead size))).toList != (strOfNums (R.take (h + size))).toList) = false := by rw [e]; exact bne_self_eq_false _
    rw [if_pos e]
    have hj := hj false (Go.bits .xor .u64 p (xv R h lead size)) (cl l n (xv R h lead size) : Int) (cn l n (xv R h lead size) : Int)
    rw [if_neg Bool.false_ne_true, elen] at hj
    exact Ev.congr (fun k => by rw [if_pos elen, if_pos (Int.natCast_nonneg _), hq]) hj
  · rw [if_neg e]
    have hj := hj true (Go.bits .xor .u64 p (xv R h lead size)) (cl l n (xv R h lead size) : Int) (cn l n (xv R h lead size) : Int)
    rw [if_pos rfl] at hj
    refine Ev.congr (fun k => ?_) hj
    by_cases e1 : ((cb l n (xv R h lead size)).length : Int) = ((h + size : Nat) : Int)
    · have hq : ((strOfNums (cb l n (xv R h lead size))).toList != (strOfNums (R.take (h + size))).toList) = true := bne_iff_ne.mpr (fun hh => e (strs_inj hcb (hR.take _) hh))
      rw [if_pos e1, if_pos (Int.natCast_nonneg _), hq]
    · rw [if_neg e1]
theorem RGet_is (p : Int) (hp : 0 ≤ p ∧ p < 18446744073709551616) (l n : Nat) (hln : l + n ≤ 64) (R : List Int) (hR : Bs.Bits R) :
    Ev (fun k => A0h.f k p (l : Int) (n : Int) R) (xg p l n R) := by
  unfold xg
  by_cases c0 : R.length = 0
  · rw [if_pos c0]
    exact Ev.congr (fun k => by unfold A0h.f; rw [if_pos (by rw [c0]; rfl)]) (Ev.now _)
  rw [if_neg c0]
  have p0 : 0 < (R.length : Int) := Int.ofNat_lt.mpr (Nat.pos_of_ne_zero c0)
  by_cases c1 : rd R 0 = 0
  · rw [if_pos c1]
    exact Ev.congr (fun k => by unfold A0h.f; rw [if_neg (nz c0), if_pos p0, if_pos c1]) (Ev.now _)
  rw [if_neg c1]
  by_cases c2 : R.length = 1
  · rw [if_pos c2]
    exact Ev.congr (fun k => by unfold A0h.f; rw [if_neg (nz c0), if_pos p0, if_neg c1, if_pos (by rw [c2]; rfl)]) (Ev.now _)
  rw [if_neg c2]
  have c2i : ¬ (R.length : Int) = 1 := fun hh => c2 (Int.ofNat.inj hh)
  have p1 : 1 < (R.length : Int) := by omega
  by_cases c3 : rd R 1 = 1
  · rw [if_pos c3]
    by_cases c4 : R.length < 14
    · rw [if_pos c4]
      exact Ev.congr (fun k => by unfold A0h.f; rw [if_neg (nz c0), if_pos p0, if_neg c1, if_neg c2i, if_pos p1, if_pos c3, if_pos (by omega)]) (Ev.now _)
    · rw [if_neg c4]
      have c4' : 14 ≤ R.length := Nat.le_of_not_lt c4
      have hl1 := ld_lt hR c4'
      have hs1 := sd_lt hR c4'
      have n1 := PBits.Number_is ((R.take 8).drop 2) ((hR.take 8).drop 2) (by rw [List.length_drop, List.length_take]; omega)
      have n2 := PBits.Number_is ((R.take 14).drop 8) ((hR.take 14).drop 8) (by rw [List.length_drop, List.length_take]; omega)
      have e1 : (R.take 8).drop 2 = (R.drop 2).take 6 := by rw [List.drop_take]
      have e2 : (R.take 14).drop 8 = (R.drop 8).take 6 := by rw [List.drop_take]
      rw [e1, ← hl1.1] at n1
      rw [e2, show Bs.number ((R.drop 8).take 6) = (sd R : Int) - 1 by rw [hs1.1]; exact (Int.add_sub_cancel _ _).symm] at n2
      refine Ev.congr (fun k => by unfold A0h.f; rw [if_neg (nz c0), if_pos p0, if_neg c1, if_neg c2i, if_pos p1, if_pos c3, if_neg (show ¬ (R.length : Int) < 14 by omega), if_pos (by decide), if_pos (by omega), e1]) (Ev.bind n1 ?_)
      refine Ev.congr (fun k => by rw [if_pos (by decide), if_pos (by omega), e2]) (Ev.bind n2 ?_)
      rw [wsm _ hl1.2, wsn _ hs1.2.2 hs1.2.1]
      exact RGet_j0 p hp l n hln R hR 14 (ld R) (sd R) hs1.2.1 (Nat.le_of_lt hl1.2) (by decide)
  · rw [if_neg c3]
    refine Ev.congr (fun k => by unfold A0h.f; rw [if_neg (nz c0), if_pos p0, if_neg c1, if_neg c2i, if_pos p1, if_neg c3]) ?_
    exact RGet_j0 p hp l n hln R hR 2 l n (Nat.le_trans (Nat.le_add_left _ _) hln) (Nat.le_trans (Nat.le_add_right _ _) hln) (by decide)
end Go.Proofs.YtodocfjbpkicgaaDoor.PXor
end
section
namespace Go.Proofs.YtodocfjbpkicgaaDoor.PKinds
open Go Go.RowKit Go.Proofs.YtodocfjbpkicgaaDoor Go.Proofs.YtodocfjbpkicgaaDoor.All Go.Zw Go.Zl
abbrev O := Int × Int × S8 × Int × Int
def bad (c : Int) : O := (0, 0, z8, 0, c)
def kv (kind v e xp : Int) (xl xn : Nat) (R : List Int) : Int × Int × Int × Int × Int × Int :=
 if kind = 2 then (IntKind.u64.wrap (IntKind.u64.wrap (v + e) + IntKind.u64.wrap (PDod.A24 R).1), 0, 0, 0, (PDod.A24 R).2.1, (PDod.A24 R).2.2)
 else PXor.xg xp xl xn R
def fin (kind n t d v e xp : Int) (xl xn : Nat) (T m : Int) (W : Int × Int × Int × Int × Int × Int) : O :=
 if ¬ W.2.2.2.2.2 = 0 then bad W.2.2.2.2.2
 else if T ≤ t then bad 4
 else (T, W.1, aft kind n t d v e xp xl xn T W.1 W.2.1 W.2.2.1 W.2.2.2.1, wrap64 (m + W.2.2.2.2.1), 0)
def kg (kind n t d v e xp : Int) (xl xn : Nat) (R : List Int) : O :=
 if ¬ (kind = 1 ∨ kind = 2) then bad 6
 else if n = 0 then (if R.length < 128 then bad 2 else (wrap64 (Bs.number (R.take 64)), Bs.number ((R.drop 64).take 64), aft kind n t d v e xp xl xn (wrap64 (Bs.number (R.take 64))) (Bs.number ((R.drop 64).take 64)) 0 0 0, 128, 0))
 else if ¬ (PDod.A24 R).2.2 = 0 then bad (PDod.A24 R).2.2
 else fin kind n t d v e xp xl xn (wrap64 (wrap64 (t + d) + (PDod.A24 R).1)) (PDod.A24 R).2.1 (kv kind v e xp xl xn (R.drop (PDod.A24 R).2.1.toNat))
def gref (r : O) : Int × Int × Int × Int × Int × Int × Int × Int × Int × Int × Int × Int :=
 (r.1, r.2.1, r.2.2.1.1, r.2.2.1.2.1, r.2.2.1.2.2.1, r.2.2.1.2.2.2.1, r.2.2.1.2.2.2.2.1, r.2.2.1.2.2.2.2.2.1, r.2.2.1.2.2.2.2.2.2.1, r.2.2.1.2.2.2.2.2.2.2, r.2.2.2.1, r.2.2.2.2)
def gimp8 (r : O) : Int × Int × Int × Int × Int × Int × Int × Int × Int × Int × Int × Option Int :=
 (r.1, r.2.1, r.2.2.1.1, r.2.2.1.2.1, r.2.2.1.2.2.1, r.2.2.1.2.2.2.1, r.2.2.1.2.2.2.2.1, r.2.2.1.2.2.2.2.2.1, r.2.2.1.2.2.2.2.2.2.1, r.2.2.1.2.2.2.2.2.2.2, r.2.2.2.1, if r.2.2.2.2 = 0 then none else some r.2.2.2.2)
theorem gspec_fit (R : List Int) (hR : Bs.Bits R) (h : (PDod.A24 R).2.2 = 0) : ∃ m : Nat, (PDod.A24 R).2.1 = (m : Int) ∧ m ≤ R.length ∧ 1 ≤ R.length := by
 unfold PDod.A24 at h ⊢
 by_cases c : R.length < min (PDod.lead 4 R + 1) 4 + PDod.size (PDod.lead 4 R)
 ·rw [if_pos c] at h
  exact absurd h (by decide)
 rw [if_neg c] at h ⊢
 by_cases e : PDod.ones (PDod.sgn ((R.drop (min (PDod.lead 4 R + 1) 4)).take (PDod.size (PDod.lead 4 R)))) = PDod.lead 4 R
 ·rw [if_pos e]
  exact ⟨_, rfl, Nat.le_of_not_lt c, by omega⟩
 ·rw [if_neg e] at h
  exact absurd h (by decide)
theorem RFin_is (kind n t d v e xp : Int) (xl xn : Nat) (hn : 0 ≤ n) (T m : Int) (W : Int × Int × Int × Int × Int × Int) :
    Ev (fun k => A0f.j1 k kind m W.2.2.2.2.2 W.2.2.2.2.1 n t d v e xp (xl : Int) (xn : Int) T W.1 W.2.1 W.2.2.1 W.2.2.2.1) (gref (fin kind n t d v e xp xl xn T m W)) := by
  unfold fin
  by_cases c1 : W.2.2.2.2.2 = 0
  · have c1n : ¬ ¬ W.2.2.2.2.2 = 0 := fun h => h c1
    rw [if_neg c1n]
    by_cases c2 : T ≤ t
    · rw [if_pos c2]
      exact Ev.step (fun k => by rw [A0f.j1, if_pos c1, if_pos c2]; rfl) (Ev.now (gref (bad 4)))
    · rw [if_neg c2]
      refine Ev.step (fun k => by rw [A0f.j1, if_pos c1, if_neg c2]) (Ev.bind (RAfter_is kind n t d v e xp xl xn T W.1 W.2.1 W.2.2.1 W.2.2.2.1 hn) ?_)
      exact Ev.now _
  · rw [if_pos c1]
    exact Ev.step (fun k => by rw [A0f.j1, if_neg c1]; rfl) (Ev.now (gref (bad W.2.2.2.2.2)))
theorem RGet_is (kind n t d v e xp : Int) (xl xn : Nat) (hn : 0 ≤ n) (hp : 0 ≤ xp ∧ xp < 18446744073709551616) (hx : xl + xn ≤ 64) (R : List Int) (hR : Bs.Bits R) (hl : R.length < 70368744177664) :
    Ev (fun k => A0f.f k kind n t d v e xp (xl : Int) (xn : Int) R) (gref (kg kind n t d v e xp xl xn R)) := by
  have main : ∀ b : Bool, b = decide (¬ (kind = 1 ∨ kind = 2)) → Ev (fun k => A0f.j0 k kind R b n t d v e xp (xl : Int) (xn : Int)) (gref (kg kind n t d v e xp xl xn R)) := by
    intro b hb
    unfold kg
    by_cases c1 : kind = 1 ∨ kind = 2
    · have c1n : ¬ ¬ (kind = 1 ∨ kind = 2) := fun h => h c1
      rw [decide_eq_false c1n] at hb
      subst hb
      rw [if_neg c1n]
      by_cases c2 : n = 0
      · rw [if_pos c2]
        by_cases c3 : R.length < 128
        · rw [if_pos c3]
          exact Ev.step (fun k => by rw [A0f.j0, if_neg Bool.false_ne_true, if_pos c2, if_pos (show (R.length : Int) < 128 by omega)]; rfl) (Ev.now (gref (bad 2)))
        · rw [if_neg c3]
          have e1 := PBits.Number_is (R.take 64) (hR.take 64) (by rw [List.length_take]; omega)
          have e2 := PBits.Number_is ((R.drop 64).take 64) ((hR.drop 64).take 64) (by rw [List.length_take]; omega)
          have ec : (R.take 128).drop 64 = (R.drop 64).take 64 := by rw [List.drop_take]
          have e3 := RAfter_is kind n t d v e xp xl xn (wrap64 (Bs.number (R.take 64))) (Bs.number ((R.drop 64).take 64)) 0 0 0 hn
          refine Ev.step (fun k => by rw [A0f.j0, if_neg Bool.false_ne_true, if_pos c2, if_neg (show ¬ (R.length : Int) < 128 by omega), if_pos (show (64 : Int) ≤ (R.length : Int) by omega)]) (Ev.bind e1 ?_)
          refine Ev.congr (fun k => by rw [if_pos (by decide), if_pos (show (128 : Int) ≤ (R.length : Int) by omega), ec]) (Ev.bind e2 ?_)
          refine Ev.bind e3 ?_
          exact Ev.now _
      rw [if_neg c2]
      have g1 := PDod.RGet_is R hR (by omega)
      have hfit := gspec_fit R hR
      generalize PDod.A24 R = G at g1 hfit
      refine Ev.step (fun k => by rw [A0f.j0, if_neg Bool.false_ne_true, if_neg c2]) (Ev.bind g1 ?_)
      by_cases c3 : G.2.2 = 0
      · have c3n : ¬ ¬ G.2.2 = 0 := fun h => h c3
        rw [if_neg c3n]
        obtain ⟨m, hm1, hm2, _⟩ := hfit c3
        have i1 : (0 : Int) ≤ (m : Int) := Int.natCast_nonneg m
        have i2 : (m : Int) ≤ (R.length : Int) := Int.ofNat_le.mpr hm2
        have hd := List.length_drop (l := R) (i := m)
        rw [hm1, Int.toNat_natCast]
        refine Ev.congr (fun k => by rw [if_pos c3]) ?_
        unfold kv
        by_cases c4 : kind = 2
        · have g2 := PDod.RGet_is (R.drop m) (hR.drop m) (by omega)
          rw [if_pos c4]
          refine Ev.congr (fun k => by rw [if_pos c4, if_pos i1, if_pos i2]) (Ev.bind g2 ?_)
          rw [wrap_add3]
          exact RFin_is kind n t d v e xp xl xn hn _ _ (_, 0, 0, 0, _, _)
        · have g2 := PXor.RGet_is xp hp xl xn hx (R.drop m) (hR.drop m)
          rw [if_neg c4]
          refine Ev.congr (fun k => by rw [if_neg c4, if_pos i1, if_pos i2]) (Ev.bind g2 ?_)
          rw [wrap_add3]
          exact RFin_is kind n t d v e xp xl xn hn _ _ (PXor.xg xp xl xn (R.drop m))
      · rw [if_pos c3]
        exact Ev.congr (fun k => if_neg c3) (Ev.now (gref (bad G.2.2)))
    · rw [decide_eq_true c1] at hb
      subst hb
      rw [if_pos c1]
      exact Ev.step (fun k => by rw [A0f.j0, if_pos rfl]; rfl) (Ev.now (gref (bad 6)))
  unfold A0f.f
  by_cases c1 : kind = 1
  · simp only [if_pos c1]
    exact main false (decide_eq_false (fun h => h (.inl c1))).symm
  · simp only [if_neg c1]
    refine main _ ?_
    by_cases c2 : kind = 2
    · have hh : ¬ ¬ (kind = 1 ∨ kind = 2) := fun h => h (.inr c2)
      rw [bne_eq_false_iff_eq.mpr c2]
      exact (decide_eq_false hh).symm
    · have hh : ¬ (kind = 1 ∨ kind = 2) := fun h => h.elim c1 c2
      rw [bne_iff_ne.mpr c2]
      exact (decide_eq_true hh).symm
theorem Fin_is (kind n t d v e xp : Int) (xl xn : Nat) (hn : n > 0) (T m : Int) (W : Int × Int × Int × Int × Int × Int) :
    Ev (fun k => A1u.j0 k kind (wrap64 (m + W.2.2.2.2.1)) (if W.2.2.2.2.2 = 0 then none else some W.2.2.2.2.2) n t d v e xp (xl : Int) (xn : Int) T W.1 W.2.1 W.2.2.1 W.2.2.2.1) (gimp8 (fin kind n t d v e xp xl xn T m W)) := by
  unfold fin
  by_cases c1 : W.2.2.2.2.2 = 0
  · have c1n : ¬ ¬ W.2.2.2.2.2 = 0 := fun h => h c1
    rw [if_neg c1n, if_pos c1]
    by_cases c2 : T ≤ t
    · rw [if_pos c2]
      exact Ev.step (fun k => by rw [A1u.j0, if_pos (show (none : Option Int).isNone = true from rfl), if_pos hn, if_pos c2]; rfl) (Ev.now (gimp8 (bad 4)))
    · rw [if_neg c2]
      refine Ev.step (fun k => by rw [A1u.j0, if_pos (show (none : Option Int).isNone = true from rfl), if_pos hn, if_neg c2]) (Ev.bind (After_is kind n t d v e xp xl xn T W.1 W.2.1 W.2.2.1 W.2.2.2.1 (by omega)) ?_)
      exact Ev.now _
  · rw [if_pos c1, if_neg c1]
    refine Ev.step (fun k => ?_) (Ev.now (gimp8 (bad W.2.2.2.2.2)))
    rw [A1u.j0, if_neg (show ¬ (some W.2.2.2.2.2).isNone = true from Bool.false_ne_true)]
    unfold gimp8 bad z8
    rw [if_neg c1]
    rfl
theorem restL_add (L : List Int) (hL : L.length < 70368744177664) (a : Int) (m : Nat) (hm : m ≤ (PDod.restL L a).length) (h1 : 1 ≤ (PDod.restL L a).length) : PDod.restL L (wrap64 (a + (m : Int))) = (PDod.restL L a).drop m := by
 unfold PDod.restL at hm h1 ⊢
 by_cases c : a < 0 ∨ a > (L.length : Int)
 ·rw [if_pos c] at h1
  exact absurd h1 (by decide)
 rw [if_neg c] at hm ⊢
 rw [List.length_drop] at hm
 have hw : wrap64 (a + (m : Int)) = a + (m : Int) := PBits.w64 _ (by omega)
 rw [hw, if_neg (by omega), List.drop_drop]
 congr 1
 omega
theorem first_is (b : List Int) (hb : Bs.Bytes b) (hl : 8 * b.length < 70368744177664) (a : Int) (ha : -9223372036854775808 ≤ a ∧ a < 9223372036854775808) :
    Ev (fun k => A3b.f k b a) (if (PDod.restL (Bs.flat b) a).length < 128 then (0, 0, 0, some 2) else (wrap64 (Bs.number ((PDod.restL (Bs.flat b) a).take 64)), Bs.number (((PDod.restL (Bs.flat b) a).drop 64).take 64), 128, none)) := by
  have hfl := Bs.A3d b
  have e1 := PBits.Take_is b hb (by omega) a 64
  have e2 := PBits.Take_is b hb (by omega) (wrap64 (a + 64)) 64
  generalize Bs.flat b = L at *
  unfold A3b.f
  refine Ev.bind e1 ?_
  unfold PDod.restL
  by_cases c : a < 0 ∨ a > (L.length : Int)
  · rw [PBits.tk_no (by omega), if_pos c]
    exact Ev.congr (fun k => if_neg Bool.false_ne_true) (Ev.now _)
  rw [if_neg c]
  have hd := List.length_drop (l := L) (i := a.toNat)
  by_cases c1 : (L.drop a.toNat).length < 64
  · rw [PBits.tk_no (by omega), if_pos (by omega)]
    exact Ev.congr (fun k => if_neg Bool.false_ne_true) (Ev.now _)
  rw [PBits.tk_yes (by omega)]
  refine Ev.congr (fun k => if_pos rfl) (Ev.bind e2 ?_)
  have hw : wrap64 (a + 64) = a + 64 := PBits.w64 _ (by omega)
  by_cases c2 : (L.drop a.toNat).length < 128
  · rw [hw, PBits.tk_no (by omega), if_pos c2]
    exact Ev.congr (fun k => if_neg Bool.false_ne_true) (Ev.now _)
  rw [hw, PBits.tk_yes (by omega), if_neg c2]
  have e64 : (64 : Int).toNat = 64 := rfl
  have ea : (a + 64).toNat = a.toNat + 64 := by omega
  rw [e64, ea, ← List.drop_drop]
  exact Ev.congr (fun k => if_pos rfl) (Ev.now _)
theorem Get_is (kind n t d v e xp : Int) (xl xn : Nat) (hn : 0 ≤ n) (hp : 0 ≤ xp ∧ xp < 18446744073709551616) (hx : xl + xn ≤ 64) (b : List Int) (hb : Bs.Bytes b) (hl : 8 * b.length < 70368744177664) (a : Int) (ha : -9223372036854775808 ≤ a ∧ a < 9223372036854775808) :
    Ev (fun k => A1u.f k kind n t d v e xp (xl : Int) (xn : Int) b a) (gimp8 (kg kind n t d v e xp xl xn (PDod.restL (Bs.flat b) a))) := by
  have hfl := Bs.A3d b
  have hL : (Bs.flat b).length < 70368744177664 := by omega
  unfold A1u.f kg
  rw [known_is]
  simp only [Option.bind_some]
  by_cases c1 : kind = 1 ∨ kind = 2
  · have c1n : ¬ ¬ (kind = 1 ∨ kind = 2) := fun h => h c1
    rw [decide_eq_true c1, if_neg c1n]
    simp only [if_true]
    by_cases c2 : n = 0
    · have hng : ¬ n > 0 := by omega
      have e1 := first_is b hb hl a ha
      simp only [if_pos c2]
      refine Ev.bind e1 ?_
      generalize PDod.restL (Bs.flat b) a = R
      by_cases c3 : R.length < 128
      · simp only [if_pos c3]
        exact Ev.step (fun k => by rw [A1u.j0, if_neg (show ¬ (some (2 : Int)).isNone = true from Bool.false_ne_true)]; rfl) (Ev.now (gimp8 (bad 2)))
      · simp only [if_neg c3]
        refine Ev.step (fun k => by rw [A1u.j0, if_pos (show (none : Option Int).isNone = true from rfl), if_neg hng]) (Ev.bind (After_is kind n t d v e xp xl xn (wrap64 (Bs.number (R.take 64))) (Bs.number ((R.drop 64).take 64)) 0 0 0 hn) ?_)
        exact Ev.now _
    simp only [if_neg c2]
    have hng : n > 0 := by omega
    have g1 := PDod.Get_is b hb (by omega) a ha
    have hfit := gspec_fit _ (PDod.restL_bits (Bs.flat_bits b) a)
    have hadd := restL_add (Bs.flat b) hL a
    unfold A2w.f
    generalize PDod.restL (Bs.flat b) a = R at *
    generalize PDod.A24 R = G at *
    by_cases c3 : G.2.2 = 0
    · have c3n : ¬ ¬ G.2.2 = 0 := fun h => h c3
      obtain ⟨m, hm1, hm2, hm3⟩ := hfit c3
      have hr := hadd m hm2 hm3
      have hwr : -9223372036854775808 ≤ wrap64 (a + (m : Int)) ∧ wrap64 (a + (m : Int)) < 9223372036854775808 := by unfold wrap64; omega
      rw [if_neg c3n]
      unfold PDod.gimp at g1
      rw [if_pos c3, hm1] at g1
      rw [hm1, Int.toNat_natCast]
      unfold kv
      by_cases c4 : kind = 2
      · have g2 := PDod.Get_is b hb (by omega) (wrap64 (a + (m : Int))) hwr
        rw [hr] at g2
        rw [if_pos c4]
        simp only [if_pos c4]
        refine Ev.bind (Ev.bind g1 (Ev.congr (fun k => if_pos rfl) (Ev.bind g2 (Ev.now _)))) ?_
        exact Fin_is kind n t d v e xp xl xn hng _ _ (_, 0, 0, 0, _, _)
      · have g2 := PXor.Get_is b hb hl xp hp xl xn hx (wrap64 (a + (m : Int)))
        rw [hr] at g2
        rw [if_neg c4]
        simp only [if_neg c4]
        refine Ev.bind (Ev.bind g1 (Ev.congr (fun k => if_pos rfl) (Ev.bind g2 (Ev.now _)))) ?_
        exact Fin_is kind n t d v e xp xl xn hng _ _ (PXor.xg xp xl xn (R.drop m))
    · rw [if_pos c3]
      unfold PDod.gimp at g1
      rw [if_neg c3] at g1
      refine Ev.bind (Ev.bind g1 (Ev.congr (fun k => if_neg Bool.false_ne_true) (Ev.now _))) ?_
      refine Ev.step (fun k => ?_) (Ev.now (gimp8 (bad G.2.2)))
      rw [A1u.j0, if_neg (show ¬ (some _).isNone = true from Bool.false_ne_true)]
      unfold gimp8 bad z8
      rw [if_neg c3]
      rfl
  · rw [decide_eq_false c1, if_pos c1]
    exact Ev.congr (fun k => if_neg Bool.false_ne_true) (Ev.now (gimp8 (bad 6)))
end Go.Proofs.YtodocfjbpkicgaaDoor.PKinds
end
section
namespace Go.Proofs.YtodocfjbpkicgaaDoor.PXor
open Go Go.RowKit Go.Proofs.YtodocfjbpkicgaaDoor Go.Proofs.YtodocfjbpkicgaaDoor.All Go.Zw Go.Zl
theorem xg_ok (p : Int) (l n : Nat) (hln : l + n ≤ 64) (hp : 0 ≤ p ∧ p < 18446744073709551616) (R : List Int) (hR : Bs.Bits R) (h : (xg p l n R).2.2.2.2.2 = 0) :
    ∃ (d : Int) (m : Nat), 0 ≤ d ∧ d < 18446744073709551616 ∧ 1 ≤ m ∧ m ≤ R.length ∧ cb l n d = R.take m ∧ xg p l n R = (Go.bits .xor .u64 p d, Go.bits .xor .u64 p d, (cl l n d : Int), (cn l n d : Int), (m : Int), 0) := by
  have hbd : ∀ (h lead size : Nat), (bd p l n R h lead size).2.2.2.2.2 = 0 → ∃ (d : Int) (m : Nat), 0 ≤ d ∧ d < 18446744073709551616 ∧ 1 ≤ m ∧ m ≤ R.length ∧ cb l n d = R.take m ∧ bd p l n R h lead size = (Go.bits .xor .u64 p d, Go.bits .xor .u64 p d, (cl l n d : Int), (cn l n d : Int), (m : Int), 0) := by
    intro h lead size hh
    unfold bd at hh ⊢
    by_cases c0 : size = 0 ∨ lead + size > 64
    · rw [if_pos c0] at hh
      exact absurd hh (by decide)
    rw [if_neg c0] at hh ⊢
    by_cases c1 : R.length < h + size
    · rw [if_pos c1] at hh
      exact absurd hh (by decide)
    rw [if_neg c1] at hh ⊢
    by_cases c2 : cb l n (xv R h lead size) = R.take (h + size)
    · rw [if_pos c2]
      have hx := xv_range hR h lead size (by omega) (by omega)
      exact ⟨_, _, hx.1, hx.2, by omega, by omega, c2, rfl⟩
    · rw [if_neg c2] at hh
      exact absurd hh (by decide)
  unfold xg at h ⊢
  by_cases c0 : R.length = 0
  · rw [if_pos c0] at h
    exact absurd h (by decide)
  rw [if_neg c0] at h ⊢
  by_cases c1 : rd R 0 = 0
  · rw [if_pos c1]
    refine ⟨0, 1, by decide, by decide, by decide, by omega, ?_, ?_⟩
    · rw [take1 R (by omega) c1]
      unfold cb
      rw [if_pos rfl]
    · unfold cl cn
      rw [if_pos rfl, if_pos rfl, Ib.xor_u64_zero p hp]
      rfl
  rw [if_neg c1] at h ⊢
  by_cases c2 : R.length = 1
  · rw [if_pos c2] at h
    exact absurd h (by decide)
  rw [if_neg c2] at h ⊢
  by_cases c3 : rd R 1 = 1
  · rw [if_pos c3] at h ⊢
    by_cases c4 : R.length < 14
    · rw [if_pos c4] at h
      exact absurd h (by decide)
    rw [if_neg c4] at h ⊢
    exact hbd _ _ _ h
  · rw [if_neg c3] at h ⊢
    exact hbd _ _ _ h
end Go.Proofs.YtodocfjbpkicgaaDoor.PXor
end
section
namespace Go.Proofs.YtodocfjbpkicgaaDoor.PKinds
open Go Go.RowKit Go.Proofs.YtodocfjbpkicgaaDoor Go.Proofs.YtodocfjbpkicgaaDoor.All Go.Zw Go.Zl
structure Ok (B : Int) (s : S8) : Prop where
 n0 : 0 ≤ s.1
 n1 : s.1 ≤ B
 p0 : 0 ≤ s.2.2.2.2.2.1 ∧ s.2.2.2.2.2.1 < 18446744073709551616
 w : ∃ xl xn : Nat, s.2.2.2.2.2.2.1 = (xl : Int) ∧ s.2.2.2.2.2.2.2 = (xn : Int) ∧ xl + xn ≤ 64
theorem ok_zero (B : Int) (hB : 0 ≤ B) : Ok B z8 := ⟨Int.le_refl _, hB, by decide, 0, 0, rfl, rfl, by decide⟩
theorem ok_aft (B : Int) (hB : B < 1000000) (kind n t d v e xp xl xn T V ap al an : Int) (hn : 0 ≤ n ∧ n ≤ B) (hV : 0 ≤ V ∧ V < 18446744073709551616) (hap : 0 ≤ ap ∧ ap < 18446744073709551616) (hw : ∃ x y : Nat, al = (x : Int) ∧ an = (y : Int) ∧ x + y ≤ 64) : Ok (B + 1) (aft kind n t d v e xp xl xn T V ap al an) := by
 have hw1 : wrap64 (n + 1) = n + 1 := PBits.w64 _ (by omega)
 have z : ∃ x y : Nat, (0 : Int) = (x : Int) ∧ (0 : Int) = (y : Int) ∧ x + y ≤ 64 := ⟨0, 0, rfl, rfl, by decide⟩
 unfold aft
 rw [hw1]
 refine ⟨by show 0 ≤ n + 1; omega, by show n + 1 ≤ B + 1; omega, ?_, ?_⟩
 ·show 0 ≤ (if kind = 1 then (if n = 0 then V else ap) else 0) ∧ (if kind = 1 then (if n = 0 then V else ap) else 0) < 18446744073709551616
  by_cases c : kind = 1
  ·rw [if_pos c]
   by_cases c' : n = 0
   ·rw [if_pos c']; exact hV
   ·rw [if_neg c']; exact hap
  ·rw [if_neg c]; decide
 ·show ∃ x y : Nat, (if kind = 1 then (if n = 0 then 0 else al) else 0) = (x : Int) ∧ (if kind = 1 then (if n = 0 then 0 else an) else 0) = (y : Int) ∧ x + y ≤ 64
  by_cases c : kind = 1
  ·rw [if_pos c, if_pos c]
   by_cases c' : n = 0
   ·rw [if_pos c', if_pos c']; exact z
   ·rw [if_neg c', if_neg c']; exact hw
  ·rw [if_neg c, if_neg c]; exact z
theorem u64_is (x : Int) : 0 ≤ IntKind.u64.wrap x ∧ IntKind.u64.wrap x < 18446744073709551616 := u64_range x
theorem kv_ok (kind v e xp : Int) (xl xn : Nat) (hp : 0 ≤ xp ∧ xp < 18446744073709551616) (hx : xl + xn ≤ 64) (R : List Int) (hR : Bs.Bits R) (h : (kv kind v e xp xl xn R).2.2.2.2.2 = 0) :
    (0 ≤ (kv kind v e xp xl xn R).1 ∧ (kv kind v e xp xl xn R).1 < 18446744073709551616) ∧ (0 ≤ (kv kind v e xp xl xn R).2.1 ∧ (kv kind v e xp xl xn R).2.1 < 18446744073709551616) ∧
    (∃ x y : Nat, (kv kind v e xp xl xn R).2.2.1 = (x : Int) ∧ (kv kind v e xp xl xn R).2.2.2.1 = (y : Int) ∧ x + y ≤ 64) ∧ ∃ m : Nat, (kv kind v e xp xl xn R).2.2.2.2.1 = (m : Int) ∧ m ≤ R.length := by
  unfold kv at h ⊢
  by_cases c : kind = 2
  · rw [if_pos c] at h ⊢
    obtain ⟨m, h1, h2, _⟩ := gspec_fit R hR h
    exact ⟨u64_is _, by show (0 : Int) ≤ 0 ∧ (0 : Int) < _; decide, ⟨0, 0, rfl, rfl, by decide⟩, m, h1, h2⟩
  · rw [if_neg c] at h ⊢
    obtain ⟨d, m, d0, d1, m1, m2, _, hG⟩ := PXor.xg_ok xp xl xn hx hp R hR h
    rw [hG]
    have hr := PXor.xor_range xp d hp ⟨d0, d1⟩
    exact ⟨hr, hr, ⟨_, _, rfl, rfl, PXor.cb_ok xl xn d hx d0 d1⟩, m, rfl, m2⟩
theorem kg_ok (B : Int) (hB : B < 1000000) (kind n t d v e xp : Int) (xl xn : Nat) (hn : 0 ≤ n ∧ n ≤ B) (hp : 0 ≤ xp ∧ xp < 18446744073709551616) (hx : xl + xn ≤ 64) (R : List Int) (hR : Bs.Bits R) (hl : R.length < 70368744177664) (h : (kg kind n t d v e xp xl xn R).2.2.2.2 = 0) :
    Ok (B + 1) (kg kind n t d v e xp xl xn R).2.2.1 ∧ ∃ m : Nat, (kg kind n t d v e xp xl xn R).2.2.2.1 = (m : Int) ∧ m ≤ R.length ∧ 1 ≤ R.length := by
  have z : ∃ x y : Nat, (0 : Int) = (x : Int) ∧ (0 : Int) = (y : Int) ∧ x + y ≤ 64 := ⟨0, 0, rfl, rfl, by decide⟩
  unfold kg at h ⊢
  by_cases c1 : ¬ (kind = 1 ∨ kind = 2)
  · rw [if_pos c1] at h
    exact absurd h (by decide)
  rw [if_neg c1] at h ⊢
  by_cases c2 : n = 0
  · rw [if_pos c2] at h ⊢
    by_cases c3 : R.length < 128
    · rw [if_pos c3] at h
      exact absurd h (by decide)
    rw [if_neg c3]
    have hnr := PXor.num_range hR 64 64 (by omega)
    have k64 : (2 : Int) ^ 64 = 18446744073709551616 := by decide
    rw [k64] at hnr
    exact ⟨ok_aft B hB kind n t d v e xp xl xn _ _ 0 0 0 hn hnr (by decide) z, 128, rfl, by omega, by omega⟩
  rw [if_neg c2] at h ⊢
  by_cases c3 : (PDod.A24 R).2.2 = 0
  · have c3n : ¬ ¬ (PDod.A24 R).2.2 = 0 := fun h => h c3
    rw [if_neg c3n] at h ⊢
    obtain ⟨m, hm1, hm2, hm3⟩ := gspec_fit R hR c3
    have hd := List.length_drop (l := R) (i := m)
    rw [hm1, Int.toNat_natCast] at h ⊢
    have hv := kv_ok kind v e xp xl xn hp hx (R.drop m) (hR.drop m)
    generalize kv kind v e xp xl xn (R.drop m) = W at *
    generalize wrap64 (wrap64 (t + d) + (PDod.A24 R).1) = T at *
    unfold fin at h ⊢
    by_cases c4 : W.2.2.2.2.2 = 0
    · have c4n : ¬ ¬ W.2.2.2.2.2 = 0 := fun h => h c4
      rw [if_neg c4n] at h ⊢
      by_cases c5 : T ≤ t
      · rw [if_pos c5] at h
        exact absurd h (by show ¬ ((4 : Int) = 0); decide)
      rw [if_neg c5]
      obtain ⟨v1, v2, v3, m2, v4, v5⟩ := hv c4
      refine ⟨ok_aft B hB kind n t d v e xp xl xn T _ _ _ _ hn v1 v2 v3, m + m2, ?_, by omega, hm3⟩
      show wrap64 ((m : Int) + W.2.2.2.2.1) = _
      rw [v4, PBits.w64 _ (by omega)]
      omega
    · rw [if_pos c4] at h
      exact absurd h c4
  · rw [if_pos c3] at h
    exact absurd h c3
theorem fin_code (kind n t d v e xp : Int) (xl xn : Nat) (T m : Int) (W : Int × Int × Int × Int × Int × Int) (hW : W.2.2.2.2.2 = 0 ∨ W.2.2.2.2.2 = 2 ∨ W.2.2.2.2.2 = 3) : (fin kind n t d v e xp xl xn T m W).2.2.2.2 = 0 ∨ (fin kind n t d v e xp xl xn T m W).2.2.2.2 = 2 ∨ (fin kind n t d v e xp xl xn T m W).2.2.2.2 = 3 ∨ (fin kind n t d v e xp xl xn T m W).2.2.2.2 = 4 := by
 unfold fin
 split
 ·rcases hW with h | h | h
  ·exact .inl h
  ·exact .inr (.inl h)
  ·exact .inr (.inr (.inl h))
 ·split
  ·exact .inr (.inr (.inr rfl))
  ·exact .inl rfl
theorem kbd_code (p : Int) (l n : Nat) (R : List Int) (h lead size : Nat) : (PXor.bd p l n R h lead size).2.2.2.2.2 = 0 ∨ (PXor.bd p l n R h lead size).2.2.2.2.2 = 2 ∨ (PXor.bd p l n R h lead size).2.2.2.2.2 = 3 := by
 unfold PXor.bd
 split
 ·exact .inr (.inr rfl)
 ·split
  ·exact .inr (.inl rfl)
  ·split
   ·exact .inl rfl
   ·exact .inr (.inr rfl)
theorem kxg_code (p : Int) (l n : Nat) (R : List Int) : (PXor.xg p l n R).2.2.2.2.2 = 0 ∨ (PXor.xg p l n R).2.2.2.2.2 = 2 ∨ (PXor.xg p l n R).2.2.2.2.2 = 3 := by
 unfold PXor.xg
 split
 ·exact .inr (.inl rfl)
 ·split
  ·exact .inl rfl
  ·split
   ·exact .inr (.inl rfl)
   ·split
    ·split
     ·exact .inr (.inl rfl)
     ·exact kbd_code ..
    ·exact kbd_code ..
theorem kv_code (kind v e xp : Int) (xl xn : Nat) (R : List Int) : (kv kind v e xp xl xn R).2.2.2.2.2 = 0 ∨ (kv kind v e xp xl xn R).2.2.2.2.2 = 2 ∨ (kv kind v e xp xl xn R).2.2.2.2.2 = 3 := by
 unfold kv
 split
 ·exact PDod.gspec_code R
 ·exact kxg_code xp xl xn R
theorem kg_code (kind n t d v e xp : Int) (xl xn : Nat) (R : List Int) : (kg kind n t d v e xp xl xn R).2.2.2.2 = 0 ∨ (kg kind n t d v e xp xl xn R).2.2.2.2 = 2 ∨ (kg kind n t d v e xp xl xn R).2.2.2.2 = 3 ∨ (kg kind n t d v e xp xl xn R).2.2.2.2 = 4 ∨ (kg kind n t d v e xp xl xn R).2.2.2.2 = 6 := by
 unfold kg
 split
 ·exact .inr (.inr (.inr (.inr rfl)))
 ·split
  ·split
   ·exact .inr (.inl rfl)
   ·exact .inl rfl
  ·split
   ·rcases PDod.gspec_code R with h | h | h
    ·exact .inl h
    ·exact .inr (.inl h)
    ·exact .inr (.inr (.inl h))
   ·rcases fin_code kind n t d v e xp xl xn (wrap64 (wrap64 (t + d) + (PDod.A24 R).1)) (PDod.A24 R).2.1 _ (kv_code kind v e xp xl xn (R.drop (PDod.A24 R).2.1.toNat)) with h | h | h | h
    ·exact .inl h
    ·exact .inr (.inl h)
    ·exact .inr (.inr (.inl h))
    ·exact .inr (.inr (.inr (.inl h)))
end Go.Proofs.YtodocfjbpkicgaaDoor.PKinds
end
section
namespace Go.Proofs.YtodocfjbpkicgaaDoor.PSlow
open Go Go.RowKit Go.Proofs.YtodocfjbpkicgaaDoor Go.Proofs.YtodocfjbpkicgaaDoor.All Go.Zw Go.Zl Go.Proofs.YtodocfjbpkicgaaDoor.PKinds
theorem rest_drop (L : List Int) (a : Nat) (h : a ≤ L.length) : PDod.restL L (a : Int) = L.drop a := by
 unfold PDod.restL
 rw [if_neg (by omega), Int.toNat_natCast]
theorem mn_lt (a : Int) (h : a < 8) : mn a 8 = a := by
 unfold mn
 split <;> omega
theorem slow_end (kind : Int) (b : List Int) (hb : Bs.Bytes b) (hl : b.length ≤ 1000000) (nn at_ : Nat) (out : List S42) (n t d v e xp xl xn : Int) (ha : at_ ≤ (Bs.flat b).length) :
    ∃ c : Int, Ev (fun k => A1b.l0 k kind b out (at_ : Int) (nn : Int) (nn : Int) n t d v e xp xl xn) (out, if c = 0 then none else some c) ∧ Ev (fun k => A01.l0 k kind (nn : Int) ((Bs.flat b).drop at_) out (nn : Int) n t d v e xp xl xn) (out, c) ∧ (c = 0 ∨ c = 3) := by
  have hnl : ¬ (nn : Int) < (nn : Int) := by omega
  have hfl := Bs.A3d b
  have hw8 : wrap64 (8 * (b.length : Int)) = ((Bs.flat b).length : Int) := by rw [PBits.w64 _ (by omega), hfl]; omega
  have hRb := (Bs.flat_bits b).drop at_
  have hd := List.length_drop (l := Bs.flat b) (i := at_)
  have hwr : wrap64 (((Bs.flat b).length : Int) - (at_ : Int)) = (((Bs.flat b).drop at_).length : Int) := by rw [PBits.w64 _ (by omega), hd]; omega
  have g1 := PBits.Take_is b hb (by omega) (at_ : Int)
  by_cases c1 : ((Bs.flat b).drop at_).length ≥ 8
  · have c1' : (((Bs.flat b).drop at_).length : Int) ≥ 8 := by omega
    refine ⟨3, ?_, Ev.step (fun k => by rw [A01.l0, if_neg hnl, if_pos c1']) (Ev.now _), .inr rfl⟩
    refine Ev.step (fun k => by rw [A1b.l0, if_neg hnl, hw8, hwr]) (Ev.bind (g1 _) ?_)
    exact Ev.congr (fun k => if_pos c1') (Ev.now _)
  · have c1' : ¬ (((Bs.flat b).drop at_).length : Int) ≥ 8 := by omega
    have g2 := PBits.Number_is _ hRb (by omega)
    have g1 := g1 (((Bs.flat b).drop at_).length : Int)
    rw [PBits.tk_yes (by omega), Int.toNat_natCast, Int.toNat_natCast, List.take_of_length_le (Nat.le_refl _)] at g1
    have hmn := mn_lt (((Bs.flat b).drop at_).length : Int) (by omega)
    by_cases c2 : Bs.number ((Bs.flat b).drop at_) = 0
    · refine ⟨0, ?_, Ev.step (fun k => by rw [A01.l0, if_neg hnl, if_neg c1']) (Ev.bind g2 (Ev.congr (fun k => if_pos c2) (Ev.now _))), .inl rfl⟩
      refine Ev.step (fun k => by rw [A1b.l0, if_neg hnl, hw8, hwr, hmn]) (Ev.bind g1 ?_)
      exact Ev.congr (fun k => by rw [if_neg c1', if_pos rfl, if_pos c2]) (Ev.now (out, none))
    · refine ⟨3, ?_, Ev.step (fun k => by rw [A01.l0, if_neg hnl, if_neg c1']) (Ev.bind g2 (Ev.congr (fun k => if_neg c2) (Ev.now _))), .inr rfl⟩
      refine Ev.step (fun k => by rw [A1b.l0, if_neg hnl, hw8, hwr, hmn]) (Ev.bind g1 ?_)
      exact Ev.congr (fun k => by rw [if_neg c1', if_pos rfl, if_neg c2]) (Ev.now (out, some 3))
theorem slow_l0 (kind : Int) (b : List Int) (hb : Bs.Bytes b) (hl : b.length ≤ 1000000) (nn : Nat) (hnn : nn ≤ 65535) :
    ∀ (r j at_ : Nat) (out : List S42) (n t d v e xp : Int) (xl xn : Nat), j + r = nn → out.length = j → at_ ≤ (Bs.flat b).length → Ok (j : Int) (n, t, d, v, e, xp, (xl : Int), (xn : Int)) →
      ∃ (M : List S42) (c : Int), Ev (fun k => A1b.l0 k kind b out (at_ : Int) (nn : Int) (j : Int) n t d v e xp (xl : Int) (xn : Int)) (M, if c = 0 then none else some c) ∧
        Ev (fun k => A01.l0 k kind (nn : Int) ((Bs.flat b).drop at_) out (j : Int) n t d v e xp (xl : Int) (xn : Int)) (M, c) ∧ (c = 0 ∨ c = 2 ∨ c = 3 ∨ c = 4 ∨ c = 6) ∧ M.length ≤ nn ∧ (c = 0 → M.length = nn) := by
  intro r
  induction r with
  | zero =>
    intro j at_ out n t d v e xp xl xn hj ho ha hok
    obtain rfl : j = nn := by omega
    obtain ⟨c, h1, h2, h3⟩ := slow_end kind b hb hl j at_ out n t d v e xp (xl : Int) (xn : Int) ha
    exact ⟨out, c, h1, h2, h3.elim .inl (fun h => .inr (.inr (.inl h))), by omega, fun _ => ho⟩
  | succ r ih =>
    intro j at_ out n t d v e xp xl xn hj ho ha hok
    have hlt : (j : Int) < (nn : Int) := by omega
    obtain ⟨xl', xn', el, en, hx⟩ := hok.w
    have hx : xl + xn ≤ 64 := by
      have e1 : (xl : Int) = (xl' : Int) := el
      have e2 : (xn : Int) = (xn' : Int) := en
      omega
    have hp := hok.p0
    have hn0 : 0 ≤ n := hok.n0
    have hn1 : n ≤ (j : Int) := hok.n1
    have hfl := Bs.A3d b
    have hd := List.length_drop (l := Bs.flat b) (i := at_)
    have g1 := PKinds.Get_is kind n t d v e xp xl xn hn0 hp hx b hb (by omega) (at_ : Int) (by omega)
    rw [rest_drop _ _ ha] at g1
    have hRb := (Bs.flat_bits b).drop at_
    have g2 := PKinds.RGet_is kind n t d v e xp xl xn hn0 hp hx _ hRb (by omega)
    have kc := kg_code kind n t d v e xp xl xn ((Bs.flat b).drop at_)
    have ko := kg_ok (j : Int) (by omega) kind n t d v e xp xl xn ⟨hn0, hn1⟩ hp hx _ hRb (by omega)
    generalize PKinds.kg kind n t d v e xp xl xn ((Bs.flat b).drop at_) = K at *
    obtain ⟨T, V, ⟨n', t', d', v', e', xp', al, an⟩, len, c⟩ := K
    have ho8 : out.length < 8796093022208 := by omega
    by_cases c0 : c = 0
    · obtain ⟨ko', m, hm1, hm2, hm3⟩ := ko c0
      have hm1 : len = (m : Int) := hm1
      subst hm1
      obtain ⟨yl, yn, e1, e2, hy⟩ := ko'.w
      have e1 : al = (yl : Int) := e1
      have e2 : an = (yn : Int) := e2
      subst e1 e2 c0
      have g1 : Ev (fun k => A1u.f k kind n t d v e xp (xl : Int) (xn : Int) b (at_ : Int)) (T, V, n', t', d', v', e', xp', (yl : Int), (yn : Int), (m : Int), none) := g1
      have g2 : Ev (fun k => A0f.f k kind n t d v e xp (xl : Int) (xn : Int) ((Bs.flat b).drop at_)) (T, V, n', t', d', v', e', xp', (yl : Int), (yn : Int), (m : Int), 0) := g2
      have hok2 : Ok ((j + 1 : Nat) : Int) (n', t', d', v', e', xp', (yl : Int), (yn : Int)) := by
        rw [show ((j + 1 : Nat) : Int) = (j : Int) + 1 from by omega]
        exact ko'
      have l1 : (out ++ [(⟨T, V⟩ : S42)]).length = j + 1 := by rw [List.length_append, List.length_singleton, ho]
      have l2 : at_ + m ≤ (Bs.flat b).length := by omega
      have l3 : j + 1 + r = nn := by omega
      have wj : wrap64 ((j : Int) + 1) = ((j + 1 : Nat) : Int) := by rw [PBits.w64 _ (by omega)]; omega
      have wa : wrap64 ((at_ : Int) + (m : Int)) = ((at_ + m : Nat) : Int) := by rw [PBits.w64 _ (by omega)]; omega
      obtain ⟨M, c, h1, h2, h3, h4⟩ := ih (j + 1) (at_ + m) (out ++ [⟨T, V⟩]) n' t' d' v' e' xp' yl yn l3 l1 l2 hok2
      refine ⟨M, c, ?_, ?_, h3, h4⟩
      · refine Ev.step (fun k => by rw [A1b.l0, if_pos hlt]) (Ev.bind g1 ?_)
        refine Ev.congr (fun k => by rw [if_pos (show (none : Option Int).isNone = true from rfl), if_pos ho8, wa, wj]) h1
      · refine Ev.step (fun k => by rw [A01.l0, if_pos hlt]) (Ev.bind g2 ?_)
        rw [← List.drop_drop] at h2
        have hm2' : (m : Int) ≤ (((Bs.flat b).drop at_).length : Int) := Int.ofNat_le.mpr hm2
        refine Ev.congr (fun k => by rw [if_pos rfl, if_pos ho8, if_pos (Int.natCast_nonneg m), if_pos hm2', Int.toNat_natCast, wj]) h2
    · have g1 : Ev (fun k => A1u.f k kind n t d v e xp (xl : Int) (xn : Int) b (at_ : Int)) (T, V, n', t', d', v', e', xp', al, an, len, some c) := by
        have h := g1
        unfold gimp8 at h
        rw [if_neg c0] at h
        exact h
      have g2 : Ev (fun k => A0f.f k kind n t d v e xp (xl : Int) (xn : Int) ((Bs.flat b).drop at_)) (T, V, n', t', d', v', e', xp', al, an, len, c) := g2
      refine ⟨out, c, ?_, ?_, kc, by omega, fun h => absurd h c0⟩
      · refine Ev.step (fun k => by rw [A1b.l0, if_pos hlt]) (Ev.bind g1 ?_)
        rw [if_neg c0]
        exact Ev.congr (fun k => if_neg Bool.false_ne_true) (Ev.now (out, some c))
      · refine Ev.step (fun k => by rw [A01.l0, if_pos hlt]) (Ev.bind g2 ?_)
        exact Ev.congr (fun k => if_neg c0) (Ev.now (out, c))
theorem Decode_is (kind : Int) (b : List Int) (hb : Bs.Bytes b) (hl : b.length ≤ 1000000) (n : Int) :
    ∃ (M : List S42) (c : Int), Ev (fun k => A1b.f k kind b n) (M, if c = 0 then none else some c) ∧ Ev (fun k => A01.f k kind b n) (M, c) ∧ (c = 0 ∨ c = 1 ∨ c = 2 ∨ c = 3 ∨ c = 4 ∨ c = 6) ∧ M.length ≤ 65535 ∧ (c = 0 → 1 ≤ M.length) := by
  have hno : ∀ x, x = true → (Ev (fun k => A1b.j0 k kind b n x) (([] : List S42), some 1) ∧ Ev (fun k => A01.j0 k kind b n x) (([] : List S42), 1)) := by
    intro x hx
    subst hx
    exact ⟨Ev.step (fun k => by rw [A1b.j0, if_pos rfl]) (Ev.now _), Ev.step (fun k => by rw [A01.j0, if_pos rfl]) (Ev.now _)⟩
  unfold A1b.f A01.f
  by_cases c1 : n < 1
  · simp only [if_pos c1]
    obtain ⟨h1, h2⟩ := hno true rfl
    exact ⟨[], 1, h1, h2, .inr (.inl rfl), by decide, fun h => absurd h (by decide)⟩
  simp only [if_neg c1]
  by_cases c2 : n > 65535
  · obtain ⟨h1, h2⟩ := hno _ (decide_eq_true c2)
    exact ⟨[], 1, h1, h2, .inr (.inl rfl), by decide, fun h => absurd h (by decide)⟩
  rw [decide_eq_false c2]
  obtain ⟨nn, rfl⟩ : ∃ m : Nat, n = (m : Int) := ⟨n.toNat, by omega⟩
  have hz : Ok ((0 : Nat) : Int) (0, 0, 0, 0, 0, 0, ((0 : Nat) : Int), ((0 : Nat) : Int)) := ok_zero 0 (Int.le_refl _)
  obtain ⟨M, c, h1, h2, h3, h4, h5⟩ := slow_l0 kind b hb hl nn (by omega) nn 0 0 [] 0 0 0 0 0 0 0 0 (by omega) rfl (Nat.zero_le _) hz
  have hf := PBits.Flat_is b hb (by omega)
  rw [List.drop_zero] at h2
  refine ⟨M, c, Ev.step (fun k => by rw [A1b.j0, if_neg Bool.false_ne_true]; rfl) h1, Ev.step (fun k => by rw [A01.j0, if_neg Bool.false_ne_true]) (Ev.bind hf h2), ?_, by omega, fun h => by have := h5 h; omega⟩
  rcases h3 with h | h | h | h | h
  · exact .inl h
  · exact .inr (.inr (.inl h))
  · exact .inr (.inr (.inr (.inl h)))
  · exact .inr (.inr (.inr (.inr (.inl h))))
  · exact .inr (.inr (.inr (.inr (.inr h))))
end Go.Proofs.YtodocfjbpkicgaaDoor.PSlow
end
section
namespace Go.Proofs.YtodocfjbpkicgaaDoor.PUvar
open Go Go.RowKit Go.Proofs.YtodocfjbpkicgaaDoor Go.Proofs.YtodocfjbpkicgaaDoor.All Go.Zw Go.Zl
theorem w64 (n : Int) (h : -9223372036854775808 ≤ n ∧ n < 9223372036854775808) : wrap64 n = n := by unfold wrap64; omega
theorem A3z (i : Nat) (h : i < 140737488355328) : wrap64 ((i : Int) + 1) = ((i + 1 : Nat) : Int) := by rw [w64 _ (by omega)]; omega
theorem pow_pos (n : Nat) : (0 : Int) < 128 ^ n := Int.pow_pos (by decide)
theorem pow_le {i n : Nat} (h : i ≤ n) : (128 : Int) ^ i ≤ 128 ^ n := by
 rw [show n = i + (n - i) from by omega, Int.pow_add]
 have h1 := pow_pos i; have h2 := pow_pos (n - i)
 have := Int.mul_le_mul_of_nonneg_left (show (1 : Int) ≤ 128 ^ (n - i) by omega) (Int.le_of_lt h1)
 omega
theorem pow_9 {n : Nat} (h : n ≤ 9) : (128 : Int) ^ n ≤ 9223372036854775808 := by
 have := pow_le h
 rwa [show (128 : Int) ^ 9 = 9223372036854775808 from by decide] at this
def uvd : Nat → Int → List Int
 | 0, v => [v]
 | f + 1, v => if v ≥ 128 then (v % 128 + 128) :: uvd f (v / 128) else [v]
def uv (v : Int) : List Int := uvd 9 v
theorem or_128 (c : Int) (hc : 0 ≤ c ∧ c < 256) : Go.bits .or .u8 c 128 = c % 128 + 128 := by
 have h : ∀ c : Fin 256, Go.bits .or .u8 ((c.val : Nat) : Int) 128 = ((c.val : Nat) : Int) % 128 + 128 := by decide +kernel
 have := h ⟨c.toNat, by omega⟩
 rw [show ((c.toNat : Nat) : Int) = c from by omega] at this
 exact this
theorem and_127 (c : Int) (hc : 0 ≤ c ∧ c < 256) : Go.bits .and .u8 c 127 = c % 128 := by
 have h : ∀ c : Fin 256, Go.bits .and .u8 ((c.val : Nat) : Int) 127 = ((c.val : Nat) : Int) % 128 := by decide +kernel
 have := h ⟨c.toNat, by omega⟩
 rw [show ((c.toNat : Nat) : Int) = c from by omega] at this
 exact this
def val (ys : List Int) : Nat → Int
 | 0 => 0
 | n + 1 => val ys n + rd ys (n : Int) % 128 * 128 ^ n
structure Top (ys : List Int) (n : Nat) : Prop where
 ten : n ≤ 10
 len : n ≤ ys.length
 big : ∀ j, j < n → 128 ≤ rd ys (j : Int)
 stop : n = 10 ∨ n = ys.length ∨ rd ys (n : Int) < 128
theorem top_is (ys : List Int) : ∀ (d i : Nat), i + d = 10 → i ≤ ys.length → (∀ j, j < i → 128 ≤ rd ys (j : Int)) → ∃ n, Top ys n := by
 intro d
 induction d with
 | zero => intro i hi hl h; exact ⟨i, by omega, hl, h, .inl (by omega)⟩
 | succ d ih =>
  intro i hi hl h
  by_cases c : i = ys.length
  ·exact ⟨i, by omega, hl, h, .inr (.inl c)⟩
  by_cases c2 : rd ys (i : Int) < 128
  ·exact ⟨i, by omega, hl, h, .inr (.inr c2)⟩
  ·refine ih (i + 1) (by omega) (by omega) (fun j hj => ?_)
   by_cases e : j = i
   ·rw [e]; omega
   ·exact h j (by omega)
theorem top (ys : List Int) : ∃ n, Top ys n := top_is ys 10 0 (by omega) (by omega) (fun j hj => by omega)
theorem rd_byte {ys : List Int} (hy : Bs.Bytes ys) (i : Nat) : 0 ≤ rd ys (i : Int) ∧ rd ys (i : Int) < 256 := by
 unfold rd
 rw [Int.toNat_natCast, List.getD_eq_getElem?_getD]
 by_cases h : i < ys.length
 ·rw [List.getElem?_eq_getElem h]; exact hy _ (List.getElem_mem h)
 ·rw [List.getElem?_eq_none (by omega)]; decide
theorem val_range {ys : List Int} (hy : Bs.Bytes ys) : ∀ n, 0 ≤ val ys n ∧ val ys n < 128 ^ n := by
 intro n
 induction n with
 | zero => exact ⟨by simp [val], by simp [val]⟩
 | succ n ih =>
  have hc := rd_byte hy n
  have hp := pow_pos n
  have h1 : 0 ≤ rd ys (n : Int) % 128 ∧ rd ys (n : Int) % 128 ≤ 127 := by omega
  have h2 := Int.mul_nonneg h1.1 (Int.le_of_lt hp)
  have h3 := Int.mul_le_mul_of_nonneg_right h1.2 (Int.le_of_lt hp)
  simp only [val]
  rw [Int.pow_succ]
  omega
theorem step_is (v c : Int) (i : Nat) (hi : i ≤ 9) (hv : 0 ≤ v ∧ v < 128 ^ i) (hc : 0 ≤ c ∧ c < 256) (h9 : i = 9 → c ≤ 1) :
    Go.bits .or .u64 v (shl .u64 (IntKind.u64.wrap (Go.bits .and .u8 c 127)) (wrap64 (7 * (i : Int)))) = v + c % 128 * 128 ^ i := by
  have hp := pow_pos i
  have h9' := pow_9 hi
  have h1 : 0 ≤ c % 128 ∧ c % 128 ≤ 127 := by omega
  have h2 := Int.mul_nonneg h1.1 (Int.le_of_lt hp)
  have h3 : c % 128 * 128 ^ i ≤ 9223372036854775808 := by
    by_cases e : i = 9
    · have h4 := Int.mul_le_mul_of_nonneg_right (show c % 128 ≤ 1 by have := h9 e; omega) (Int.le_of_lt hp)
      omega
    · have h4 := Int.mul_le_mul_of_nonneg_right h1.2 (Int.le_of_lt hp)
      have h5 := pow_le (show i ≤ 8 by omega)
      rw [show (128 : Int) ^ 8 = 72057594037927936 from by decide] at h5
      omega
  rw [and_127 c hc, Ib.wrap_u64, show c % 128 % 18446744073709551616 = c % 128 from by omega, w64 _ (by omega)]
  have h6 : shl .u64 (c % 128) (7 * (i : Int)) = c % 128 * 128 ^ i := by
    unfold shl
    rw [show (7 * (i : Int)).toNat = 7 * i from by omega, show IntKind.u64.bits = 64 from rfl, Nat.min_eq_left (by omega), Int.pow_mul, show (2 : Int) ^ 7 = 128 from by decide, Ib.wrap_u64]
    exact Int.emod_eq_of_lt h2 (by omega)
  rw [h6, Ib.or_u64 _ _ (by omega) (by omega)]
  obtain ⟨a, ha⟩ := Int.eq_ofNat_of_zero_le h1.1
  obtain ⟨b, rfl⟩ := Int.eq_ofNat_of_zero_le hv.1
  rw [ha]
  have h7 : ((a : Int) * 128 ^ i) = ((2 ^ (7 * i) * a : Nat) : Int) := by
    push_cast
    rw [Int.pow_mul, show (2 : Int) ^ 7 = 128 from by decide, Int.mul_comm]
  have h8 : b < 2 ^ (7 * i) := by
    have := hv.2
    rw [show (128 : Int) ^ i = ((2 ^ (7 * i) : Nat) : Int) from by push_cast; rw [Int.pow_mul]; rfl] at this
    exact Int.ofNat_lt.1 this
  rw [h7, Int.toNat_natCast, Int.toNat_natCast, Nat.or_comm, ← Nat.two_pow_add_eq_or_of_lt h8]
  push_cast
  omega
def A24 (ys : List Int) (n : Nat) : Int × Int × Int :=
 if n = ys.length ∧ n < 10 then (0, 0, 2)
 else if n = 10 ∨ (n = 9 ∧ rd ys 9 > 1) then (0, 0, 3)
 else if 0 < n ∧ rd ys (n : Int) = 0 then (0, 0, 3)
 else (val ys (n + 1), ((n + 1 : Nat) : Int), 0)
def er (c : Int) : Option Int := if c = 0 then none else some c
def gimp (g : Int × Int × Int) : Int × Int × Option Int := (g.1, g.2.1, er g.2.2)
theorem Get_l0 (ys : List Int) (hy : Bs.Bytes ys) (hl : ys.length < 140737488355328) (n : Nat) (hT : Top ys n) : ∀ (d i : Nat), i + d = n → i ≤ 9 →
    Ev (fun k => A1p.l0 k (val ys i) ys (ys.length : Int) (i : Int)) (gimp (A24 ys n)) := by
  intro d
  induction d with
  | zero =>
    intro i hi h9
    obtain rfl : i = n := by omega
    have hc := rd_byte hy i
    have hv := val_range hy i
    have hst := hT.stop
    have hln := hT.len
    by_cases c1 : i = ys.length
    · have hno : ¬ ((i : Int) < (ys.length : Int)) := by omega
      refine Ev.step (fun k => by rw [A1p.l0]) ?_
      simp only [if_neg hno]
      rw [A24, if_pos ⟨c1, by omega⟩]
      exact Ev.now _
    have hin : (i : Int) < (ys.length : Int) := by omega
    have hsm : rd ys (i : Int) < 128 := by omega
    have h7 : 0 ≤ wrap64 (7 * (i : Int)) := by rw [w64 _ (by omega)]; omega
    have hws := A3z i (by omega)
    have key : (i = 9 → rd ys (i : Int) ≤ 1) → Ev (fun k => A1p.j2 k (val ys i) (i : Int) (rd ys (i : Int)) ys (ys.length : Int) (i : Int) false) (gimp (A24 ys i)) := by
      intro h1
      have hs := step_is (val ys i) _ i h9 hv hc h1
      have hg : A24 ys i = if 0 < i ∧ rd ys (i : Int) = 0 then (0, 0, 3) else (val ys (i + 1), ((i + 1 : Nat) : Int), 0) := by
        rw [A24, if_neg (by omega), if_neg]
        rintro (h | ⟨h, h'⟩)
        · omega
        · subst h
          have := h1 rfl
          exact absurd h' (by have e : rd ys ((9 : Nat) : Int) = rd ys 9 := rfl; omega)
      rw [hg]
      refine Ev.step (fun k => by rw [A1p.j2]) ?_
      simp only [Bool.false_eq_true, if_false, if_pos h7, if_pos hsm, hs, hws]
      by_cases c2 : (i : Int) > 0
      · have c2' : 0 < i := by omega
        simp only [if_pos c2]
        by_cases c3 : rd ys (i : Int) = 0
        · simp only [if_pos c3]
          rw [if_pos ⟨c2', c3⟩]
          exact Ev.now _
        · simp only [if_neg c3]
          rw [if_neg (fun h => c3 h.2)]
          exact Ev.now _
      · simp only [if_neg c2]
        rw [if_neg (fun h => c2 (by omega))]
        exact Ev.now _
    refine Ev.step (fun k => by rw [A1p.l0]) ?_
    simp only [if_pos hin, if_pos (Int.natCast_nonneg i)]
    by_cases c2 : (i : Int) = 9
    · have c2' : i = 9 := by omega
      simp only [if_pos c2]
      by_cases c3 : rd ys (i : Int) > 1
      · rw [decide_eq_true c3]
        refine Ev.step (fun k => by rw [A1p.j2]) ?_
        simp only [if_true]
        rw [A24, if_neg (by omega), if_pos (.inr ⟨c2', by rw [c2] at c3; exact c3⟩)]
        exact Ev.now _
      · rw [decide_eq_false c3]
        exact key (fun _ => by omega)
    · simp only [if_neg c2]
      exact key (fun h => absurd h (by omega))
  | succ d ih =>
    intro i hi h9
    have hc := rd_byte hy i
    have hv := val_range hy i
    have hln := hT.len
    have hten := hT.ten
    have hbg := hT.big i (by omega)
    have hin : (i : Int) < (ys.length : Int) := by omega
    have h7 : 0 ≤ wrap64 (7 * (i : Int)) := by rw [w64 _ (by omega)]; omega
    have hsm : ¬ rd ys (i : Int) < 128 := by omega
    have hws := A3z i (by omega)
    refine Ev.step (fun k => by rw [A1p.l0]) ?_
    simp only [if_pos hin, if_pos (Int.natCast_nonneg i)]
    by_cases c2 : (i : Int) = 9
    · have c3 : rd ys (i : Int) > 1 := by omega
      simp only [if_pos c2]
      rw [decide_eq_true c3]
      refine Ev.step (fun k => by rw [A1p.j2]) ?_
      simp only [if_true]
      rw [A24, if_neg (by omega), if_pos (.inl (by omega))]
      exact Ev.now _
    · have hid : i + 1 + d = n := by omega
      have hi9 : i + 1 ≤ 9 := by omega
      have hs := step_is (val ys i) _ i h9 hv hc (fun h => absurd h (by omega))
      have hih := ih (i + 1) hid hi9
      simp only [if_neg c2]
      refine Ev.step (fun k => by rw [A1p.j2]) ?_
      simp only [Bool.false_eq_true, if_false, if_pos h7, if_neg hsm, hs, hws]
      exact hih
theorem Get_is (xs : List Int) (hx : Bs.Bytes xs) (hl : xs.length < 140737488355328) (a : Int) : 
    Ev (fun k => A1p.f k xs a) (if a < 0 ∨ a > (xs.length : Int) then (0, 0, some 2) else gimp (A24 (xs.drop a.toNat) (Classical.choose (top (xs.drop a.toNat))))) := by
  unfold A1p.f
  by_cases c1 : a < 0
  · simp only [if_pos c1]
    rw [if_pos (.inl c1)]
    exact Ev.step (fun k => by rw [A1p.j0]) (by simp only [if_true]; exact Ev.now _)
  by_cases c2 : a > (xs.length : Int)
  · simp only [if_neg c1]
    rw [if_pos (.inr c2), decide_eq_true c2]
    exact Ev.step (fun k => by rw [A1p.j0]) (by simp only [if_true]; exact Ev.now _)
  rw [if_neg (by omega), decide_eq_false c2]
  simp only [if_neg c1]
  have h0 : 0 ≤ a := by omega
  have h1 : a ≤ (xs.length : Int) := by omega
  refine Ev.step (fun k => by rw [A1p.j0]) ?_
  simp only [Bool.false_eq_true, if_false, if_pos h0, if_pos h1]
  exact Get_l0 _ (hx.drop _) (by rw [List.length_drop]; omega) _ (Classical.choose_spec (top (xs.drop a.toNat))) _ 0 (Nat.zero_add _) (by omega)
theorem RGet_l1 (ys : List Int) (hy : Bs.Bytes ys) (n : Nat) (hn : n ≤ 9) (hlen : n < ys.length) (hV : val ys (n + 1) < 18446744073709551616) : ∀ (j : Nat) (w : Int), j ≤ n + 1 → 0 ≤ w → w * 128 ^ j + val ys j = val ys (n + 1) →
    Ev (fun k => A0g.l1 k ys (n : Int) w ((j : Int) - 1)) (val ys (n + 1), ((n + 1 : Nat) : Int), 0) := by
  intro j
  induction j with
  | zero =>
    intro w hj h0 hw
    have hws := A3z n (by omega)
    have hno : ¬ (((0 : Nat) : Int) - 1 ≥ 0) := by omega
    refine Ev.step (fun k => by rw [A0g.l1]) ?_
    simp only [if_neg hno, hws]
    rw [show w = val ys (n + 1) from by simp [val] at hw; exact hw]
    exact Ev.now _
  | succ j ih =>
    intro w hj h0 hw
    have hc := rd_byte hy j
    have hp := pow_pos j
    have e1 : ((j + 1 : Nat) : Int) - 1 = (j : Int) := by omega
    have e2 : wrap64 ((j : Int) - 1) = (j : Int) - 1 := w64 _ (by omega)
    have hin : (j : Int) < (ys.length : Int) := by omega
    have hge : (j : Int) ≥ 0 := Int.natCast_nonneg j
    have hm : 0 ≤ rd ys (j : Int) % 128 := by omega
    have hw' : (128 * w + rd ys (j : Int) % 128) * 128 ^ j + val ys j = val ys (n + 1) := by
      rw [← hw]
      simp only [val]
      rw [Int.pow_succ, Int.add_mul, Int.mul_comm 128 w, Int.mul_assoc w 128, Int.mul_comm 128 (128 ^ j)]
      omega
    have hvr := val_range hy j
    have hq0 : 0 ≤ 128 * w + rd ys (j : Int) % 128 := by omega
    have hq : 128 * w + rd ys (j : Int) % 128 < 18446744073709551616 := by
      have := Int.mul_le_mul_of_nonneg_left (show (1 : Int) ≤ 128 ^ j by omega) hq0
      omega
    have hih := ih (128 * w + rd ys (j : Int) % 128) (by omega) hq0 hw'
    refine Ev.step (fun k => by rw [A0g.l1]) ?_
    simp only [e1, if_pos hge, if_pos hin, e2]
    rw [Int.tmod_eq_emod_of_nonneg hc.1, Ib.wrap_u64, Ib.wrap_u64, Ib.wrap_u64]
    rw [show (128 * w % 18446744073709551616 + rd ys (j : Int) % 128 % 18446744073709551616) % 18446744073709551616 = 128 * w + rd ys (j : Int) % 128 from by omega]
    exact hih
theorem val_small {ys : List Int} (hy : Bs.Bytes ys) (n : Nat) (hn : n ≤ 9) (h : n = 9 → rd ys 9 ≤ 1) : val ys (n + 1) < 18446744073709551616 := by
 by_cases e : n = 9
 ·subst e
  have h1 := (val_range hy 9).2
  have h2 := h rfl
  have h3 := rd_byte hy 9
  have h4 : rd ys ((9 : Nat) : Int) = rd ys 9 := rfl
  simp only [val] at h1 ⊢
  rw [show (128 : Int) ^ 9 = 9223372036854775808 from by decide] at h1 ⊢
  rw [h4] at h3 ⊢
  omega
 ·have h1 := (val_range hy (n + 1)).2
  have h2 := pow_9 (show n + 1 ≤ 9 by omega)
  omega
theorem RGet_j2 (ys : List Int) (hy : Bs.Bytes ys) (hl : ys.length < 140737488355328) (n : Nat) (hT : Top ys n) : Ev (fun k => A0g.j2 k ys (n : Int)) (A24 ys n) := by
 have hst := hT.stop
 have hln := hT.len
 have hten := hT.ten
 have r9 : rd ys ((9 : Nat) : Int) = rd ys 9 := rfl
 have hc9 := rd_byte hy 9
 rw [r9] at hc9
 have k4 : n ≤ 9 → n < ys.length → (n = 9 → rd ys 9 ≤ 1) → Ev (fun k => A0g.j4 k ys (n : Int)) (A24 ys n) := by
  intro h9 hlt h1
  have hV := val_small hy n h9 h1
  have hg : A24 ys n = if 0 < n ∧ rd ys (n : Int) = 0 then (0, 0, 3) else (val ys (n + 1), ((n + 1 : Nat) : Int), 0) := by
   rw [A24, if_neg (by omega), if_neg]
   rintro (h | ⟨h, h'⟩)
   ·omega
   ·have := h1 h; omega
  rw [hg]
  have hend : Ev (fun k => A0g.j5 k ys (n : Int) false) (val ys (n + 1), ((n + 1 : Nat) : Int), 0) := by
   have := RGet_l1 ys hy n h9 hlt hV (n + 1) 0 (Nat.le_refl _) (by omega) (by rw [Int.zero_mul, Int.zero_add])
   rw [show ((n + 1 : Nat) : Int) - 1 = (n : Int) from by omega] at this
   refine Ev.step (fun k => by rw [A0g.j5]) ?_
   simp only [Bool.false_eq_true, if_false]
   exact this
  refine Ev.step (fun k => by rw [A0g.j4]) ?_
  have hin : (n : Int) < (ys.length : Int) := by omega
  by_cases c : (n : Int) > 0
  ·have c' : 0 < n := by omega
   simp only [if_pos c, if_pos (Int.natCast_nonneg n), if_pos hin]
   by_cases c3 : rd ys (n : Int) = 0
   ·rw [if_pos ⟨c', c3⟩, show (rd ys (n : Int) == 0) = true from beq_iff_eq.2 c3]
    refine Ev.step (fun k => by rw [A0g.j5]) ?_
    simp only [if_true]
    exact Ev.now _
   ·rw [if_neg (fun h => c3 h.2), show (rd ys (n : Int) == 0) = false from beq_eq_false_iff_ne.2 c3]
    exact hend
  ·simp only [if_neg c]
   rw [if_neg (fun h => c (by omega))]
   exact hend
 have k3 : ¬ (n < 9 ∧ n = ys.length) → Ev (fun k => A0g.j3 k ys (n : Int) false) (A24 ys n) := by
  intro hno
  refine Ev.step (fun k => by rw [A0g.j3]) ?_
  simp only [Bool.false_eq_true, if_false]
  by_cases c : (n : Int) ≥ 9
  ·simp only [if_pos c]
   by_cases c2 : (ys.length : Int) < 10
   ·simp only [if_pos c2]
    rw [A24, if_pos (by omega)]
    exact Ev.now _
   ·have c3 : (9 : Int) < (ys.length : Int) := by omega
    simp only [if_neg c2, if_pos c3]
    by_cases c4 : rd ys 9 > 1
    ·simp only [if_pos c4]
     rw [A24, if_neg (by omega), if_pos]
     ·exact Ev.now _
     ·by_cases e : n = 10
      ·exact .inl e
      ·exact .inr ⟨by omega, c4⟩
    ·simp only [if_neg c4]
     have hn10 : n ≠ 10 := by
      intro e
      have := hT.big 9 (by omega)
      omega
     exact k4 (by omega) (by omega) (fun _ => by omega)
  ·simp only [if_neg c]
   exact k4 (by omega) (by omega) (fun h => absurd h (by omega))
 refine Ev.step (fun k => by rw [A0g.j2]) ?_
 by_cases c : (n : Int) < 9
 ·simp only [if_pos c]
  by_cases c2 : n = ys.length
  ·rw [show ((n : Int) == (ys.length : Int)) = true from beq_iff_eq.2 (by omega)]
   refine Ev.step (fun k => by rw [A0g.j3]) ?_
   simp only [if_true]
   rw [A24, if_pos (by omega)]
   exact Ev.now _
  ·rw [show ((n : Int) == (ys.length : Int)) = false from beq_eq_false_iff_ne.2 (by omega)]
   exact k3 (by omega)
 ·simp only [if_neg c]
  exact k3 (by omega)
theorem RGet_l0 (ys : List Int) (hy : Bs.Bytes ys) (hl : ys.length < 140737488355328) (n : Nat) (hT : Top ys n) : ∀ (d i : Nat), i + d = n → Ev (fun k => A0g.l0 k ys (i : Int)) (A24 ys n) := by
 have hst := hT.stop
 have hln := hT.len
 have hten := hT.ten
 intro d
 induction d with
 | zero =>
  intro i hi
  obtain rfl : i = n := by omega
  have hj := RGet_j2 ys hy hl i hT
  refine Ev.step (fun k => by rw [A0g.l0]) ?_
  by_cases c1 : (i : Int) < (ys.length : Int)
  ·simp only [if_pos c1]
   by_cases c2 : (i : Int) < 10
   ·have c3 : ¬ rd ys (i : Int) ≥ 128 := by omega
    simp only [if_pos c2, if_pos (Int.natCast_nonneg i), if_neg c3]
    exact hj
   ·simp only [if_neg c2]
    exact hj
  ·simp only [if_neg c1]
   exact hj
 | succ d ih =>
  intro i hi
  have hbg := hT.big i (by omega)
  have c1 : (i : Int) < (ys.length : Int) := by omega
  have c2 : (i : Int) < 10 := by omega
  have c3 : rd ys (i : Int) ≥ 128 := hbg
  have hws := A3z i (by omega)
  have hih := ih (i + 1) (by omega)
  refine Ev.step (fun k => by rw [A0g.l0]) ?_
  simp only [if_pos c1, if_pos c2, if_pos (Int.natCast_nonneg i), if_pos c3, hws]
  exact hih
theorem RGet_is (xs : List Int) (hx : Bs.Bytes xs) (hl : xs.length < 140737488355328) (a : Int) : 
    Ev (fun k => A0g.f k xs a) (if a < 0 ∨ a > (xs.length : Int) then (0, 0, 2) else A24 (xs.drop a.toNat) (Classical.choose (top (xs.drop a.toNat)))) := by
  unfold A0g.f
  by_cases c1 : a < 0
  · simp only [if_pos c1]
    rw [if_pos (.inl c1)]
    exact Ev.step (fun k => by rw [A0g.j0]) (by simp only [if_true]; exact Ev.now _)
  by_cases c2 : a > (xs.length : Int)
  · simp only [if_neg c1]
    rw [if_pos (.inr c2), decide_eq_true c2]
    exact Ev.step (fun k => by rw [A0g.j0]) (by simp only [if_true]; exact Ev.now _)
  rw [if_neg (by omega), decide_eq_false c2]
  simp only [if_neg c1]
  have h0 : 0 ≤ a := by omega
  have h1 : a ≤ (xs.length : Int) := by omega
  refine Ev.step (fun k => by rw [A0g.j0]) ?_
  simp only [Bool.false_eq_true, if_false, if_pos h0, if_pos h1]
  exact RGet_l0 _ (hx.drop _) (by rw [List.length_drop]; omega) _ (Classical.choose_spec (top (xs.drop a.toNat))) _ 0 (Nat.zero_add _)
end Go.Proofs.YtodocfjbpkicgaaDoor.PUvar
end
