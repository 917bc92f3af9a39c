-- copied by a program of the session
import Derived.Test.YtiahbcaoikoogabDoorKqAllx13
import Derived.Test.YtiahbcaoikoogabDoorKqPXorRef
section
namespace Go.Proofs.YtiahbcaoikoogabDoor.PKinds
open Go Go.RowKit Go.Proofs.YtiahbcaoikoogabDoor Go.Proofs.YtiahbcaoikoogabDoor.All Go.Proofs.YtiahbcaoikoogabDoorW.PrintWords Go.Proofs.YtiahbcaoikoogabDoorW.PrintLast
set_option linter.unusedVariables false
set_option linter.unusedSimpArgs false
def z8 : S8 := (0, 0, 0, 0, 0, 0, 0, 0)
def dt (t d T : Int) : Int := wrap64 (wrap64 (T - t) - d)
def dv (v e V : Int) : Int := wrap64 (IntKind.u64.wrap (IntKind.u64.wrap (V - v) - e))
abbrev dx (V xp : Int) : Int := Go.bits .xor .u64 V xp
def kp (kind n t d v e xp : Int) (xl xn : Nat) (T V : Int) : List Int × S8 × Int :=
 if ¬ (kind = 1 ∨ kind = 2) then ([], z8, 6)
 else if n = 0 then (Bs.low (IntKind.u64.wrap T) 64 ++ Bs.low V 64, aft kind n t d v e xp xl xn T V 0 0 0, 0)
 else if T ≤ t then ([], z8, 4)
 else if kind = 2 then (PDod.dodL (dt t d T) ++ PDod.dodL (dv v e V), aft kind n t d v e xp xl xn T V 0 0 0, 0)
 else (PDod.dodL (dt t d T) ++ PXor.cb xl xn (dx V xp), aft kind n t d v e xp xl xn T V V (PXor.cl xl xn (dx V xp)) (PXor.cn xl xn (dx V xp)), 0)
def pimp (r : List Int × S8 × Int) : List Int × Int × Int × Int × Int × Int × Int × Int × Int × Int × Option Int :=
 (Bs.pack r.1, (r.1.length : Int), r.2.1.1, r.2.1.2.1, r.2.1.2.2.1, r.2.1.2.2.2.1, r.2.1.2.2.2.2.1, r.2.1.2.2.2.2.2.1, r.2.1.2.2.2.2.2.2.1, r.2.1.2.2.2.2.2.2.2, if r.2.2 = 0 then none else some r.2.2)
theorem pimp_none (c : Int) : pimp ([], z8, c) = (([] : List Int), 0, 0, 0, 0, 0, 0, 0, 0, 0, if c = 0 then none else some c) := by
 simp only [pimp, z8, Bs.pack_nil, List.length_nil]
 rfl
theorem known_is (kind : Int) : kinds_known.f kind = some (decide (kind = 1 ∨ kind = 2)) := by
 unfold kinds_known.f
 by_cases c1 : kind = 1
 ·rw [if_pos c1, decide_eq_true (.inl c1)]
 ·rw [if_neg c1]
  by_cases c2 : kind = 2
  ·rw [beq_iff_eq.mpr c2, decide_eq_true (.inr c2)]
  ·rw [beq_eq_false_iff_ne.mpr c2, decide_eq_false (fun h => h.elim c1 c2)]
theorem dodL_len (v : Int) : (PDod.dodL v).length ≤ 68 := by
 have h1 := PDod.dodL_length v
 have h2 := PDod.size_le (PDod.ones v)
 omega
theorem jn (l m : List Int) (hl : Bs.Bits l) (hm : Bs.Bits m) (h : l.length + m.length ≤ 1000) : Ev (fun k => A3z.f k (Bs.pack l) (l.length : Int) (Bs.pack m) (m.length : Int)) (Bs.pack (l ++ m), ((l ++ m).length : Int)) := by
 have := PBits.Join_is l m hl hm (by omega)
 rw [← List.length_append] at this
 exact this
theorem u64_range (T : Int) : 0 ≤ IntKind.u64.wrap T ∧ IntKind.u64.wrap T < 18446744073709551616 := by rw [Ib.wrap_u64]; omega
theorem Put_is (kind n t d v e xp : Int) (xl xn : Nat) (T V : Int) (hn : 0 ≤ n) (hV : 0 ≤ V ∧ V < 18446744073709551616) (hp : 0 ≤ xp ∧ xp < 18446744073709551616) (hx : xl + xn ≤ 64) :
    Ev (fun k => kinds_Put.f k kind n t d v e xp (xl : Int) (xn : Int) T V) (pimp (kp kind n t d v e xp xl xn T V)) := by
  unfold kinds_Put.f kp
  rw [known_is]
  simp only [Option.bind_some]
  by_cases c1 : kind = 1 ∨ kind = 2
  · have c1n : ¬ ¬ (kind = 1 ∨ kind = 2) := fun h => h c1
    rw [decide_eq_true c1, if_neg c1n]
    simp only [if_true]
    by_cases c2 : n = 0
    · have e1 := PXor.putk0 (IntKind.u64.wrap T) (u64_range T) 64 (Nat.le_refl _) (n := 64) rfl
      have e2 := PXor.putk (Bs.low (IntKind.u64.wrap T) 64) (Bs.low_bits _ _) (by rw [Bs.A1a]; decide) V hV 64 (Nat.le_refl _) (n := 64) rfl
      have e3 := After_is kind n t d v e xp xl xn T V 0 0 0 hn
      simp only [if_pos c2]
      refine Ev.bind e1 (Ev.bind e2 (Ev.bind e3 ?_))
      exact Ev.now _
    simp only [if_neg c2]
    by_cases c3 : T ≤ t
    · simp only [if_pos c3]
      rw [pimp_none]
      exact Ev.now _
    simp only [if_neg c3]
    have e1 := PDod.Code_is (dt t d T)
    have b1 := PDod.dodL_bits (dt t d T)
    have n1 := dodL_len (dt t d T)
    refine Ev.bind e1 ?_
    by_cases c4 : kind = 2
    · have e2 := PDod.Code_is (dv v e V)
      have e3 := jn _ _ b1 (PDod.dodL_bits (dv v e V)) (by have := dodL_len (dv v e V); omega)
      have e4 := After_is kind n t d v e xp xl xn T V 0 0 0 hn
      simp only [if_pos c4]
      refine Ev.bind e2 (Ev.bind e3 (Ev.bind e4 ?_))
      exact Ev.now _
    · have e2 := PXor.Code_is xp V xl xn hp hV hx (d := dx V xp) rfl
      have hr := PXor.xor_range V xp hV hp
      have hc := PXor.cb_short xl xn (dx V xp) hx hr.1 hr.2
      have e3 := jn _ _ b1 (PXor.cb_bits xl xn (dx V xp)) (by omega)
      have e4 := After_is kind n t d v e xp xl xn T V V (PXor.cl xl xn (dx V xp)) (PXor.cn xl xn (dx V xp)) hn
      simp only [if_neg c4]
      refine Ev.bind e2 (Ev.bind e3 (Ev.bind e4 ?_))
      exact Ev.now _
  · rw [decide_eq_false c1, if_pos c1, pimp_none]
    exact Ev.congr (fun k => if_neg Bool.false_ne_true) (Ev.now _)
end Go.Proofs.YtiahbcaoikoogabDoor.PKinds
end
section
namespace Go.Proofs.YtiahbcaoikoogabDoor.PXor
open Go Go.RowKit Go.Proofs.YtiahbcaoikoogabDoor Go.Proofs.YtiahbcaoikoogabDoor.All Go.Proofs.YtiahbcaoikoogabDoorW.PrintWords Go.Proofs.YtiahbcaoikoogabDoorW.PrintLast
set_option linter.unusedVariables false
set_option linter.unusedSimpArgs false
theorem byte_inj {x y : Int} (hx : x = 0 ∨ x = 1) (hy : y = 0 ∨ y = 1) (h : UInt8.ofNat x.toNat = UInt8.ofNat y.toNat) : x = y := by
 rcases hx with rfl | rfl <;> rcases hy with rfl | rfl <;> first | rfl | exact absurd h (by decide)
theorem strs_inj : ∀ {a b : List Int}, Bs.Bits a → Bs.Bits b → (strOfNums a).toList = (strOfNums b).toList → a = b := by
 intro a
 induction a with
 | nil =>
  intro b ha hb h
  rw [Lib.strOfNums_toList, Lib.strOfNums_toList] at h
  cases b with
  | nil => rfl
  | cons y b => exact absurd h (by simp [Lib.bytesOf])
 | cons x a ih =>
  intro b ha hb h
  cases b with
  | nil => rw [Lib.strOfNums_toList, Lib.strOfNums_toList] at h; exact absurd h (by simp [Lib.bytesOf])
  | cons y b =>
   have h2 := h
   rw [Lib.strOfNums_toList, Lib.strOfNums_toList] at h2
   simp only [Lib.bytesOf, List.map_cons, List.cons.injEq] at h2
   have e1 : x = y := byte_inj (ha x (by simp)) (hb y (by simp)) h2.1
   have e2 := ih (b := b) (fun z hz => ha z (by simp [hz])) (fun z hz => hb z (by simp [hz])) (by rw [Lib.strOfNums_toList, Lib.strOfNums_toList]; exact h2.2)
   rw [e1, e2]
theorem zeros_bits (n : Nat) : Bs.Bits (List.replicate n (0 : Int)) := fun x hx => .inl (List.eq_of_mem_replicate hx)
theorem zeros_num (n : Nat) : Bs.number (List.replicate n (0 : Int)) = 0 := by
 have := Bs.A3n [] n
 rw [List.nil_append, Bs.number_nil, Int.zero_mul] at this
 exact this
theorem pad_num (b : List Int) (lead m : Nat) : Bs.number ((List.replicate lead 0 ++ b) ++ List.replicate m 0) = Bs.number b * 2 ^ m := by
 rw [Bs.A3n, Bs.A3v, zeros_num, Int.zero_mul, Int.zero_add]
theorem wadd3 (h s : Nat) (h14 : h ≤ 14) (hs : s ≤ 64) : wrap64 ((h : Int) + (s : Int)) = ((h + s : Nat) : Int) := by rw [PBits.w64 _ (by omega)]; omega
theorem RGet_j0 (p : Int) (hp : 0 ≤ p ∧ p < 18446744073709551616) (l n : Nat) (hln : l + n ≤ 64) (R : List Int) (hR : Bs.Bits R) (h lead size : Nat) (hs : size ≤ 64) (hld : lead ≤ 64) (h14 : h ≤ 14) :
    Ev (fun k => A0k.j0 k R (lead : Int) (size : Int) (h : Int) p (l : Int) (n : Int)) (bd p l n R h lead size) := by
  unfold bd
  by_cases c0 : size = 0
  · rw [if_pos (.inl c0)]
    subst c0
    refine Ev.step (fun k => by rw [A0k.j0, if_pos (by decide)]) ?_
    exact Ev.step (fun k => by rw [A0k.j1, if_pos rfl]) (Ev.now _)
  refine Ev.step (fun k => by rw [A0k.j0, if_neg (nz c0), wadd lead size hld hs]) ?_
  by_cases c1 : lead + size > 64
  · rw [if_pos (.inr c1), decide_eq_true (gtc c1)]
    exact Ev.step (fun k => by rw [A0k.j1, if_pos rfl]) (Ev.now _)
  have c1' : lead + size ≤ 64 := Nat.le_of_not_lt c1
  rw [if_neg (fun h => h.elim c0 c1), decide_eq_false (gtc' c1)]
  by_cases c2 : R.length < h + size
  · rw [if_pos c2]
    exact Ev.step (fun k => by rw [A0k.j1, if_neg Bool.false_ne_true, wadd3 h size h14 hs, if_pos (Int.ofNat_lt.mpr c2)]) (Ev.now _)
  have c2' : h + size ≤ R.length := Nat.le_of_not_lt c2
  rw [if_neg c2]
  have hxr := xv_range hR h lead size c2' c1'
  have hcut : (R.take (h + size)).drop h = (R.drop h).take size := by rw [List.drop_take, Nat.add_sub_cancel_left]
  have hblen : ((R.drop h).take size).length = size := cut_len R h size c2'
  have hbits : Bs.Bits ((List.replicate lead 0 ++ (R.drop h).take size) ++ List.replicate (64 - lead - size) 0) := ((zeros_bits lead).append (bits_take hR h size)).append (zeros_bits _)
  have hplen : ((List.replicate lead 0 ++ (R.drop h).take size) ++ List.replicate (64 - lead - size) (0 : Int)).length ≤ 64 := by
    rw [List.length_append, List.length_append, List.length_replicate, List.length_replicate, hblen]; omega
  have hN := PBits.Number_is _ hbits hplen
  rw [pad_num] at hN
  have hcode := RCode_is p (Go.bits .xor .u64 p (xv R h lead size)) l n hp (xor_range p _ hp hxr) hln (xor_back p _ hp hxr)
  have hle1 : lead ≤ 281474976710656 := Nat.le_trans hld (by decide)
  have hl1 : (List.replicate lead (0 : Int)).length + ((R.drop h).take size).length < 140737488355328 := by
    refine lt47 _ _ ?_
    rw [List.length_replicate, hblen]; omega
  have hl2 : (List.replicate lead (0 : Int) ++ (R.drop h).take size).length + (64 - lead - size) < 140737488355328 := by
    rw [List.length_append, List.length_replicate, hblen]; omega
  refine Ev.step (fun k => by
    rw [A0k.j1, if_neg Bool.false_ne_true, wadd3 h size h14 hs, if_neg (fun hh => c2 (Int.ofNat_lt.mp hh)), if_pos (Int.natCast_nonneg lead), wsub lead size c1']
    simp only [Int.toNat_natCast]
    rw [if_pos hle1, Option.bind_some, if_pos (Int.natCast_nonneg h), if_pos (Int.ofNat_le.mpr (Nat.le_add_right h size)), if_pos (Int.ofNat_le.mpr c2'), hcut, if_pos hl1, Option.bind_some, if_pos (Int.natCast_nonneg _), if_pos hl2]) (Ev.bind hN ?_)
  refine Ev.bind hcode ?_
  have hcb := cb_bits l n (xv R h lead size)
  show Ev (fun k => if ((cb l n (xv R h lead size)).length : Int) = ((h + size : Nat) : Int) then (if 0 ≤ ((h + size : Nat) : Int) then (if (strOfNums (cb l n (xv R h lead size))).toList = (strOfNums (R.take (h + size))).toList then some (Go.bits .xor .u64 p (xv R h lead size), Go.bits .xor .u64 p (xv R h lead size), (cl l n (xv R h lead size) : Int), (cn l n (xv R h lead size) : Int), ((cb l n (xv R h lead size)).length : Int), 0) else some (0, 0, 0, 0, 0, 3)) else none) else some (0, 0, 0, 0, 0, 3)) _
  by_cases e : cb l n (xv R h lead size) = R.take (h + size)
  · have elen : (cb l n (xv R h lead size)).length = h + size := by rw [e, List.length_take]; exact Nat.min_eq_left c2'
    rw [if_pos e]
    refine Ev.congr (fun k => ?_) (Ev.now _)
    rw [elen, if_pos rfl, if_pos (Int.natCast_nonneg _), if_pos (by rw [e])]
  · rw [if_neg e]
    refine Ev.congr (fun k => ?_) (Ev.now _)
    by_cases e1 : ((cb l n (xv R h lead size)).length : Int) = ((h + size : Nat) : Int)
    · rw [if_pos e1, if_pos (Int.natCast_nonneg _), if_neg (fun hh => e (strs_inj hcb (hR.take _) hh))]
    · rw [if_neg e1]
theorem RGet_is (p : Int) (hp : 0 ≤ p ∧ p < 18446744073709551616) (l n : Nat) (hln : l + n ≤ 64) (R : List Int) (hR : Bs.Bits R) :
    Ev (fun k => A0k.f k p (l : Int) (n : Int) R) (xg p l n R) := by
  unfold xg
  by_cases c0 : R.length = 0
  · rw [if_pos c0]
    exact Ev.congr (fun k => by unfold A0k.f; rw [if_pos (by rw [c0]; rfl)]) (Ev.now _)
  rw [if_neg c0]
  have p0 : 0 < (R.length : Int) := Int.ofNat_lt.mpr (Nat.pos_of_ne_zero c0)
  by_cases c1 : rd R 0 = 0
  · rw [if_pos c1]
    exact Ev.congr (fun k => by unfold A0k.f; rw [if_neg (nz c0), if_pos p0, if_pos c1]) (Ev.now _)
  rw [if_neg c1]
  by_cases c2 : R.length = 1
  · rw [if_pos c2]
    exact Ev.congr (fun k => by unfold A0k.f; rw [if_neg (nz c0), if_pos p0, if_neg c1, if_pos (by rw [c2]; rfl)]) (Ev.now _)
  rw [if_neg c2]
  have c2i : ¬ (R.length : Int) = 1 := fun hh => c2 (Int.ofNat.inj hh)
  have p1 : 1 < (R.length : Int) := by omega
  by_cases c3 : rd R 1 = 1
  · rw [if_pos c3]
    by_cases c4 : R.length < 14
    · rw [if_pos c4]
      exact Ev.congr (fun k => by unfold A0k.f; rw [if_neg (nz c0), if_pos p0, if_neg c1, if_neg c2i, if_pos p1, if_pos c3, if_pos (by omega)]) (Ev.now _)
    · rw [if_neg c4]
      have c4' : 14 ≤ R.length := Nat.le_of_not_lt c4
      have hl1 := ld_lt hR c4'
      have hs1 := sd_lt hR c4'
      have n1 := PBits.Number_is ((R.take 8).drop 2) ((hR.take 8).drop 2) (by rw [List.length_drop, List.length_take]; omega)
      have n2 := PBits.Number_is ((R.take 14).drop 8) ((hR.take 14).drop 8) (by rw [List.length_drop, List.length_take]; omega)
      have e1 : (R.take 8).drop 2 = (R.drop 2).take 6 := by rw [List.drop_take]
      have e2 : (R.take 14).drop 8 = (R.drop 8).take 6 := by rw [List.drop_take]
      rw [e1, ← hl1.1] at n1
      rw [e2, show Bs.number ((R.drop 8).take 6) = (sd R : Int) - 1 by rw [hs1.1]; exact (Int.add_sub_cancel _ _).symm] at n2
      refine Ev.congr (fun k => by unfold A0k.f; rw [if_neg (nz c0), if_pos p0, if_neg c1, if_neg c2i, if_pos p1, if_pos c3, if_neg (show ¬ (R.length : Int) < 14 by omega), if_pos (by decide), if_pos (by omega), e1]) (Ev.bind n1 ?_)
      refine Ev.congr (fun k => by rw [if_pos (by decide), if_pos (by omega), e2]) (Ev.bind n2 ?_)
      rw [wsm _ hl1.2, wsn _ hs1.2.2 hs1.2.1]
      exact RGet_j0 p hp l n hln R hR 14 (ld R) (sd R) hs1.2.1 (Nat.le_of_lt hl1.2) (by decide)
  · rw [if_neg c3]
    refine Ev.congr (fun k => by unfold A0k.f; rw [if_neg (nz c0), if_pos p0, if_neg c1, if_neg c2i, if_pos p1, if_neg c3]) ?_
    exact RGet_j0 p hp l n hln R hR 2 l n (Nat.le_trans (Nat.le_add_left _ _) hln) (Nat.le_trans (Nat.le_add_right _ _) hln) (by decide)
end Go.Proofs.YtiahbcaoikoogabDoor.PXor
end
section
namespace Go.Proofs.YtiahbcaoikoogabDoor.PKinds
open Go Go.RowKit Go.Proofs.YtiahbcaoikoogabDoor Go.Proofs.YtiahbcaoikoogabDoor.All Go.Proofs.YtiahbcaoikoogabDoorW.PrintWords Go.Proofs.YtiahbcaoikoogabDoorW.PrintLast
set_option linter.unusedVariables false
set_option linter.unusedSimpArgs false
abbrev O := Int × Int × S8 × Int × Int
def bad (c : Int) : O := (0, 0, z8, 0, c)
def kv (kind v e xp : Int) (xl xn : Nat) (R : List Int) : Int × Int × Int × Int × Int × Int :=
 if kind = 2 then (IntKind.u64.wrap (IntKind.u64.wrap (v + e) + IntKind.u64.wrap (PDod.A3s R).1), 0, 0, 0, (PDod.A3s R).2.1, (PDod.A3s R).2.2)
 else PXor.xg xp xl xn R
def fin (kind n t d v e xp : Int) (xl xn : Nat) (T m : Int) (W : Int × Int × Int × Int × Int × Int) : O :=
 if ¬ W.2.2.2.2.2 = 0 then bad W.2.2.2.2.2
 else if T ≤ t then bad 4
 else (T, W.1, aft kind n t d v e xp xl xn T W.1 W.2.1 W.2.2.1 W.2.2.2.1, wrap64 (m + W.2.2.2.2.1), 0)
def kg (kind n t d v e xp : Int) (xl xn : Nat) (R : List Int) : O :=
 if ¬ (kind = 1 ∨ kind = 2) then bad 6
 else if n = 0 then (if R.length < 128 then bad 2 else (wrap64 (Bs.number (R.take 64)), Bs.number ((R.drop 64).take 64), aft kind n t d v e xp xl xn (wrap64 (Bs.number (R.take 64))) (Bs.number ((R.drop 64).take 64)) 0 0 0, 128, 0))
 else if ¬ (PDod.A3s R).2.2 = 0 then bad (PDod.A3s R).2.2
 else fin kind n t d v e xp xl xn (wrap64 (wrap64 (t + d) + (PDod.A3s R).1)) (PDod.A3s R).2.1 (kv kind v e xp xl xn (R.drop (PDod.A3s R).2.1.toNat))
def gref (r : O) : Int × Int × Int × Int × Int × Int × Int × Int × Int × Int × Int × Int :=
 (r.1, r.2.1, r.2.2.1.1, r.2.2.1.2.1, r.2.2.1.2.2.1, r.2.2.1.2.2.2.1, r.2.2.1.2.2.2.2.1, r.2.2.1.2.2.2.2.2.1, r.2.2.1.2.2.2.2.2.2.1, r.2.2.1.2.2.2.2.2.2.2, r.2.2.2.1, r.2.2.2.2)
def gimp8 (r : O) : Int × Int × Int × Int × Int × Int × Int × Int × Int × Int × Int × Option Int :=
 (r.1, r.2.1, r.2.2.1.1, r.2.2.1.2.1, r.2.2.1.2.2.1, r.2.2.1.2.2.2.1, r.2.2.1.2.2.2.2.1, r.2.2.1.2.2.2.2.2.1, r.2.2.1.2.2.2.2.2.2.1, r.2.2.1.2.2.2.2.2.2.2, r.2.2.2.1, if r.2.2.2.2 = 0 then none else some r.2.2.2.2)
theorem gspec_fit (R : List Int) (hR : Bs.Bits R) (h : (PDod.A3s R).2.2 = 0) : ∃ m : Nat, (PDod.A3s R).2.1 = (m : Int) ∧ m ≤ R.length ∧ 1 ≤ R.length := by
 unfold PDod.A3s at h ⊢
 by_cases c : R.length < min (PDod.lead 4 R + 1) 4 + PDod.size (PDod.lead 4 R)
 ·rw [if_pos c] at h
  exact absurd h (by decide)
 rw [if_neg c] at h ⊢
 by_cases e : PDod.ones (PDod.sgn ((R.drop (min (PDod.lead 4 R + 1) 4)).take (PDod.size (PDod.lead 4 R)))) = PDod.lead 4 R
 ·rw [if_pos e]
  exact ⟨_, rfl, Nat.le_of_not_lt c, by omega⟩
 ·rw [if_neg e] at h
  exact absurd h (by decide)
theorem RFin_is (kind n t d v e xp : Int) (xl xn : Nat) (hn : 0 ≤ n) (T m : Int) (W : Int × Int × Int × Int × Int × Int) :
    Ev (fun k => A0f.j1 k kind m W.2.2.2.2.2 W.2.2.2.2.1 n t d v e xp (xl : Int) (xn : Int) T W.1 W.2.1 W.2.2.1 W.2.2.2.1) (gref (fin kind n t d v e xp xl xn T m W)) := by
  unfold fin
  by_cases c1 : W.2.2.2.2.2 = 0
  · have c1n : ¬ ¬ W.2.2.2.2.2 = 0 := fun h => h c1
    rw [if_neg c1n]
    by_cases c2 : T ≤ t
    · rw [if_pos c2]
      exact Ev.step (fun k => by rw [A0f.j1, if_pos c1, if_pos c2]; rfl) (Ev.now (gref (bad 4)))
    · rw [if_neg c2]
      refine Ev.step (fun k => by rw [A0f.j1, if_pos c1, if_neg c2]) (Ev.bind (RAfter_is kind n t d v e xp xl xn T W.1 W.2.1 W.2.2.1 W.2.2.2.1 hn) ?_)
      exact Ev.now _
  · rw [if_pos c1]
    exact Ev.step (fun k => by rw [A0f.j1, if_neg c1]; rfl) (Ev.now (gref (bad W.2.2.2.2.2)))
theorem RGet_is (kind n t d v e xp : Int) (xl xn : Nat) (hn : 0 ≤ n) (hp : 0 ≤ xp ∧ xp < 18446744073709551616) (hx : xl + xn ≤ 64) (R : List Int) (hR : Bs.Bits R) (hl : R.length < 70368744177664) :
    Ev (fun k => A0f.f k kind n t d v e xp (xl : Int) (xn : Int) R) (gref (kg kind n t d v e xp xl xn R)) := by
  have main : ∀ b : Bool, b = decide (¬ (kind = 1 ∨ kind = 2)) → Ev (fun k => A0f.j0 k kind R b n t d v e xp (xl : Int) (xn : Int)) (gref (kg kind n t d v e xp xl xn R)) := by
    intro b hb
    unfold kg
    by_cases c1 : kind = 1 ∨ kind = 2
    · have c1n : ¬ ¬ (kind = 1 ∨ kind = 2) := fun h => h c1
      rw [decide_eq_false c1n] at hb
      subst hb
      rw [if_neg c1n]
      by_cases c2 : n = 0
      · rw [if_pos c2]
        by_cases c3 : R.length < 128
        · rw [if_pos c3]
          exact Ev.step (fun k => by rw [A0f.j0, if_neg Bool.false_ne_true, if_pos c2, if_pos (show (R.length : Int) < 128 by omega)]; rfl) (Ev.now (gref (bad 2)))
        · rw [if_neg c3]
          have e1 := PBits.Number_is (R.take 64) (hR.take 64) (by rw [List.length_take]; omega)
          have e2 := PBits.Number_is ((R.drop 64).take 64) ((hR.drop 64).take 64) (by rw [List.length_take]; omega)
          have ec : (R.take 128).drop 64 = (R.drop 64).take 64 := by rw [List.drop_take]
          have e3 := RAfter_is kind n t d v e xp xl xn (wrap64 (Bs.number (R.take 64))) (Bs.number ((R.drop 64).take 64)) 0 0 0 hn
          refine Ev.step (fun k => by rw [A0f.j0, if_neg Bool.false_ne_true, if_pos c2, if_neg (show ¬ (R.length : Int) < 128 by omega), if_pos (show (64 : Int) ≤ (R.length : Int) by omega)]) (Ev.bind e1 ?_)
          refine Ev.congr (fun k => by rw [if_pos (by decide), if_pos (show (128 : Int) ≤ (R.length : Int) by omega), ec]) (Ev.bind e2 ?_)
          refine Ev.bind e3 ?_
          exact Ev.now _
      rw [if_neg c2]
      have g1 := PDod.RGet_is R hR (by omega)
      have hfit := gspec_fit R hR
      generalize PDod.A3s R = G at g1 hfit
      refine Ev.step (fun k => by rw [A0f.j0, if_neg Bool.false_ne_true, if_neg c2]) (Ev.bind g1 ?_)
      by_cases c3 : G.2.2 = 0
      · have c3n : ¬ ¬ G.2.2 = 0 := fun h => h c3
        rw [if_neg c3n]
        obtain ⟨m, hm1, hm2, _⟩ := hfit c3
        have i1 : (0 : Int) ≤ (m : Int) := Int.natCast_nonneg m
        have i2 : (m : Int) ≤ (R.length : Int) := Int.ofNat_le.mpr hm2
        have hd := List.length_drop (l := R) (i := m)
        rw [hm1, Int.toNat_natCast]
        refine Ev.congr (fun k => by rw [if_pos c3]) ?_
        unfold kv
        by_cases c4 : kind = 2
        · have g2 := PDod.RGet_is (R.drop m) (hR.drop m) (by omega)
          rw [if_pos c4]
          refine Ev.congr (fun k => by rw [if_pos c4, if_pos i1, if_pos i2]) (Ev.bind g2 ?_)
          rw [wrap_add3]
          exact RFin_is kind n t d v e xp xl xn hn _ _ (_, 0, 0, 0, _, _)
        · have g2 := PXor.RGet_is xp hp xl xn hx (R.drop m) (hR.drop m)
          rw [if_neg c4]
          refine Ev.congr (fun k => by rw [if_neg c4, if_pos i1, if_pos i2]) (Ev.bind g2 ?_)
          rw [wrap_add3]
          exact RFin_is kind n t d v e xp xl xn hn _ _ (PXor.xg xp xl xn (R.drop m))
      · rw [if_pos c3]
        exact Ev.congr (fun k => if_neg c3) (Ev.now (gref (bad G.2.2)))
    · rw [decide_eq_true c1] at hb
      subst hb
      rw [if_pos c1]
      exact Ev.step (fun k => by rw [A0f.j0, if_pos rfl]; rfl) (Ev.now (gref (bad 6)))
  unfold A0f.f
  by_cases c1 : kind = 1
  · simp only [if_pos c1]
    exact main false (decide_eq_false (fun h => h (.inl c1))).symm
  · simp only [if_neg c1]
    refine main _ ?_
    by_cases c2 : kind = 2
    · have hh : ¬ ¬ (kind = 1 ∨ kind = 2) := fun h => h (.inr c2)
      rw [bne_eq_false_iff_eq.mpr c2]
      exact (decide_eq_false hh).symm
    · have hh : ¬ (kind = 1 ∨ kind = 2) := fun h => h.elim c1 c2
      rw [bne_iff_ne.mpr c2]
      exact (decide_eq_true hh).symm
theorem Fin_is (kind n t d v e xp : Int) (xl xn : Nat) (hn : n > 0) (T m : Int) (W : Int × Int × Int × Int × Int × Int) :
    Ev (fun k => A3m.j0 k kind (wrap64 (m + W.2.2.2.2.1)) (if W.2.2.2.2.2 = 0 then none else some W.2.2.2.2.2) n t d v e xp (xl : Int) (xn : Int) T W.1 W.2.1 W.2.2.1 W.2.2.2.1) (gimp8 (fin kind n t d v e xp xl xn T m W)) := by
  unfold fin
  by_cases c1 : W.2.2.2.2.2 = 0
  · have c1n : ¬ ¬ W.2.2.2.2.2 = 0 := fun h => h c1
    rw [if_neg c1n, if_pos c1]
    by_cases c2 : T ≤ t
    · rw [if_pos c2]
      exact Ev.step (fun k => by rw [A3m.j0, if_pos (show (none : Option Int).isNone = true from rfl), if_pos hn, if_pos c2]; rfl) (Ev.now (gimp8 (bad 4)))
    · rw [if_neg c2]
      refine Ev.step (fun k => by rw [A3m.j0, if_pos (show (none : Option Int).isNone = true from rfl), if_pos hn, if_neg c2]) (Ev.bind (After_is kind n t d v e xp xl xn T W.1 W.2.1 W.2.2.1 W.2.2.2.1 (by omega)) ?_)
      exact Ev.now _
  · rw [if_pos c1, if_neg c1]
    refine Ev.step (fun k => ?_) (Ev.now (gimp8 (bad W.2.2.2.2.2)))
    rw [A3m.j0, if_neg (show ¬ (some W.2.2.2.2.2).isNone = true from Bool.false_ne_true)]
    unfold gimp8 bad z8
    rw [if_neg c1]
    rfl
theorem restL_add (L : List Int) (hL : L.length < 70368744177664) (a : Int) (m : Nat) (hm : m ≤ (PDod.restL L a).length) (h1 : 1 ≤ (PDod.restL L a).length) : PDod.restL L (wrap64 (a + (m : Int))) = (PDod.restL L a).drop m := by
 unfold PDod.restL at hm h1 ⊢
 by_cases c : a < 0 ∨ a > (L.length : Int)
 ·rw [if_pos c] at h1
  exact absurd h1 (by decide)
 rw [if_neg c] at hm ⊢
 rw [List.length_drop] at hm
 have hw : wrap64 (a + (m : Int)) = a + (m : Int) := PBits.w64 _ (by omega)
 rw [hw, if_neg (by omega), List.drop_drop]
 congr 1
 omega
theorem first_is (b : List Int) (hb : Bs.Bytes b) (hl : 8 * b.length < 70368744177664) (a : Int) (ha : -9223372036854775808 ≤ a ∧ a < 9223372036854775808) :
    Ev (fun k => kinds_first.f k b a) (if (PDod.restL (Bs.flat b) a).length < 128 then (0, 0, 0, some 2) else (wrap64 (Bs.number ((PDod.restL (Bs.flat b) a).take 64)), Bs.number (((PDod.restL (Bs.flat b) a).drop 64).take 64), 128, none)) := by
  have hfl := Bs.A2n b
  have e1 := PBits.Take_is b hb (by omega) a 64
  have e2 := PBits.Take_is b hb (by omega) (wrap64 (a + 64)) 64
  generalize Bs.flat b = L at *
  unfold kinds_first.f
  refine Ev.bind e1 ?_
  unfold PDod.restL
  by_cases c : a < 0 ∨ a > (L.length : Int)
  · rw [PBits.tk_no (by omega), if_pos c]
    exact Ev.congr (fun k => if_neg Bool.false_ne_true) (Ev.now _)
  rw [if_neg c]
  have hd := List.length_drop (l := L) (i := a.toNat)
  by_cases c1 : (L.drop a.toNat).length < 64
  · rw [PBits.tk_no (by omega), if_pos (by omega)]
    exact Ev.congr (fun k => if_neg Bool.false_ne_true) (Ev.now _)
  rw [PBits.tk_yes (by omega)]
  refine Ev.congr (fun k => if_pos rfl) (Ev.bind e2 ?_)
  have hw : wrap64 (a + 64) = a + 64 := PBits.w64 _ (by omega)
  by_cases c2 : (L.drop a.toNat).length < 128
  · rw [hw, PBits.tk_no (by omega), if_pos c2]
    exact Ev.congr (fun k => if_neg Bool.false_ne_true) (Ev.now _)
  rw [hw, PBits.tk_yes (by omega), if_neg c2]
  have e64 : (64 : Int).toNat = 64 := rfl
  have ea : (a + 64).toNat = a.toNat + 64 := by omega
  rw [e64, ea, ← List.drop_drop]
  exact Ev.congr (fun k => if_pos rfl) (Ev.now _)
theorem Get_is (kind n t d v e xp : Int) (xl xn : Nat) (hn : 0 ≤ n) (hp : 0 ≤ xp ∧ xp < 18446744073709551616) (hx : xl + xn ≤ 64) (b : List Int) (hb : Bs.Bytes b) (hl : 8 * b.length < 70368744177664) (a : Int) (ha : -9223372036854775808 ≤ a ∧ a < 9223372036854775808) :
    Ev (fun k => A3m.f k kind n t d v e xp (xl : Int) (xn : Int) b a) (gimp8 (kg kind n t d v e xp xl xn (PDod.restL (Bs.flat b) a))) := by
  have hfl := Bs.A2n b
  have hL : (Bs.flat b).length < 70368744177664 := by omega
  unfold A3m.f kg
  rw [known_is]
  simp only [Option.bind_some]
  by_cases c1 : kind = 1 ∨ kind = 2
  · have c1n : ¬ ¬ (kind = 1 ∨ kind = 2) := fun h => h c1
    rw [decide_eq_true c1, if_neg c1n]
    simp only [if_true]
    by_cases c2 : n = 0
    · have hng : ¬ n > 0 := by omega
      have e1 := first_is b hb hl a ha
      simp only [if_pos c2]
      refine Ev.bind e1 ?_
      generalize PDod.restL (Bs.flat b) a = R
      by_cases c3 : R.length < 128
      · simp only [if_pos c3]
        exact Ev.step (fun k => by rw [A3m.j0, if_neg (show ¬ (some (2 : Int)).isNone = true from Bool.false_ne_true)]; rfl) (Ev.now (gimp8 (bad 2)))
      · simp only [if_neg c3]
        refine Ev.step (fun k => by rw [A3m.j0, if_pos (show (none : Option Int).isNone = true from rfl), if_neg hng]) (Ev.bind (After_is kind n t d v e xp xl xn (wrap64 (Bs.number (R.take 64))) (Bs.number ((R.drop 64).take 64)) 0 0 0 hn) ?_)
        exact Ev.now _
    simp only [if_neg c2]
    have hng : n > 0 := by omega
    have g1 := PDod.Get_is b hb (by omega) a ha
    have hfit := gspec_fit _ (PDod.restL_bits (Bs.A36 b) a)
    have hadd := restL_add (Bs.flat b) hL a
    unfold kinds_next.f
    generalize PDod.restL (Bs.flat b) a = R at *
    generalize PDod.A3s R = G at *
    by_cases c3 : G.2.2 = 0
    · have c3n : ¬ ¬ G.2.2 = 0 := fun h => h c3
      obtain ⟨m, hm1, hm2, hm3⟩ := hfit c3
      have hr := hadd m hm2 hm3
      have hwr : -9223372036854775808 ≤ wrap64 (a + (m : Int)) ∧ wrap64 (a + (m : Int)) < 9223372036854775808 := by unfold wrap64; omega
      rw [if_neg c3n]
      unfold PDod.gimp at g1
      rw [if_pos c3, hm1] at g1
      rw [hm1, Int.toNat_natCast]
      unfold kv
      by_cases c4 : kind = 2
      · have g2 := PDod.Get_is b hb (by omega) (wrap64 (a + (m : Int))) hwr
        rw [hr] at g2
        rw [if_pos c4]
        simp only [if_pos c4]
        refine Ev.bind (Ev.bind g1 (Ev.congr (fun k => if_pos rfl) (Ev.bind g2 (Ev.now _)))) ?_
        exact Fin_is kind n t d v e xp xl xn hng _ _ (_, 0, 0, 0, _, _)
      · have g2 := PXor.Get_is b hb hl xp hp xl xn hx (wrap64 (a + (m : Int)))
        rw [hr] at g2
        rw [if_neg c4]
        simp only [if_neg c4]
        refine Ev.bind (Ev.bind g1 (Ev.congr (fun k => if_pos rfl) (Ev.bind g2 (Ev.now _)))) ?_
        exact Fin_is kind n t d v e xp xl xn hng _ _ (PXor.xg xp xl xn (R.drop m))
    · rw [if_pos c3]
      unfold PDod.gimp at g1
      rw [if_neg c3] at g1
      refine Ev.bind (Ev.bind g1 (Ev.congr (fun k => if_neg Bool.false_ne_true) (Ev.now _))) ?_
      refine Ev.step (fun k => ?_) (Ev.now (gimp8 (bad G.2.2)))
      rw [A3m.j0, if_neg (show ¬ (some _).isNone = true from Bool.false_ne_true)]
      unfold gimp8 bad z8
      rw [if_neg c3]
      rfl
  · rw [decide_eq_false c1, if_pos c1]
    exact Ev.congr (fun k => if_neg Bool.false_ne_true) (Ev.now (gimp8 (bad 6)))
structure Ok (B : Int) (s : S8) : Prop where
 n0 : 0 ≤ s.1
 n1 : s.1 ≤ B
 p0 : 0 ≤ s.2.2.2.2.2.1 ∧ s.2.2.2.2.2.1 < 18446744073709551616
 w : ∃ xl xn : Nat, s.2.2.2.2.2.2.1 = (xl : Int) ∧ s.2.2.2.2.2.2.2 = (xn : Int) ∧ xl + xn ≤ 64
theorem ok_zero (B : Int) (hB : 0 ≤ B) : Ok B z8 := ⟨Int.le_refl _, hB, by decide, 0, 0, rfl, rfl, by decide⟩
theorem ok_aft (B : Int) (hB : B < 1000000) (kind n t d v e xp xl xn T V ap al an : Int) (hn : 0 ≤ n ∧ n ≤ B) (hV : 0 ≤ V ∧ V < 18446744073709551616) (hap : 0 ≤ ap ∧ ap < 18446744073709551616) (hw : ∃ x y : Nat, al = (x : Int) ∧ an = (y : Int) ∧ x + y ≤ 64) : Ok (B + 1) (aft kind n t d v e xp xl xn T V ap al an) := by
 have hw1 : wrap64 (n + 1) = n + 1 := PBits.w64 _ (by omega)
 have z : ∃ x y : Nat, (0 : Int) = (x : Int) ∧ (0 : Int) = (y : Int) ∧ x + y ≤ 64 := ⟨0, 0, rfl, rfl, by decide⟩
 unfold aft
 rw [hw1]
 refine ⟨by show 0 ≤ n + 1; omega, by show n + 1 ≤ B + 1; omega, ?_, ?_⟩
 ·show 0 ≤ (if kind = 1 then (if n = 0 then V else ap) else 0) ∧ (if kind = 1 then (if n = 0 then V else ap) else 0) < 18446744073709551616
  by_cases c : kind = 1
  ·rw [if_pos c]
   by_cases c' : n = 0
   ·rw [if_pos c']; exact hV
   ·rw [if_neg c']; exact hap
  ·rw [if_neg c]; decide
 ·show ∃ x y : Nat, (if kind = 1 then (if n = 0 then 0 else al) else 0) = (x : Int) ∧ (if kind = 1 then (if n = 0 then 0 else an) else 0) = (y : Int) ∧ x + y ≤ 64
  by_cases c : kind = 1
  ·rw [if_pos c, if_pos c]
   by_cases c' : n = 0
   ·rw [if_pos c', if_pos c']; exact z
   ·rw [if_neg c', if_neg c']; exact hw
  ·rw [if_neg c, if_neg c]; exact z
theorem u64_is (x : Int) : 0 ≤ IntKind.u64.wrap x ∧ IntKind.u64.wrap x < 18446744073709551616 := u64_range x
theorem kv_ok (kind v e xp : Int) (xl xn : Nat) (hp : 0 ≤ xp ∧ xp < 18446744073709551616) (hx : xl + xn ≤ 64) (R : List Int) (hR : Bs.Bits R) (h : (kv kind v e xp xl xn R).2.2.2.2.2 = 0) :
    (0 ≤ (kv kind v e xp xl xn R).1 ∧ (kv kind v e xp xl xn R).1 < 18446744073709551616) ∧ (0 ≤ (kv kind v e xp xl xn R).2.1 ∧ (kv kind v e xp xl xn R).2.1 < 18446744073709551616) ∧
    (∃ x y : Nat, (kv kind v e xp xl xn R).2.2.1 = (x : Int) ∧ (kv kind v e xp xl xn R).2.2.2.1 = (y : Int) ∧ x + y ≤ 64) ∧ ∃ m : Nat, (kv kind v e xp xl xn R).2.2.2.2.1 = (m : Int) ∧ m ≤ R.length := by
  unfold kv at h ⊢
  by_cases c : kind = 2
  · rw [if_pos c] at h ⊢
    obtain ⟨m, h1, h2, _⟩ := gspec_fit R hR h
    exact ⟨u64_is _, by show (0 : Int) ≤ 0 ∧ (0 : Int) < _; decide, ⟨0, 0, rfl, rfl, by decide⟩, m, h1, h2⟩
  · rw [if_neg c] at h ⊢
    obtain ⟨d, m, d0, d1, m1, m2, _, hG⟩ := PXor.xg_ok xp xl xn hx hp R hR h
    rw [hG]
    have hr := PXor.xor_range xp d hp ⟨d0, d1⟩
    exact ⟨hr, hr, ⟨_, _, rfl, rfl, PXor.cb_ok xl xn d hx d0 d1⟩, m, rfl, m2⟩
theorem kg_ok (B : Int) (hB : B < 1000000) (kind n t d v e xp : Int) (xl xn : Nat) (hn : 0 ≤ n ∧ n ≤ B) (hp : 0 ≤ xp ∧ xp < 18446744073709551616) (hx : xl + xn ≤ 64) (R : List Int) (hR : Bs.Bits R) (hl : R.length < 70368744177664) (h : (kg kind n t d v e xp xl xn R).2.2.2.2 = 0) :
    Ok (B + 1) (kg kind n t d v e xp xl xn R).2.2.1 ∧ ∃ m : Nat, (kg kind n t d v e xp xl xn R).2.2.2.1 = (m : Int) ∧ m ≤ R.length ∧ 1 ≤ R.length := by
  have z : ∃ x y : Nat, (0 : Int) = (x : Int) ∧ (0 : Int) = (y : Int) ∧ x + y ≤ 64 := ⟨0, 0, rfl, rfl, by decide⟩
  unfold kg at h ⊢
  by_cases c1 : ¬ (kind = 1 ∨ kind = 2)
  · rw [if_pos c1] at h
    exact absurd h (by decide)
  rw [if_neg c1] at h ⊢
  by_cases c2 : n = 0
  · rw [if_pos c2] at h ⊢
    by_cases c3 : R.length < 128
    · rw [if_pos c3] at h
      exact absurd h (by decide)
    rw [if_neg c3]
    have hnr := PXor.num_range hR 64 64 (by omega)
    have k64 : (2 : Int) ^ 64 = 18446744073709551616 := by decide
    rw [k64] at hnr
    exact ⟨ok_aft B hB kind n t d v e xp xl xn _ _ 0 0 0 hn hnr (by decide) z, 128, rfl, by omega, by omega⟩
  rw [if_neg c2] at h ⊢
  by_cases c3 : (PDod.A3s R).2.2 = 0
  · have c3n : ¬ ¬ (PDod.A3s R).2.2 = 0 := fun h => h c3
    rw [if_neg c3n] at h ⊢
    obtain ⟨m, hm1, hm2, hm3⟩ := gspec_fit R hR c3
    have hd := List.length_drop (l := R) (i := m)
    rw [hm1, Int.toNat_natCast] at h ⊢
    have hv := kv_ok kind v e xp xl xn hp hx (R.drop m) (hR.drop m)
    generalize kv kind v e xp xl xn (R.drop m) = W at *
    generalize wrap64 (wrap64 (t + d) + (PDod.A3s R).1) = T at *
    unfold fin at h ⊢
    by_cases c4 : W.2.2.2.2.2 = 0
    · have c4n : ¬ ¬ W.2.2.2.2.2 = 0 := fun h => h c4
      rw [if_neg c4n] at h ⊢
      by_cases c5 : T ≤ t
      · rw [if_pos c5] at h
        exact absurd h (by show ¬ ((4 : Int) = 0); decide)
      rw [if_neg c5]
      obtain ⟨v1, v2, v3, m2, v4, v5⟩ := hv c4
      refine ⟨ok_aft B hB kind n t d v e xp xl xn T _ _ _ _ hn v1 v2 v3, m + m2, ?_, by omega, hm3⟩
      show wrap64 ((m : Int) + W.2.2.2.2.1) = _
      rw [v4, PBits.w64 _ (by omega)]
      omega
    · rw [if_pos c4] at h
      exact absurd h c4
  · rw [if_pos c3] at h
    exact absurd h c3
end Go.Proofs.YtiahbcaoikoogabDoor.PKinds
end
