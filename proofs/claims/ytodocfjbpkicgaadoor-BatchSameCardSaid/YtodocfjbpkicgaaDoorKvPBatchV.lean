-- copied by a program of the session
import Derived.Test.YtodocfjbpkicgaaDoorKvAllx34
import Derived.Test.YtodocfjbpkicgaaDoorKvPRest
import Derived.Lib.Bytes
import Derived.Test.YtodocfjbpkicgaaDoorKvAllx14
section
namespace Go.Proofs.YtodocfjbpkicgaaDoor.PXor
open Go Go.RowKit Go.Proofs.YtodocfjbpkicgaaDoor Go.Proofs.YtodocfjbpkicgaaDoor.All Go.Proofs.YtodocfjbpkicgaaDoorW.PrintWords Go.Proofs.YtodocfjbpkicgaaDoorW.PrintLast
set_option linter.unusedVariables false
set_option linter.unusedSimpArgs false
set_option linter.unusedSectionVars false
def xv (R : List Int) (h lead size : Nat) : Int := Bs.number ((R.drop h).take size) * 2 ^ (64 - lead - size)
abbrev G := Int × Int × Int × Int × Int × Int
def bd (p : Int) (l n : Nat) (R : List Int) (h lead size : Nat) : G :=
 if size = 0 ∨ lead + size > 64 then (0, 0, 0, 0, 0, 3)
 else if R.length < h + size then (0, 0, 0, 0, 0, 2)
 else if cb l n (xv R h lead size) = R.take (h + size) then
  (Go.bits .xor .u64 p (xv R h lead size), Go.bits .xor .u64 p (xv R h lead size), (cl l n (xv R h lead size) : Int), (cn l n (xv R h lead size) : Int), ((h + size : Nat) : Int), 0)
 else (0, 0, 0, 0, 0, 3)
def ld (R : List Int) : Nat := (Bs.number ((R.drop 2).take 6)).toNat
def sd (R : List Int) : Nat := (Bs.number ((R.drop 8).take 6)).toNat + 1
def xg (p : Int) (l n : Nat) (R : List Int) : G :=
 if R.length = 0 then (0, 0, 0, 0, 0, 2)
 else if rd R 0 = 0 then (p, p, (l : Int), (n : Int), 1, 0)
 else if R.length = 1 then (0, 0, 0, 0, 0, 2)
 else if rd R 1 = 1 then (if R.length < 14 then (0, 0, 0, 0, 0, 2) else bd p l n R 14 (ld R) (sd R))
 else bd p l n R 2 l n
def gi (g : G) : Int × Int × Int × Int × Int × Option Int := (g.1, g.2.1, g.2.2.1, g.2.2.2.1, g.2.2.2.2.1, if g.2.2.2.2.2 = 0 then none else some g.2.2.2.2.2)
theorem bits_take {R : List Int} (hR : Bs.Bits R) (h m : Nat) : Bs.Bits ((R.drop h).take m) := (hR.drop h).take m
theorem cut_len (R : List Int) (h m : Nat) (hh : h + m ≤ R.length) : ((R.drop h).take m).length = m := by rw [List.length_take, List.length_drop]; omega
theorem num_range {R : List Int} (hR : Bs.Bits R) (h m : Nat) (hh : h + m ≤ R.length) : 0 ≤ Bs.number ((R.drop h).take m) ∧ Bs.number ((R.drop h).take m) < 2 ^ m := by
 have := Bs.A2j (bits_take hR h m)
 rw [cut_len R h m hh] at this
 exact this
theorem pow_mul (a b : Nat) : (2 : Int) ^ (a + b) = 2 ^ a * 2 ^ b := Int.pow_add ..
theorem xv_range {R : List Int} (hR : Bs.Bits R) (h lead size : Nat) (hh : h + size ≤ R.length) (hs : lead + size ≤ 64) : 0 ≤ xv R h lead size ∧ xv R h lead size < 18446744073709551616 := by
 have hn := num_range hR h size hh
 unfold xv
 have hp := Bs.pow_pos (64 - lead - size)
 refine ⟨Int.mul_nonneg hn.1 (Int.le_of_lt hp), ?_⟩
 have h1 : Bs.number ((R.drop h).take size) * 2 ^ (64 - lead - size) < 2 ^ size * 2 ^ (64 - lead - size) := Int.mul_lt_mul_of_pos_right hn.2 hp
 rw [← pow_mul] at h1
 have h2 : (2 : Int) ^ (size + (64 - lead - size)) ≤ 2 ^ 64 := PBits.pow_le (by omega)
 have h3 : (2 : Int) ^ 64 = 18446744073709551616 := by decide
 omega
theorem ld_lt {R : List Int} (hR : Bs.Bits R) (h : 14 ≤ R.length) : (ld R : Int) = Bs.number ((R.drop 2).take 6) ∧ ld R < 64 := by
 have := num_range hR 2 6 (by omega)
 unfold ld
 omega
theorem sd_lt {R : List Int} (hR : Bs.Bits R) (h : 14 ≤ R.length) : (sd R : Int) = Bs.number ((R.drop 8).take 6) + 1 ∧ sd R ≤ 64 ∧ 1 ≤ sd R := by
 have := num_range hR 8 6 (by omega)
 unfold sd
 omega
theorem split14 (R : List Int) (size : Nat) (h : 14 + size ≤ R.length) : R.take (14 + size) = R.take 2 ++ (R.drop 2).take 6 ++ (R.drop 8).take 6 ++ (R.drop 14).take size := by
 have e : ∀ a b : Nat, R.take (a + b) = R.take a ++ (R.drop a).take b := fun a b => List.take_add ..
 rw [e 14 size, show (14 : Nat) = 8 + 6 from rfl, e 8 6, show (8 : Nat) = 2 + 6 from rfl, e 2 6]
theorem split2 (R : List Int) (size : Nat) : R.take (2 + size) = R.take 2 ++ (R.drop 2).take size := List.take_add ..
theorem take_two (R : List Int) (h : 2 ≤ R.length) : R.take 2 = [rd R 0, rd R 1] := by
 match R, h with
 | a :: b :: R, _ => rfl
theorem low_of_num {R : List Int} (hR : Bs.Bits R) (h m : Nat) (hh : h + m ≤ R.length) {v : Int} (hv : v = Bs.number ((R.drop h).take m)) : Bs.low v m = (R.drop h).take m := by
 have := Bs.low_number (bits_take hR h m)
 rw [cut_len R h m hh] at this
 rw [hv]
 exact this
theorem xv_body {R : List Int} (hR : Bs.Bits R) (h lead size : Nat) (hh : h + size ≤ R.length) : Bs.low (xv R h lead size / 2 ^ (64 - lead - size)) size = (R.drop h).take size := by
 unfold xv
 rw [Int.mul_ediv_cancel _ (Int.ne_of_gt (Bs.pow_pos _))]
 exact low_of_num hR h size hh rfl
theorem full {R : List Int} (hR : Bs.Bits R) (l n h lead size : Nat) (hh : h + size ≤ R.length) (hs : lead + size ≤ 64) (h0 : 0 < size) (hln : l + n ≤ 64) (hr0 : rd R 0 = 1)
    (hk : (h = 2 ∧ lead = l ∧ size = n ∧ rd R 1 = 0) ∨ (h = 14 ∧ lead = ld R ∧ size = sd R ∧ rd R 1 = 1))
    (hN : (cb l n (xv R h lead size)).length = h + size) (he : R.take (min (h + size) 64) = (cb l n (xv R h lead size)).take (min (h + size) 64)) : cb l n (xv R h lead size) = R.take (h + size) := by
  have hx := xv_range hR h lead size hh hs
  have hbody := xv_body hR h lead size hh
  have h2 : 2 ≤ R.length := by omega
  have t2 : R.take 2 = (cb l n (xv R h lead size)).take 2 := by
    have := congrArg (List.take 2) he
    rw [List.take_take, List.take_take, Nat.min_eq_left (by omega)] at this
    exact this
  rw [take_two R h2, hr0] at t2
  generalize hX : xv R h lead size = x at *
  unfold cb at hN he t2 ⊢
  by_cases c0 : x = 0
  · rw [if_pos c0] at hN
    simp at hN
    omega
  rw [if_neg c0] at hN he t2 ⊢
  have hw := win x (by omega) hx.2
  have g1 := hw.lt
  have g2 := hw.pos
  have g3 := hw.le
  by_cases c1 : 0 < n ∧ l ≤ LL x ∧ LL x + SS x ≤ l + n
  · rw [if_pos c1] at hN he t2 ⊢
    have e1 : rd R 1 = 0 := by simpa using t2
    rcases hk with ⟨rfl, rfl, rfl, _⟩ | ⟨_, _, _, h1⟩
    · rw [hbody, split2, take_two R h2, hr0, e1]
    · omega
  · rw [if_neg c1] at hN he t2 ⊢
    have e1 : rd R 1 = 1 := by simpa using t2
    rcases hk with ⟨_, _, _, h1⟩ | ⟨rfl, rfl, rfl, _⟩
    · omega
    have hl14 : 14 ≤ R.length := by omega
    have t14 : R.take 14 = [1, 1] ++ Bs.low (LL x : Int) 6 ++ Bs.low ((SS x : Int) - 1) 6 := by
      have := congrArg (List.take 14) he
      rw [List.take_take, List.take_take, Nat.min_eq_left (by omega)] at this
      rw [this, List.take_append_of_le_length (by simp [Bs.A1k]), List.take_of_length_le (by simp [Bs.A1k])]
    have hR14 : R.take 14 = R.take 2 ++ (R.drop 2).take 6 ++ (R.drop 8).take 6 := by
      have := split14 R 0 (by omega)
      simpa using this
    rw [hR14, take_two R h2, hr0, e1] at t14
    obtain ⟨p1, q2⟩ := List.append_inj t14 (by simp only [List.length_append, List.length_cons, List.length_nil, cut_len R 2 6 (by omega), Bs.A1k])
    have q1 : (R.drop 2).take 6 = Bs.low (LL x : Int) 6 := List.append_cancel_left p1
    have hl := ld_lt hR hl14
    have hsd := sd_lt hR hl14
    rw [q1, Bs.A3q] at hl
    rw [q2, Bs.A3q] at hsd
    have k6 : (2 : Int) ^ 6 = 64 := by decide
    rw [k6] at hl hsd
    have eL : ld R = LL x := by omega
    have eS : sd R = SS x := by omega
    rw [eL, eS] at hbody
    rw [split14 R (sd R) hh, take_two R h2, hr0, e1, q1, q2, eS, hbody]
theorem take_k (b : List Int) (hb : Bs.Bytes b) (hl : 8 * b.length < 140737488355328) (a n : Int) (ok : Bool) :
    Ev (fun k => A1p.f k b a ok n) ((PBits.tk (Bs.flat b) a n).1, b, wrap64 (a + n), ok && (PBits.tk (Bs.flat b) a n).2) := by
  refine Ev.bind (PBits.Take_is b hb hl a n) ?_
  cases ok
  · exact Ev.now _
  · exact Ev.now _
theorem tk_yes (L : List Int) (A c n : Nat) (hn : n ≤ 64) (hA : A ≤ L.length) (h : c + n ≤ (L.drop A).length) : PBits.tk L ((A + c : Nat) : Int) (n : Int) = (Bs.number (((L.drop A).drop c).take n), true) := by
 rw [List.length_drop] at h
 rw [PBits.tk_yes (by omega), Int.toNat_natCast, Int.toNat_natCast, List.drop_drop]
theorem tk_no (L : List Int) (A c n : Nat) (hn : n ≤ 64) (hA : A ≤ L.length) (h : (L.drop A).length < c + n) : PBits.tk L ((A + c : Nat) : Int) (n : Int) = (0, false) := by
 rw [List.length_drop] at h
 exact PBits.tk_no (by omega)
theorem wr_at (A c n : Nat) (h : A + c + n < 140737488355328) : wrap64 (((A + c : Nat) : Int) + (n : Int)) = ((A + (c + n) : Nat) : Int) := by rw [PBits.w64 _ (by omega)]; omega
theorem wrk (A : Nat) (hA : A < 70368744177664) (c n : Nat) (h : c + n ≤ 1000) : wrap64 (((A + c : Nat) : Int) + (n : Int)) = ((A + (c + n) : Nat) : Int) := wr_at A c n (by omega)
theorem nz {x : Nat} (h : ¬ x = 0) : ¬ ((x : Int) = 0) := by omega
theorem gtc {x : Nat} (h : x > 64) : ((x : Nat) : Int) > 64 := by omega
theorem gtc' {x : Nat} (h : ¬ x > 64) : ¬ ((x : Nat) : Int) > 64 := by omega
theorem wadd (a c : Nat) (h : a ≤ 64) (h' : c ≤ 64) : wrap64 ((a : Int) + (c : Int)) = ((a + c : Nat) : Int) := by rw [PBits.w64 _ (by omega)]; omega
theorem wsub (a c : Nat) (h : a + c ≤ 64) : wrap64 (wrap64 (64 - (a : Int)) - (c : Int)) = ((64 - a - c : Nat) : Int) := by rw [PBits.w64 (64 - (a : Int)) (by omega), PBits.w64 _ (by omega)]; omega
theorem shl_u64 (x : Int) (s : Nat) (h : s ≤ 64) (h0 : 0 ≤ x * 2 ^ s ∧ x * 2 ^ s < 18446744073709551616) : shl .u64 x (s : Int) = x * 2 ^ s := by
 unfold shl
 simp only [Int.toNat_natCast]
 rw [show min s IntKind.u64.bits = s from Nat.min_eq_left h, Ib.wrap_u64]
 exact Int.emod_eq_of_lt h0.1 h0.2
theorem shl_xv (R : List Int) (h lead size : Nat) (hs : lead + size ≤ 64) (hx : 0 ≤ xv R h lead size ∧ xv R h lead size < 18446744073709551616) : shl .u64 (Bs.number ((R.drop h).take size)) ((64 - lead - size : Nat) : Int) = xv R h lead size := shl_u64 _ _ (Nat.le_trans (Nat.sub_le _ _) (Nat.sub_le _ _)) hx
theorem wsm (x : Nat) (h : x < 64) : wrap64 (x : Int) = (x : Int) := PBits.w64 _ (by omega)
theorem wsn (x : Nat) (h1 : 1 ≤ x) (h : x ≤ 64) : wrap64 (wrap64 ((x : Int) - 1) + 1) = (x : Int) := by rw [PBits.w64 ((x : Int) - 1) (by omega), PBits.w64 _ (by omega)]; omega
theorem number_one (x : Int) : Bs.number [x] = x := by simp [Bs.number]
theorem num1' (R : List Int) (c : Nat) (hc : c < R.length) : Bs.number ((R.drop c).take 1) = rd R (c : Int) := by
 rw [PBits.rd_at _ _ hc, List.drop_eq_getElem_cons hc]
 rw [show (R[c] :: R.drop (c + 1)).take 1 = [R[c]] from rfl]
 exact number_one _
theorem num1 (R : List Int) (hc : 0 < R.length) : Bs.number (R.take 1) = rd R 0 := num1' R 0 hc
theorem bit01 {R : List Int} (hR : Bs.Bits R) (c : Nat) (hc : c < R.length) : rd R (c : Int) = 0 ∨ rd R (c : Int) = 1 := by
 rw [PBits.rd_at _ _ hc]
 exact hR _ (List.getElem_mem hc)
theorem take1 (R : List Int) (h : 0 < R.length) (h0 : rd R 0 = 0) : R.take 1 = [0] := by
 match R, h with
 | a :: R, _ =>
  have : a = 0 := h0
  rw [this]; rfl
section
variable (b : List Int) (hb : Bs.Bytes b) (hl : 8 * b.length < 70368744177664) (p : Int) (hp : 0 ≤ p ∧ p < 18446744073709551616) (l n : Nat) (hln : l + n ≤ 64) (A : Nat) (hA : A ≤ (Bs.flat b).length)
include hb hl hp hln hA
theorem Get_j3 (x : Int) (hx : 0 ≤ x ∧ x < 18446744073709551616) (c : Nat) (h1 : 1 ≤ c) (hc : c ≤ ((Bs.flat b).drop A).length) :
    Ev (fun k => A1d.j3 k b (A : Int) x p (l : Int) (n : Int) b ((A + c : Nat) : Int) true)
      (if (cb l n x).length = c ∧ ((Bs.flat b).drop A).take (min c 64) = (cb l n x).take (min c 64) then (Go.bits .xor .u64 p x, Go.bits .xor .u64 p x, (cl l n x : Int), (cn l n x : Int), (c : Int), none) else (0, 0, 0, 0, 0, some 3)) := by
  have hfl := Bs.A10 b
  have hfb := Bs.flat_bits b
  have hdl := List.length_drop (l := Bs.flat b) (i := A)
  have hxr := xor_range p x hp hx
  have hcode := Code_is p (Go.bits .xor .u64 p x) l n hp hxr hln (xor_back p x hp hx)
  have hN := cb_short l n x hln hx.1 hx.2
  have hcb := cb_bits l n x
  have hpl := Bs.A2n (cb l n x)
  generalize hK : cb l n x = C at *
  have hm : mn (C.length : Int) 64 = ((min C.length 64 : Nat) : Int) := by unfold mn; split <;> omega
  refine Ev.step (fun k => by rw [A1d.j3, if_pos rfl]) (Ev.bind hcode ?_)
  have ht1 := PBits.Take_is b hb (by omega) (A : Int) ((min C.length 64 : Nat) : Int)
  have ht2 := PBits.Take_is (Bs.pack C) (Bs.pack_bytes hcb) (by omega) 0 ((min C.length 64 : Nat) : Int)
  refine Ev.congr (fun k => by rw [hm]) (Ev.bind ht1 (Ev.bind ht2 ?_))
  have hw : wrap64 (((A + c : Nat) : Int) - (A : Int)) = (c : Int) := by rw [PBits.w64 _ (by omega)]; omega
  have hwant : PBits.tk (Bs.flat (Bs.pack C)) 0 ((min C.length 64 : Nat) : Int) = (Bs.number (C.take (min C.length 64)), true) := by
    have hfp := Bs.flat_pack hcb
    have hlen : (Bs.flat (Bs.pack C)).length = 8 * ((C.length + 7) / 8) := by rw [Bs.A10, hpl]
    rw [PBits.tk_yes (by omega)]
    simp only [Int.toNat_natCast, Int.toNat_zero, List.drop_zero]
    rw [hfp, List.take_append_of_le_length (by omega)]
  rw [hwant]
  by_cases e : C.length = c
  · subst e
    have hraw := tk_yes (Bs.flat b) A 0 (min C.length 64) (by omega) hA (by omega)
    rw [Nat.add_zero, List.drop_zero] at hraw
    rw [hraw]
    refine Ev.congr (fun k => by rw [hw, if_pos rfl]) ?_
    by_cases e2 : ((Bs.flat b).drop A).take (min C.length 64) = C.take (min C.length 64)
    · have e3 : C.length = C.length ∧ ((Bs.flat b).drop A).take (min C.length 64) = C.take (min C.length 64) := ⟨rfl, e2⟩
      rw [if_pos e3]
      refine Ev.congr (fun k => by rw [if_pos (by rw [e2])]) (Ev.now _)
    · have e3 : ¬ (C.length = C.length ∧ ((Bs.flat b).drop A).take (min C.length 64) = C.take (min C.length 64)) := fun h => e2 h.2
      rw [if_neg e3]
      refine Ev.congr (fun k => ?_) (Ev.now _)
      rw [if_neg]
      · rfl
      · intro h
        refine e2 (Bs.number_inj ((hfb.drop A).take _) (hcb.take _) ?_ h)
        rw [List.length_take, List.length_take]
        omega
  · have e3 : ¬ (C.length = c ∧ ((Bs.flat b).drop A).take (min c 64) = C.take (min c 64)) := fun h => e h.1
    rw [if_neg e3]
    refine Ev.congr (fun k => ?_) (Ev.now _)
    rw [hw, if_neg (show ¬ ((C.length : Int) = (c : Int)) by omega)]
    rfl
theorem Get_fail (k : Nat) (x : Int) (b' : List Int) (a' : Int) : A1d.j3 (k + 1) b (A : Int) x p (l : Int) (n : Int) b' a' false = some (gi (0, 0, 0, 0, 0, 2)) := by
 rw [A1d.j3, if_neg (by decide)]
 rfl
theorem Get_fail3 (k : Nat) (x y : Int) (b' : List Int) (a' : Int) (q : Bool) (z : Int) : A1d.j2 (k + 1) b (A : Int) x y true z (l : Int) (n : Int) b' a' q = some (gi (0, 0, 0, 0, 0, 3)) := by
 rw [A1d.j2, if_pos rfl]
 rfl
theorem Get_j1 (hA47 : A < 70368744177664) (hb8 : 8 * b.length < 140737488355328) (hRb : Bs.Bits ((Bs.flat b).drop A)) (h lead size : Nat) (hs : size ≤ 64) (hld : lead ≤ 64) (hh : h ≤ ((Bs.flat b).drop A).length) (h2 : 2 ≤ h) (h14 : h ≤ 14) (hr0 : rd ((Bs.flat b).drop A) 0 = 1)
    (hk : (h = 2 ∧ lead = l ∧ size = n ∧ rd ((Bs.flat b).drop A) 1 = 0) ∨ (h = 14 ∧ lead = ld ((Bs.flat b).drop A) ∧ size = sd ((Bs.flat b).drop A) ∧ rd ((Bs.flat b).drop A) 1 = 1)) (z : Bool) :
    Ev (fun k => A1d.j1 k b (A : Int) (lead : Int) (size : Int) z p (l : Int) (n : Int) b ((A + h : Nat) : Int) true) (gi (bd p l n ((Bs.flat b).drop A) h lead size)) := by
  unfold bd
  by_cases c0 : size = 0
  · rw [if_pos (.inl c0)]
    subst c0
    refine Ev.step (fun k => by rw [A1d.j1, if_pos (by decide)]) ?_
    exact Ev.step (g := fun k => _) (fun k => Get_fail3 b hb hl p hp l n hln A hA k _ _ _ _ _ _) (Ev.now (gi (0, 0, 0, 0, 0, 3)))
  refine Ev.step (fun k => by rw [A1d.j1, if_neg (nz c0), wadd lead size hld hs]) ?_
  by_cases c1 : lead + size > 64
  · rw [if_pos (.inr c1), decide_eq_true (gtc c1)]
    exact Ev.step (g := fun k => _) (fun k => Get_fail3 b hb hl p hp l n hln A hA k _ _ _ _ _ _) (Ev.now (gi (0, 0, 0, 0, 0, 3)))
  have c1' : lead + size ≤ 64 := Nat.le_of_not_lt c1
  rw [if_neg (fun h => h.elim c0 c1), decide_eq_false (gtc' c1)]
  have ht := take_k b hb hb8 ((A + h : Nat) : Int) (size : Int) true
  refine Ev.step (fun k => by rw [A1d.j2, if_neg Bool.false_ne_true, wsub lead size c1']) (Ev.bind ht ?_)
  refine Ev.congr (fun k => by rw [if_pos (Int.natCast_nonneg _)]) ?_
  by_cases c2 : ((Bs.flat b).drop A).length < h + size
  · rw [if_pos c2, tk_no (Bs.flat b) A h size hs hA c2]
    exact Ev.step (g := fun k => _) (fun k => Get_fail b hb hl p hp l n hln A hA k _ _ _) (Ev.now _)
  have c2' : h + size ≤ ((Bs.flat b).drop A).length := Nat.le_of_not_lt c2
  rw [if_neg c2, tk_yes (Bs.flat b) A h size hs hA c2', wrk A hA47 h size (Nat.le_trans (Nat.add_le_add h14 hs) (by decide))]
  have hxr := xv_range hRb h lead size c2' c1'
  simp only [Bool.and_true]
  rw [shl_xv _ _ _ _ c1' hxr]
  have h3 := Get_j3 b hb hl p hp l n hln A hA _ hxr (h + size) (Nat.le_trans (Nat.le_trans (by decide) h2) (Nat.le_add_right _ _)) c2'
  by_cases e : cb l n (xv ((Bs.flat b).drop A) h lead size) = ((Bs.flat b).drop A).take (h + size)
  · rw [if_pos e]
    rw [e] at h3
    have e3 : (((Bs.flat b).drop A).take (h + size)).length = h + size ∧ ((Bs.flat b).drop A).take (min (h + size) 64) = (((Bs.flat b).drop A).take (h + size)).take (min (h + size) 64) := by
      refine ⟨by rw [List.length_take]; exact Nat.min_eq_left c2', by rw [List.take_take, Nat.min_eq_left (Nat.min_le_left _ _)]⟩
    rw [if_pos e3] at h3
    exact h3
  · rw [if_neg e]
    rw [if_neg (fun hc => e (full hRb l n h lead size c2' c1' (Nat.pos_of_ne_zero c0) hln hr0 hk hc.1 hc.2))] at h3
    exact h3
theorem Get_11 (hA47 : A < 70368744177664) (hb8 : 8 * b.length < 140737488355328) (hRb : Bs.Bits ((Bs.flat b).drop A)) (z : Bool) (hr0 : rd ((Bs.flat b).drop A) 0 = 1) (hr1 : rd ((Bs.flat b).drop A) 1 = 1) (h2 : 2 ≤ ((Bs.flat b).drop A).length) :
    Ev (fun k => (A1p.f k b ((A + 2 : Nat) : Int) true 6).bind fun bt171 => (A1p.f k bt171.2.1 bt171.2.2.1 bt171.2.2.2 6).bind fun bt175 => if bt175.2.2.2 = true then (A1d.j1 k b (A : Int) (wrap64 (bt171.1)) (wrap64 ((wrap64 (bt175.1)) + 1)) z p (l : Int) (n : Int) bt175.2.1 bt175.2.2.1 bt175.2.2.2) else ((A2c.f 2).bind fun bt179 => (some (bt179.1, bt179.2.1, bt179.2.2.1, bt179.2.2.2.1, bt179.2.2.2.2.1, bt179.2.2.2.2.2))))
      (gi (if ((Bs.flat b).drop A).length < 14 then (0, 0, 0, 0, 0, 2) else bd p l n ((Bs.flat b).drop A) 14 (ld ((Bs.flat b).drop A)) (sd ((Bs.flat b).drop A)))) := by
  have t3 := take_k b hb hb8 ((A + 2 : Nat) : Int) 6 true
  rw [show wrap64 (((A + 2 : Nat) : Int) + 6) = ((A + 8 : Nat) : Int) from wrk A hA47 2 6 (by decide)] at t3
  refine Ev.bind t3 ?_
  have t4 := take_k b hb hb8 ((A + 8 : Nat) : Int) 6 (true && (PBits.tk (Bs.flat b) ((A + 2 : Nat) : Int) 6).2)
  rw [show wrap64 (((A + 8 : Nat) : Int) + 6) = ((A + 14 : Nat) : Int) from wrk A hA47 8 6 (by decide)] at t4
  refine Ev.bind t4 ?_
  by_cases c4 : ((Bs.flat b).drop A).length < 14
  · rw [if_pos c4]
    have hno := tk_no (Bs.flat b) A 8 6 (by decide) hA c4
    rw [show PBits.tk (Bs.flat b) ((A + 8 : Nat) : Int) 6 = (0, false) from hno]
    simp only [Bool.and_false]
    exact Ev.congr (fun k => if_neg (by simp)) (Ev.now _)
  rw [if_neg c4]
  have c4' : 14 ≤ ((Bs.flat b).drop A).length := Nat.le_of_not_lt c4
  have hy2 := tk_yes (Bs.flat b) A 2 6 (by decide) hA (Nat.le_trans (by decide) c4')
  have hy3 := tk_yes (Bs.flat b) A 8 6 (by decide) hA c4'
  rw [show PBits.tk (Bs.flat b) ((A + 2 : Nat) : Int) 6 = _ from hy2, show PBits.tk (Bs.flat b) ((A + 8 : Nat) : Int) 6 = _ from hy3]
  have hl1 := ld_lt hRb c4'
  have hs1 := sd_lt hRb c4'
  have h3 := Get_j1 b hb hl p hp l n hln A hA hA47 hb8 hRb 14 (ld ((Bs.flat b).drop A)) (sd ((Bs.flat b).drop A)) hs1.2.1 (Nat.le_of_lt hl1.2) c4' (by decide) (by decide) hr0 (.inr ⟨rfl, rfl, rfl, hr1⟩) z
  rw [← hl1.1]
  have e8 : Bs.number ((((Bs.flat b).drop A).drop 8).take 6) = (sd ((Bs.flat b).drop A) : Int) - 1 := by rw [hs1.1]; exact (Int.add_sub_cancel _ _).symm
  rw [e8]
  refine Ev.congr (fun k => ?_) h3
  simp only [Bool.and_true, if_true]
  rw [wsm _ hl1.2, wsn _ hs1.2.2 hs1.2.1]
theorem Get_in (hA47 : A < 70368744177664) (hb8 : 8 * b.length < 140737488355328) (hRb : Bs.Bits ((Bs.flat b).drop A)) : Ev (fun k => A1d.j0 k b (A : Int) false p (l : Int) (n : Int)) (gi (xg p l n ((Bs.flat b).drop A))) := by
 have t1 := take_k b hb hb8 (A : Int) 1 true
 rw [show wrap64 ((A : Int) + 1) = ((A + 1 : Nat) : Int) from wrk A hA47 0 1 (by decide)] at t1
 refine Ev.step (fun k => by rw [A1d.j0, if_neg (by decide)]) (Ev.bind t1 ?_)
 unfold xg
 by_cases c0 : ((Bs.flat b).drop A).length = 0
 ·rw [if_pos c0]
  have := tk_no (Bs.flat b) A 0 1 (by decide) hA (by rw [c0]; decide)
  rw [show PBits.tk (Bs.flat b) (A : Int) 1 = (0, false) from this]
  refine Ev.congr (fun k => if_neg (by simp)) ?_
  exact Ev.step (g := fun k => _) (fun k => Get_fail b hb hl p hp l n hln A hA k _ _ _) (Ev.now _)
 rw [if_neg c0]
 have c0' : 1 ≤ ((Bs.flat b).drop A).length := Nat.pos_of_ne_zero c0
 have hy := tk_yes (Bs.flat b) A 0 1 (by decide) hA c0'
 rw [List.drop_zero, num1 _ c0'] at hy
 rw [show PBits.tk (Bs.flat b) (A : Int) 1 = (rd ((Bs.flat b).drop A) 0, true) from hy]
 simp only [Bool.and_true]
 by_cases c1 : rd ((Bs.flat b).drop A) 0 = 0
 ·rw [if_pos c1]
  refine Ev.congr (fun k => if_neg (by rw [c1]; decide)) ?_
  have h3 := Get_j3 b hb hl p hp l n hln A hA 0 (by decide) 1 (Nat.le_refl _) c0'
  have hcz : cb l n 0 = [0] := by unfold cb; rw [if_pos rfl]
  have ht : ((Bs.flat b).drop A).take 1 = [0] := take1 _ c0' c1
  have e1 : cl l n 0 = l := by unfold cl; rw [if_pos rfl]
  have e2 : cn l n 0 = n := by unfold cn; rw [if_pos rfl]
  rw [hcz, Ib.xor_u64_zero p hp, e1, e2] at h3
  have e3 : ([0] : List Int).length = 1 ∧ ((Bs.flat b).drop A).take (min 1 64) = ([0] : List Int).take (min 1 64) := ⟨rfl, ht⟩
  rw [if_pos e3] at h3
  exact h3
 rw [if_neg c1]
 have r0 : rd ((Bs.flat b).drop A) 0 = 1 := (bit01 hRb 0 c0').resolve_left c1
 have t2 := take_k b hb hb8 ((A + 1 : Nat) : Int) 1 true
 rw [show wrap64 (((A + 1 : Nat) : Int) + 1) = ((A + 2 : Nat) : Int) from wrk A hA47 1 1 (by decide)] at t2
 refine Ev.congr (fun k => if_pos r0) (Ev.bind t2 ?_)
 by_cases c2 : ((Bs.flat b).drop A).length = 1
 ·rw [if_pos c2]
  have := tk_no (Bs.flat b) A 1 1 (by decide) hA (by rw [c2]; decide)
  rw [show PBits.tk (Bs.flat b) ((A + 1 : Nat) : Int) 1 = (0, false) from this]
  exact Ev.congr (fun k => if_neg (by simp)) (Ev.now _)
 rw [if_neg c2]
 have c2' : 2 ≤ ((Bs.flat b).drop A).length := Nat.lt_of_le_of_ne c0' (Ne.symm c2)
 have hy1 := tk_yes (Bs.flat b) A 1 1 (by decide) hA c2'
 rw [num1' _ 1 c2'] at hy1
 rw [show PBits.tk (Bs.flat b) ((A + 1 : Nat) : Int) 1 = (rd ((Bs.flat b).drop A) 1, true) from hy1]
 simp only [Bool.and_true, if_true]
 by_cases c3 : rd ((Bs.flat b).drop A) 1 = 1
 ·rw [if_pos c3]
  refine Ev.congr (fun k => if_pos c3) ?_
  exact Get_11 b hb hl p hp l n hln A hA hA47 hb8 hRb _ r0 c3 c2'
 ·rw [if_neg c3]
  have r1 : rd ((Bs.flat b).drop A) 1 = 0 := (bit01 hRb 1 c2').resolve_right c3
  refine Ev.congr (fun k => if_neg c3) ?_
  exact Get_j1 b hb hl p hp l n hln A hA hA47 hb8 hRb 2 l n (Nat.le_trans (Nat.le_add_left _ _) hln) (Nat.le_trans (Nat.le_add_right _ _) hln) c2' (by decide) (by decide) r0 (.inl ⟨rfl, rfl, rfl, r1⟩) _
end
theorem xg_nil (p : Int) (l n : Nat) : xg p l n [] = (0, 0, 0, 0, 0, 2) := by unfold xg; exact if_pos rfl
theorem Get_is (b : List Int) (hb : Bs.Bytes b) (hl : 8 * b.length < 70368744177664) (p : Int) (hp : 0 ≤ p ∧ p < 18446744073709551616) (l n : Nat) (hln : l + n ≤ 64) (a : Int) :
    Ev (fun k => A1d.f k p (l : Int) (n : Int) b a) (gi (xg p l n (PDod.restL (Bs.flat b) a))) := by
  have hfl := Bs.A10 b
  have w8 : wrap64 (8 * (b.length : Int)) = 8 * (b.length : Int) := PBits.w64 _ (by omega)
  unfold PDod.restL
  by_cases c1 : a < 0
  · rw [if_pos (.inl c1), xg_nil]
    refine Ev.congr (fun k => by unfold A1d.f; rw [if_pos c1]) ?_
    exact Ev.step (g := fun k => _) (fun k => by rw [A1d.j0, if_pos rfl]; rfl) (Ev.now (gi (0, 0, 0, 0, 0, 2)))
  by_cases c2 : a > ((Bs.flat b).length : Int)
  · rw [if_pos (.inr c2), xg_nil]
    refine Ev.congr (fun k => by unfold A1d.f; rw [if_neg c1, w8, decide_eq_true (by omega)]) ?_
    exact Ev.step (g := fun k => _) (fun k => by rw [A1d.j0, if_pos rfl]; rfl) (Ev.now (gi (0, 0, 0, 0, 0, 2)))
  rw [if_neg (by omega)]
  have h := Get_in b hb hl p hp l n hln a.toNat (by omega) (by omega) (by omega) ((Bs.flat_bits b).drop a.toNat)
  rw [show ((a.toNat : Nat) : Int) = a from by omega] at h
  refine Ev.congr (fun k => by unfold A1d.f; rw [if_neg c1, w8, decide_eq_false (by omega)]) h
end Go.Proofs.YtodocfjbpkicgaaDoor.PXor
end
section
namespace Go.Proofs.YtodocfjbpkicgaaDoor.PXor
open Go Go.RowKit Go.Proofs.YtodocfjbpkicgaaDoor Go.Proofs.YtodocfjbpkicgaaDoor.All Go.Proofs.YtodocfjbpkicgaaDoorW.PrintWords Go.Proofs.YtodocfjbpkicgaaDoorW.PrintLast
set_option linter.unusedVariables false
set_option linter.unusedSimpArgs false
set_option linter.unusedSectionVars false
theorem xg_ok (p : Int) (l n : Nat) (hln : l + n ≤ 64) (hp : 0 ≤ p ∧ p < 18446744073709551616) (R : List Int) (hR : Bs.Bits R) (h : (xg p l n R).2.2.2.2.2 = 0) :
    ∃ (d : Int) (m : Nat), 0 ≤ d ∧ d < 18446744073709551616 ∧ 1 ≤ m ∧ m ≤ R.length ∧ cb l n d = R.take m ∧ xg p l n R = (Go.bits .xor .u64 p d, Go.bits .xor .u64 p d, (cl l n d : Int), (cn l n d : Int), (m : Int), 0) := by
  have hbd : ∀ (h lead size : Nat), (bd p l n R h lead size).2.2.2.2.2 = 0 → ∃ (d : Int) (m : Nat), 0 ≤ d ∧ d < 18446744073709551616 ∧ 1 ≤ m ∧ m ≤ R.length ∧ cb l n d = R.take m ∧ bd p l n R h lead size = (Go.bits .xor .u64 p d, Go.bits .xor .u64 p d, (cl l n d : Int), (cn l n d : Int), (m : Int), 0) := by
    intro h lead size hh
    unfold bd at hh ⊢
    by_cases c0 : size = 0 ∨ lead + size > 64
    · rw [if_pos c0] at hh
      exact absurd hh (by decide)
    rw [if_neg c0] at hh ⊢
    by_cases c1 : R.length < h + size
    · rw [if_pos c1] at hh
      exact absurd hh (by decide)
    rw [if_neg c1] at hh ⊢
    by_cases c2 : cb l n (xv R h lead size) = R.take (h + size)
    · rw [if_pos c2]
      have hx := xv_range hR h lead size (by omega) (by omega)
      exact ⟨_, _, hx.1, hx.2, by omega, by omega, c2, rfl⟩
    · rw [if_neg c2] at hh
      exact absurd hh (by decide)
  unfold xg at h ⊢
  by_cases c0 : R.length = 0
  · rw [if_pos c0] at h
    exact absurd h (by decide)
  rw [if_neg c0] at h ⊢
  by_cases c1 : rd R 0 = 0
  · rw [if_pos c1]
    refine ⟨0, 1, by decide, by decide, by decide, by omega, ?_, ?_⟩
    · rw [take1 R (by omega) c1]
      unfold cb
      rw [if_pos rfl]
    · unfold cl cn
      rw [if_pos rfl, if_pos rfl, Ib.xor_u64_zero p hp]
      rfl
  rw [if_neg c1] at h ⊢
  by_cases c2 : R.length = 1
  · rw [if_pos c2] at h
    exact absurd h (by decide)
  rw [if_neg c2] at h ⊢
  by_cases c3 : rd R 1 = 1
  · rw [if_pos c3] at h ⊢
    by_cases c4 : R.length < 14
    · rw [if_pos c4] at h
      exact absurd h (by decide)
    rw [if_neg c4] at h ⊢
    exact hbd _ _ _ h
  · rw [if_neg c3] at h ⊢
    exact hbd _ _ _ h
end Go.Proofs.YtodocfjbpkicgaaDoor.PXor
end
section
namespace Go.Proofs.YtodocfjbpkicgaaDoor.PFill
open Go Go.RowKit Go.Proofs.YtodocfjbpkicgaaDoor Go.Proofs.YtodocfjbpkicgaaDoor.All Go.Proofs.YtodocfjbpkicgaaDoorW.PrintWords Go.Proofs.YtodocfjbpkicgaaDoorW.PrintLast
set_option linter.unusedVariables false
set_option linter.unusedSimpArgs false
theorem two64 : (2 : Int) ^ 64 = 18446744073709551616 := by decide
theorem pow_split (a b : Nat) : (2 : Int) ^ (a + b) = 2 ^ a * 2 ^ b := Int.pow_add ..
theorem shl_u64 (x : Int) (s : Nat) (h : s ≤ 64) : shl .u64 x (s : Int) = x * 2 ^ s % 18446744073709551616 := by
 unfold shl
 rw [Int.toNat_natCast, show IntKind.u64.bits = 64 from rfl, Nat.min_eq_left h, Ib.wrap_u64]
theorem shr_u64 (x : Int) (s : Nat) (h : s ≤ 64) : shr .u64 x (s : Int) = x / 2 ^ s := by
 unfold shr
 rw [Int.toNat_natCast, show IntKind.u64.bits = 64 from rfl, Nat.min_eq_left h]
theorem or_u64_sum (t y : Int) (s : Nat) (hs : s ≤ 64) (h : 0 ≤ t * 2 ^ s ∧ t * 2 ^ s < 18446744073709551616) (hy : 0 ≤ y ∧ y < 2 ^ s) : Go.bits .or .u64 (t * 2 ^ s) y = t * 2 ^ s + y := by
 have h1 : (2 : Int) ^ s ≤ 2 ^ 64 := PBits.pow_le hs
 have h2 := two64
 have h3 := Bs.pow_pos s
 have h4 : (0 : Int) ≤ t := by
  refine Decidable.byContradiction fun h5 => ?_
  have := Int.mul_le_mul_of_nonneg_right (show t ≤ -1 by omega) (Int.le_of_lt h3)
  omega
 rw [Ib.or_u64 _ _ h (by omega)]
 obtain ⟨m, rfl⟩ := Int.eq_ofNat_of_zero_le h4
 obtain ⟨z, rfl⟩ := Int.eq_ofNat_of_zero_le hy.1
 have h6 : ((m : Int) * 2 ^ s) = ((2 ^ s * m : Nat) : Int) := by push_cast; rw [Int.mul_comm]
 have h7 : z < 2 ^ s := by have := hy.2; exact_mod_cast this
 rw [h6, Int.toNat_natCast, Int.toNat_natCast, ← Nat.two_pow_add_eq_or_of_lt h7 m]
 push_cast
 rfl
theorem tmod_8 (n : Nat) : Int.tmod (n : Int) 8 = ((n % 8 : Nat) : Int) := by rw [PBits.tmod_nat _ (Int.natCast_nonneg n)]; omega
def top (W : List Int) : Int := Bs.number W * 2 ^ (64 - W.length)
theorem top_range {W : List Int} (hW : Bs.Bits W) (h : W.length ≤ 64) : 0 ≤ top W ∧ top W < 18446744073709551616 := by
 have hr := Bs.A2j hW
 unfold top
 have h3 := Bs.pow_pos (64 - W.length)
 have e : (2 : Int) ^ W.length * 2 ^ (64 - W.length) = 18446744073709551616 := by rw [← pow_split, Nat.add_sub_cancel' h, two64]
 refine ⟨Int.mul_nonneg hr.1 (Int.le_of_lt h3), ?_⟩
 rw [← e]
 exact Int.mul_lt_mul_of_pos_right hr.2 h3
theorem number_cut (W : List Int) (n : Nat) : Bs.number W = Bs.number (W.take n) * 2 ^ (W.length - n) + Bs.number (W.drop n) := by
 have h := Bs.A3l (W.take n) (W.drop n)
 rw [List.take_append_drop, List.length_drop] at h
 exact h
theorem top_shl {W : List Int} (hW : Bs.Bits W) (h : W.length ≤ 64) (n : Nat) (hn : n ≤ W.length) : top W * 2 ^ n % 18446744073709551616 = top (W.drop n) := by
 have hd := top_range (hW.drop n) (by rw [List.length_drop]; omega)
 have e : top W * 2 ^ n = Bs.number (W.take n) * 18446744073709551616 + top (W.drop n) := by
  unfold top
  rw [number_cut W n, List.length_drop, Int.add_mul, Int.add_mul, show 64 - (W.length - n) = 64 - W.length + n from by omega, pow_split (64 - W.length) n, Int.mul_assoc (Bs.number (W.drop n))]
  congr 1
  rw [Int.mul_assoc, Int.mul_assoc, ← pow_split, ← pow_split, show W.length - n + (64 - W.length + n) = 64 from by omega, two64]
 rw [e, Int.mul_add_emod_self_right, Int.emod_eq_of_lt hd.1 hd.2]
theorem top_shr {W : List Int} (hW : Bs.Bits W) (h : W.length ≤ 64) (n : Nat) (hn : n ≤ 64) : top W / 2 ^ (64 - n) = Bs.number ((W ++ List.replicate n 0).take n) := by
 have hp := Bs.pow_pos (64 - n)
 by_cases c : n ≤ W.length
 ·rw [List.take_append_of_le_length c]
  have hr := Bs.A2j (hW.drop n)
  have e : top W = Bs.number (W.drop n) * 2 ^ (64 - W.length) + 2 ^ (64 - n) * Bs.number (W.take n) := by
   unfold top
   rw [number_cut W n, Int.add_mul, Int.mul_assoc, ← pow_split, show W.length - n + (64 - W.length) = 64 - n from by omega, Int.add_comm, Int.mul_comm (2 ^ (64 - n))]
  have hb : 0 ≤ Bs.number (W.drop n) * 2 ^ (64 - W.length) ∧ Bs.number (W.drop n) * 2 ^ (64 - W.length) < 2 ^ (64 - n) := by
   have h3 := Bs.pow_pos (64 - W.length)
   refine ⟨Int.mul_nonneg hr.1 (Int.le_of_lt h3), ?_⟩
   rw [show 64 - n = (W.drop n).length + (64 - W.length) from by rw [List.length_drop]; omega, pow_split]
   exact Int.mul_lt_mul_of_pos_right hr.2 h3
  rw [e, Int.add_mul_ediv_left _ _ (Int.ne_of_gt hp), Int.ediv_eq_zero_of_lt hb.1 hb.2, Int.zero_add]
 ·have e : (W ++ List.replicate n (0 : Int)).take n = W ++ List.replicate (n - W.length) 0 := by
   rw [List.take_append, List.take_of_length_le (by omega), List.take_replicate, Nat.min_eq_left (by omega)]
  have e2 : top W = Bs.number W * 2 ^ (n - W.length) * 2 ^ (64 - n) := by
   unfold top
   rw [Int.mul_assoc, ← pow_split, show n - W.length + (64 - n) = 64 - W.length from by omega]
  rw [e, Bs.A3r, e2, Int.mul_ediv_cancel _ (Int.ne_of_gt hp)]
def Inv (R b : List Int) (u h : Int) : Prop := ∃ W : List Int, Bs.Bits W ∧ W.length ≤ 64 ∧ h = (W.length : Int) ∧ u = top W ∧ R = W ++ Bs.flat b ∧ Bs.Bytes b ∧ 8 * b.length < 70368744177664
theorem Inv.bits {R b : List Int} {u h : Int} (hI : Inv R b u h) : Bs.Bits R := by
 obtain ⟨W, hW, h64, hh, hu, hR, hb, hl⟩ := hI
 rw [hR]
 exact hW.append (Bs.flat_bits b)
theorem Inv.len {R b : List Int} {u h : Int} (hI : Inv R b u h) : R.length < 140737488355328 := by
 obtain ⟨W, hW, h64, hh, hu, hR, hb, hl⟩ := hI
 rw [hR, List.length_append, Bs.A10]
 omega
theorem New_is (b : List Int) (hb : Bs.Bytes b) (hl : 8 * b.length < 70368744177664) : Inv (Bs.flat b) b 0 0 :=
 ⟨[], Bs.Bits.nil, by simp, rfl, by decide, rfl, hb, hl⟩
theorem Left_is {R b : List Int} {u h : Int} (hI : Inv R b u h) : A1e.f b u h = some ((R.length : Int), b, u, h) := by
 obtain ⟨W, hW, h64, hh, hu, hR, hb, hl⟩ := hI
 have e : R.length = W.length + 8 * b.length := by rw [hR, List.length_append, Bs.A10]
 have e1 : wrap64 (8 * (b.length : Int)) = ((8 * b.length : Nat) : Int) := by rw [PBits.w64 _ (by omega)]; omega
 have e2 : wrap64 ((W.length : Int) + ((8 * b.length : Nat) : Int)) = (R.length : Int) := by rw [e, PBits.w64 _ (by omega)]; omega
 unfold A1e.f
 rw [hh, e1, e2]
theorem refill_l0 : ∀ (f : Nat) (R b : List Int) (u h : Int), b.length = f → Inv R b u h →
    ∃ b' u' h', Ev (fun k => A0u.l0 k b u h) (b', u', h') ∧ Inv R b' u' h' ∧ (b' = [] ∨ 56 < h') := by
  intro f
  induction f with
  | zero =>
    intro R b u h hf hI
    have hb : b = [] := List.eq_nil_of_length_eq_zero hf
    subst hb
    refine ⟨[], u, h, ?_, hI, .inl rfl⟩
    have hn : ¬ ((([] : List Int).length : Int) > 0) := by simp
    refine Ev.step (fun k => by rw [A0u.l0]) ?_
    by_cases c : h ≤ 56
    · simp only [if_pos c, if_neg hn]
      exact Ev.now _
    · simp only [if_neg c]
      exact Ev.now _
  | succ f ih =>
    intro R b u h hf hI
    by_cases c : h ≤ 56
    · have hI0 := hI
      obtain ⟨W, hW, h64, hh, hu, hR, hb, hl⟩ := hI
      cases b with
      | nil => simp at hf
      | cons x t =>
        have hx := hb x (List.mem_cons_self)
        have hw : W.length ≤ 56 := by omega
        have ht : Bs.Bytes t := fun z hz => hb z (List.mem_cons_of_mem _ hz)
        have c0 : (((x :: t).length : Nat) : Int) > 0 := by rw [List.length_cons]; omega
        have c1 : (1 : Int) ≤ (((x :: t).length : Nat) : Int) := c0
        have hrd : rd (x :: t) 0 = x := PBits.rd_at (x :: t) 0 (by simp)
        have e56 : wrap64 (56 - h) = ((56 - W.length : Nat) : Int) := by rw [hh, PBits.w64 _ (by omega)]; omega
        have ge0 : (0 : Int) ≤ ((56 - W.length : Nat) : Int) := Int.natCast_nonneg _
        have e8 : wrap64 (h + 8) = ((W ++ Bs.low x 8).length : Int) := by rw [hh, PBits.w64 _ (by omega), List.length_append, Bs.A1k]; omega
        have hxu : IntKind.u64.wrap x = x := by rw [Ib.wrap_u64]; omega
        have hpw : x * 2 ^ (56 - W.length) < 2 ^ (64 - W.length) := by
          rw [show 64 - W.length = 8 + (56 - W.length) from by omega, pow_split]
          exact Int.mul_lt_mul_of_pos_right hx.2 (Bs.pow_pos _)
        have hp0 : 0 ≤ x * 2 ^ (56 - W.length) := Int.mul_nonneg hx.1 (Int.le_of_lt (Bs.pow_pos _))
        have hple : (2 : Int) ^ (64 - W.length) ≤ 2 ^ 64 := PBits.pow_le (by omega)
        have hsh : shl .u64 x ((56 - W.length : Nat) : Int) = x * 2 ^ (56 - W.length) := by
          rw [shl_u64 _ _ (by omega), Int.emod_eq_of_lt hp0 (Int.lt_of_lt_of_le hpw (by rw [two64] at hple; exact hple))]
        have hor : Go.bits .or .u64 u (x * 2 ^ (56 - W.length)) = top (W ++ Bs.low x 8) := by
          rw [hu]
          have htr := top_range hW h64
          unfold top at htr ⊢
          rw [or_u64_sum _ _ (64 - W.length) (by omega) htr ⟨hp0, hpw⟩, Bs.A3l, Bs.A3q, Bs.A1k, List.length_append, Bs.A1k, show x % 2 ^ 8 = x from Int.emod_eq_of_lt hx.1 hx.2, Int.add_mul, Int.mul_assoc, ← pow_split, show 8 + (64 - (W.length + 8)) = 64 - W.length from by omega, show 64 - (W.length + 8) = 56 - W.length from by omega]
        have hI2 : Inv R t (top (W ++ Bs.low x 8)) ((W ++ Bs.low x 8).length : Int) := by
          refine ⟨W ++ Bs.low x 8, hW.append (Bs.low_bits _ _), by rw [List.length_append, Bs.A1k]; omega, rfl, rfl, ?_, ht, by rw [List.length_cons] at hl; omega⟩
          rw [hR, Bs.A3g, List.append_assoc]
        obtain ⟨b', u', h', hE, hI', hend⟩ := ih R t _ _ (by rw [List.length_cons] at hf; omega) hI2
        refine ⟨b', u', h', ?_, hI', hend⟩
        refine Ev.step (fun k => by rw [A0u.l0]) ?_
        simp only [if_pos c, if_pos c0, if_pos c1, e56, if_pos ge0, hrd, hxu, hsh, hor, e8, List.drop_succ_cons, List.drop_zero]
        exact hE
    · refine ⟨b, u, h, ?_, hI, .inr (by omega)⟩
      refine Ev.step (fun k => by rw [A0u.l0]) ?_
      simp only [if_neg c]
      exact Ev.now _
theorem refill_is {R b : List Int} {u h : Int} (hI : Inv R b u h) : ∃ b' u' h', Ev (fun k => A0u.f k b u h) (b', u', h') ∧ Inv R b' u' h' ∧ (b' = [] ∨ 56 < h') :=
 refill_l0 b.length R b u h rfl hI
def pk (R : List Int) (n : Int) : Int := if n < 1 ∨ n > 56 then 0 else Bs.number ((R ++ List.replicate n.toNat 0).take n.toNat)
theorem Peek_is {R b : List Int} {u h : Int} (hI : Inv R b u h) (n : Int) :
    ∃ b' u' h', Ev (fun k => A03.f k b u h n) (pk R n, b', u', h') ∧ Inv R b' u' h' ∧ (1 ≤ n → n ≤ 56 → n ≤ (R.length : Int) → n ≤ h') := by
  by_cases c1 : n < 1
  · refine ⟨b, u, h, ?_, hI, fun h1 => by omega⟩
    unfold A03.f pk
    rw [if_pos (Or.inl c1)]
    simp only [if_pos c1]
    exact Ev.now _
  by_cases c2 : n > 56
  · refine ⟨b, u, h, ?_, hI, fun _ h2 => by omega⟩
    unfold A03.f pk
    rw [if_pos (Or.inr c2)]
    simp only [if_neg c1, if_pos c2]
    exact Ev.now _
  obtain ⟨b', u', h', hE, hI', hend⟩ := refill_is hI
  have hI2 := hI'
  obtain ⟨W, hW, h64, hh, hu, hR, hb, hl⟩ := hI'
  obtain ⟨m, rfl⟩ : ∃ m : Nat, n = (m : Int) := ⟨n.toNat, by omega⟩
  have hm : m ≤ 64 := by omega
  refine ⟨b', u', h', ?_, hI2, fun _ _ h3 => ?_⟩
  · have e : wrap64 (64 - (m : Int)) = ((64 - m : Nat) : Int) := by rw [PBits.w64 _ (by omega)]; omega
    have ge0 : (0 : Int) ≤ ((64 - m : Nat) : Int) := Int.natCast_nonneg _
    have hv : shr .u64 u' ((64 - m : Nat) : Int) = pk R (m : Int) := by
      unfold pk
      rw [if_neg (fun hc => hc.elim c1 c2), hu, shr_u64 _ _ (by omega), top_shr hW h64 m hm, Int.toNat_natCast, hR]
      congr 1
      by_cases c : m ≤ W.length
      · rw [List.take_append_of_le_length c, List.append_assoc, List.take_append_of_le_length c]
      · rcases hend with hend | hend
        · rw [hend, Bs.flat_nil, List.append_nil]
        · omega
    unfold A03.f
    simp only [if_neg c1, if_neg c2]
    refine Ev.bind hE ?_
    simp only [e, if_pos ge0, hv]
    exact Ev.now _
  · rcases hend with hend | hend
    · rw [hR, hend, Bs.flat_nil, List.append_nil, ← hh] at h3
      exact h3
    · omega
theorem drop_is {R b : List Int} {u h : Int} (hI : Inv R b u h) (n : Nat) (hn : (n : Int) ≤ h) : ∃ u' h', A1n.f b u h (n : Int) = some (b, u', h') ∧ Inv (R.drop n) b u' h' ∧ h' = h - (n : Int) := by
 obtain ⟨W, hW, h64, hh, hu, hR, hb, hl⟩ := hI
 have hnW : n ≤ W.length := by omega
 have e : wrap64 (h - (n : Int)) = ((W.drop n).length : Int) := by rw [hh, PBits.w64 _ (by omega), List.length_drop]; omega
 refine ⟨top (W.drop n), ((W.drop n).length : Int), ?_, ⟨W.drop n, hW.drop n, by rw [List.length_drop]; omega, rfl, rfl, ?_, hb, hl⟩, by rw [List.length_drop, hh]; omega⟩
 ·unfold A1n.f
  rw [if_pos (Int.natCast_nonneg n), e, hu, shl_u64 _ _ (by omega), top_shl hW h64 n hnW]
 ·rw [hR, List.drop_append_of_le_length hnW]
theorem Skip_is {R b : List Int} {u h : Int} (hI : Inv R b u h) (n : Int) (hn : n < 9223372036854775808) :
    ∃ b' u' h', Ev (fun k => A0x.f k b u h n) (decide (0 ≤ n ∧ n ≤ (R.length : Int)), b', u', h') ∧ Inv (if 0 ≤ n ∧ n ≤ (R.length : Int) then R.drop n.toNat else R) b' u' h' := by
  have hout : ∀ x, x = true → Ev (fun k => A0x.j0 k n x b u h) (false, b, u, h) := by
    intro x hx
    subst hx
    refine Ev.step (fun k => by rw [A0x.j0]) ?_
    simp only [if_true]
    exact Ev.now _
  by_cases c1 : n < 0
  · have hno : ¬ (0 ≤ n ∧ n ≤ (R.length : Int)) := by omega
    rw [if_neg hno, decide_eq_false hno]
    refine ⟨b, u, h, ?_, hI⟩
    unfold A0x.f
    simp only [if_pos c1]
    exact hout _ rfl
  have hL := Left_is hI
  by_cases c2 : n > (R.length : Int)
  · have hno : ¬ (0 ≤ n ∧ n ≤ (R.length : Int)) := by omega
    rw [if_neg hno, decide_eq_false hno]
    refine ⟨b, u, h, ?_, hI⟩
    unfold A0x.f
    simp only [if_neg c1, hL, Option.bind_some]
    exact hout _ (decide_eq_true c2)
  have hyes : 0 ≤ n ∧ n ≤ (R.length : Int) := by omega
  rw [if_pos hyes, decide_eq_true hyes]
  obtain ⟨m, rfl⟩ : ∃ m : Nat, n = (m : Int) := ⟨n.toNat, by omega⟩
  rw [Int.toNat_natCast]
  have hbegin : ∀ r, Ev (fun k => A0x.j0 k (m : Int) false b u h) r → Ev (fun k => A0x.f k b u h (m : Int)) r := by
    intro r hr
    unfold A0x.f
    simp only [if_neg c1, hL, Option.bind_some, decide_eq_false c2]
    exact hr
  by_cases c3 : (m : Int) > h
  · have hI0 := hI
    obtain ⟨W, hW, h64, hh, hu, hR, hb, hl⟩ := hI
    have hRl : R.length = W.length + 8 * b.length := by rw [hR, List.length_append, Bs.A10]
    obtain ⟨u1, h1, hd1, hI1, hh1⟩ := drop_is hI0 W.length (by omega)
    have hR1 : R.drop W.length = Bs.flat b := by rw [hR, List.drop_left]
    rw [hR1] at hI1
    obtain ⟨q, hq⟩ : ∃ q, q = (m - W.length) / 8 := ⟨_, rfl⟩
    obtain ⟨s, hs⟩ : ∃ s, s = (m - W.length) % 8 := ⟨_, rfl⟩
    have hqs : m = W.length + 8 * q + s := by omega
    have hs8 : s < 8 := by omega
    have hqb : q ≤ b.length := by omega
    have bd1 : m - W.length < 9223372036854775808 := by omega
    have bd2 : -9223372036854775808 ≤ (m : Int) - (W.length : Int) ∧ (m : Int) - (W.length : Int) < 9223372036854775808 := by omega
    have bd3 : (m : Int) - (W.length : Int) = ((m - W.length : Nat) : Int) := by omega
    have g0 : (0 : Int) ≤ (q : Int) := Int.natCast_nonneg _
    have g1 : (q : Int) ≤ (b.length : Int) := Int.ofNat_le.2 hqb
    obtain ⟨W1, hW1, h164, hh1', hu1, hR1', hb1, hl1⟩ := hI1
    have hW1n : W1 = [] := List.eq_nil_of_length_eq_zero (by omega)
    have hI2 : Inv (Bs.flat (b.drop q)) (b.drop q) u1 h1 := ⟨W1, hW1, h164, hh1', hu1, by rw [hW1n]; rfl, hb.drop q, by rw [List.length_drop]; omega⟩
    obtain ⟨b3, u3, h3, hE3, hI3, hend⟩ := refill_is hI2
    have hfl : (Bs.flat (b.drop q)).length = 8 * (b.length - q) := by rw [Bs.A10, List.length_drop]
    have hs3 : (s : Int) ≤ h3 := by
      rcases hend with hend | hend
      · obtain ⟨W3, hW3, h364, hh3, hu3, hR3, hb3, hl3⟩ := hI3
        rw [hend, Bs.flat_nil, List.append_nil] at hR3
        rw [hR3] at hfl
        omega
      · omega
    obtain ⟨u4, h4, hd4, hI4, hh4⟩ := drop_is hI3 s hs3
    have e0 : wrap64 ((m : Int) - h) = ((m - W.length : Nat) : Int) := by rw [hh, PBits.w64 _ bd2, bd3]
    have e1 : wrap64 (Int.tdiv ((m - W.length : Nat) : Int) 8) = (q : Int) := by rw [PBits.at_byte _ bd1, hq]
    have e2 : Int.tmod ((m - W.length : Nat) : Int) 8 = (s : Int) := by rw [tmod_8, hs]
    refine ⟨b3, u4, h4, ?_, ?_⟩
    · refine hbegin _ ?_
      have hd1' : A1n.f b u h h = some (b, u1, h1) := by rw [← hh] at hd1; exact hd1
      refine Ev.step (fun k => by rw [A0x.j0]) ?_
      simp only [Bool.false_eq_true, if_false, if_pos c3, hd1', Option.bind_some, e0, e1, e2, if_pos g0, if_pos g1, Int.toNat_natCast]
      refine Ev.bind hE3 ?_
      simp only [hd4, Option.bind_some]
      exact Ev.now _
    · have : R.drop m = (Bs.flat (b.drop q)).drop s := by
        rw [← Bs.flat_drop, List.drop_drop, ← hR1, List.drop_drop, hqs, Nat.add_assoc]
      rw [this]
      exact hI4
  · obtain ⟨u1, h1, hd1, hI1, hh1⟩ := drop_is hI m (by omega)
    refine ⟨b, u1, h1, ?_, hI1⟩
    refine hbegin _ ?_
    refine Ev.step (fun k => by rw [A0x.j0]) ?_
    simp only [Bool.false_eq_true, if_false, if_neg c3, hd1, Option.bind_some]
    exact Ev.now _
theorem pk_in (R : List Int) (m : Nat) (h0 : m ≤ 56) (h1 : m ≤ R.length) : pk R (m : Int) = Bs.number (R.take m) := by
 unfold pk
 by_cases c : m = 0
 ·subst c; rfl
 ·rw [if_neg (by omega), Int.toNat_natCast, List.take_append_of_le_length h1]
theorem look_drop {R b : List Int} {u h : Int} (hI : Inv R b u h) (m : Nat) (h0 : m ≤ 56) (h1 : m ≤ R.length) :
    ∃ b1 u1 h1 u2 h2, Ev (fun k => A03.f k b u h (m : Int)) (Bs.number (R.take m), b1, u1, h1) ∧ A1n.f b1 u1 h1 (m : Int) = some (b1, u2, h2) ∧ Inv (R.drop m) b1 u2 h2 := by
  obtain ⟨b1, u1, h1', hE, hI1, hle⟩ := Peek_is hI (m : Int)
  rw [pk_in R m h0 h1] at hE
  have hm : (m : Int) ≤ h1' := by
    by_cases c : m = 0
    · obtain ⟨W, hW, h64, hh, hu, hR, hb, hl⟩ := hI1
      omega
    · exact hle (by omega) (by omega) (by omega)
  obtain ⟨u2, h2, hd, hI2, _⟩ := drop_is hI1 m hm
  exact ⟨b1, u1, h1', u2, h2, hE, hd, hI2⟩
def rdv (R : List Int) (n : Int) : Int × Bool := if n < 0 ∨ n > 64 ∨ n > (R.length : Int) then (0, false) else (Bs.number (R.take n.toNat), true)
def rdR (R : List Int) (n : Int) : List Int := if n < 0 ∨ n > 64 ∨ n > (R.length : Int) then R else R.drop n.toNat
theorem Read_is {R b : List Int} {u h : Int} (hI : Inv R b u h) (n : Int) :
    ∃ b' u' h', Ev (fun k => A0j.f k b u h n) ((rdv R n).1, (rdv R n).2, b', u', h') ∧ Inv (rdR R n) b' u' h' := by
  have hout : ∀ x, x = true → Ev (fun k => A0j.j0 k n x b u h) (0, false, b, u, h) := by
    intro x hx
    subst hx
    refine Ev.step (fun k => by rw [A0j.j0]) ?_
    simp only [if_true]
    exact Ev.now _
  have hL := Left_is hI
  by_cases c1 : n < 0
  · have hno : n < 0 ∨ n > 64 ∨ n > (R.length : Int) := .inl c1
    rw [show rdv R n = (0, false) from if_pos hno, show rdR R n = R from if_pos hno]
    refine ⟨b, u, h, ?_, hI⟩
    unfold A0j.f
    simp only [if_pos c1]
    exact hout _ rfl
  by_cases c2 : n > 64
  · have hno : n < 0 ∨ n > 64 ∨ n > (R.length : Int) := .inr (.inl c2)
    rw [show rdv R n = (0, false) from if_pos hno, show rdR R n = R from if_pos hno]
    refine ⟨b, u, h, ?_, hI⟩
    unfold A0j.f
    simp only [if_neg c1, if_pos c2]
    exact hout _ rfl
  by_cases c3 : n > (R.length : Int)
  · have hno : n < 0 ∨ n > 64 ∨ n > (R.length : Int) := .inr (.inr c3)
    rw [show rdv R n = (0, false) from if_pos hno, show rdR R n = R from if_pos hno]
    refine ⟨b, u, h, ?_, hI⟩
    unfold A0j.f
    simp only [if_neg c1, if_neg c2, hL, Option.bind_some]
    exact hout _ (decide_eq_true c3)
  have hno : ¬ (n < 0 ∨ n > 64 ∨ n > (R.length : Int)) := fun hc => hc.elim c1 fun hc => hc.elim c2 c3
  rw [show rdv R n = (Bs.number (R.take n.toNat), true) from if_neg hno, show rdR R n = R.drop n.toNat from if_neg hno]
  have hbits := hI.bits
  obtain ⟨m, rfl⟩ : ∃ m : Nat, n = (m : Int) := ⟨n.toNat, by omega⟩
  rw [Int.toNat_natCast]
  have hbegin : ∀ r, Ev (fun k => A0j.j0 k (m : Int) false b u h) r → Ev (fun k => A0j.f k b u h (m : Int)) r := by
    intro r hr
    unfold A0j.f
    simp only [if_neg c1, if_neg c2, hL, Option.bind_some, decide_eq_false c3]
    exact hr
  have hmR : m ≤ R.length := by omega
  have hm64 : m ≤ 64 := by omega
  by_cases c4 : (m : Int) ≤ 56
  · obtain ⟨b1, u1, h1, u2, h2, hE, hd, hI2⟩ := look_drop hI m (by omega) hmR
    refine ⟨b1, u2, h2, ?_, hI2⟩
    refine hbegin _ ?_
    refine Ev.step (fun k => by rw [A0j.j0]) ?_
    simp only [Bool.false_eq_true, if_false, if_pos c4]
    refine Ev.bind hE ?_
    simp only [hd, Option.bind_some]
    exact Ev.now _
  · obtain ⟨s, hs⟩ : ∃ s, s = m - 32 := ⟨_, rfl⟩
    have hms : m = 32 + s := by omega
    have hs32 : s ≤ 32 := by omega
    obtain ⟨b1, u1, h1, u2, h2, hE, hd, hI2⟩ := look_drop hI 32 (by omega) (by omega)
    obtain ⟨b3, u3, h3, u4, h4, hE2, hd2, hI4⟩ := look_drop hI2 s (by omega) (by rw [List.length_drop]; omega)
    have g0 : (0 : Int) ≤ (s : Int) := Int.natCast_nonneg _
    have hb1 : -9223372036854775808 ≤ (m : Int) - 32 ∧ (m : Int) - 32 < 9223372036854775808 := by omega
    have hb2 : (m : Int) - 32 = (s : Int) := by omega
    have hs64 : s ≤ 64 := by omega
    have hA := Bs.A2j (hbits.take 32)
    have hB := Bs.A2j ((hbits.drop 32).take s)
    have lA : (R.take 32).length = 32 := by rw [List.length_take]; omega
    have lB : ((R.drop 32).take s).length = s := by rw [List.length_take, List.length_drop]; omega
    have hn : Bs.number (R.take m) = Bs.number (R.take 32) * 2 ^ s + Bs.number ((R.drop 32).take s) := by rw [hms, List.take_add, Bs.A3l, lB]
    rw [lA] at hA
    rw [lB] at hB
    have hps := Bs.pow_pos s
    have hle : (2 : Int) ^ s ≤ 2 ^ 32 := PBits.pow_le hs32
    have hq0 : 0 ≤ Bs.number (R.take 32) * 2 ^ s := Int.mul_nonneg hA.1 (Int.le_of_lt hps)
    have hq1 : Bs.number (R.take 32) * 2 ^ s < 18446744073709551616 := by
      have h1 := Int.mul_lt_mul_of_pos_right hA.2 hps
      have h2 := Int.mul_le_mul_of_nonneg_left hle (show (0 : Int) ≤ 2 ^ 32 by decide)
      rw [show (2 : Int) ^ 32 * 2 ^ 32 = 18446744073709551616 from by decide] at h2
      omega
    have hsh : shl .u64 (Bs.number (R.take 32)) (s : Int) = Bs.number (R.take 32) * 2 ^ s := by rw [shl_u64 _ _ hs64, Int.emod_eq_of_lt hq0 hq1]
    have hor : Go.bits .or .u64 (shl .u64 (Bs.number (R.take 32)) (s : Int)) (Bs.number ((R.drop 32).take s)) = Bs.number (R.take m) := by
      rw [hsh, or_u64_sum _ _ s hs64 ⟨hq0, hq1⟩ hB, hn]
    have hdd : (R.drop 32).drop s = R.drop m := by rw [List.drop_drop, hms]
    rw [hdd] at hI4
    have e : wrap64 ((m : Int) - 32) = (s : Int) := by rw [PBits.w64 _ hb1, hb2]
    refine ⟨b3, u4, h4, ?_, hI4⟩
    refine hbegin _ ?_
    refine Ev.step (fun k => by rw [A0j.j0]) ?_
    have hE' : Ev (fun k => A03.f k b u h 32) (Bs.number (R.take 32), b1, u1, h1) := hE
    have hd' : A1n.f b1 u1 h1 32 = some (b1, u2, h2) := hd
    simp only [Bool.false_eq_true, if_false, if_neg c4, e]
    refine Ev.bind hE' ?_
    simp only [hd', Option.bind_some]
    refine Ev.bind hE2 ?_
    simp only [hd2, Option.bind_some, if_pos g0, hor]
    exact Ev.now _
end Go.Proofs.YtodocfjbpkicgaaDoor.PFill
end
section
namespace Go.Proofs.YtodocfjbpkicgaaDoor.PBatch
open Go Go.RowKit Go.Proofs.YtodocfjbpkicgaaDoor Go.Proofs.YtodocfjbpkicgaaDoor.All Go.Proofs.YtodocfjbpkicgaaDoorW.PrintWords Go.Proofs.YtodocfjbpkicgaaDoorW.PrintLast Go.Proofs.YtodocfjbpkicgaaDoor.PXor
set_option linter.unusedVariables false
set_option linter.unusedSimpArgs false
theorem top2 (c d : Int) (T : List Int) (h : Bs.Bits (c :: d :: T)) : rd (Bs.pack (c :: d :: T)) 0 / 64 = 2 * c + d := by
 rw [Bs.pack_ne (by simp)]
 have e : (c :: d :: T).take 8 ++ List.replicate (8 - (c :: d :: T).length) 0 = c :: d :: (T.take 6 ++ List.replicate (6 - T.length) 0) := by
  simp only [List.length_cons, List.take_succ_cons, List.cons_append]
  congr 4
  omega
 rw [e, Bs.number_cons, Bs.number_cons]
 have hT : Bs.Bits (T.take 6 ++ List.replicate (6 - T.length) 0) := by
  have h1 : Bs.Bits T := fun x hx => h x (by simp [hx])
  exact (h1.take 6).append (Bs.Bits.zeros _)
 have hl : (T.take 6 ++ List.replicate (6 - T.length) (0 : Int)).length = 6 := by rw [List.length_append, List.length_take, List.length_replicate]; omega
 have hr := Bs.A2j hT
 rw [List.length_cons, hl] at *
 generalize Bs.number (T.take 6 ++ List.replicate (6 - T.length) 0) = m at *
 have k6 : (2 : Int) ^ 6 = 64 := by decide
 have k7 : (2 : Int) ^ (6 + 1) = 128 := by decide
 rw [k6] at hr ⊢
 rw [k7]
 show (c * 128 + (d * 64 + m)) / 64 = 2 * c + d
 omega
theorem pack_pos (l : List Int) (h : 1 ≤ l.length) : 0 < ((Bs.pack l).length : Int) := by rw [Bs.A2n]; omega
theorem new_iff {R : List Int} (hR : Bs.Bits R) (l n : Nat) (hln : l + n ≤ 64) (hh : 14 + sd R ≤ R.length) (hs : ld R + sd R ≤ 64) (r0 : rd R 0 = 1) (r1 : rd R 1 = 1) :
    cb l n (xv R 14 (ld R) (sd R)) = R.take (14 + sd R) ↔ ((cb l n (xv R 14 (ld R) (sd R))).length = 14 + sd R ∧ cl l n (xv R 14 (ld R) (sd R)) = ld R ∧ cn l n (xv R 14 (ld R) (sd R)) = sd R ∧ rd (Bs.pack (cb l n (xv R 14 (ld R) (sd R)))) 0 / 64 = 3) := by
  have hx := xv_range hR 14 (ld R) (sd R) hh hs
  have hbody := xv_body hR 14 (ld R) (sd R) hh
  have h14 : 14 ≤ R.length := by omega
  have hl := ld_lt hR h14
  have hsd := sd_lt hR h14
  have t2 := take_two R (by omega)
  rw [r0, r1] at t2
  have hsp := split14 R (sd R) hh
  rw [t2] at hsp
  generalize hX : xv R 14 (ld R) (sd R) = x at *
  have htop : ∀ (T : List Int), Bs.Bits ([1, 1] ++ T) → rd (Bs.pack ([1, 1] ++ T)) 0 / 64 = 3 := fun T hT => top2 1 1 T hT
  have htop0 : ∀ (T : List Int), Bs.Bits ([1, 0] ++ T) → rd (Bs.pack ([1, 0] ++ T)) 0 / 64 = 2 := fun T hT => top2 1 0 T hT
  have hcb := cb_bits l n x
  unfold cb cl cn at *
  by_cases c0 : x = 0
  · rw [if_pos c0] at hcb ⊢
    constructor
    · intro h
      have := congrArg List.length h
      rw [List.length_take] at this
      simp at this
      omega
    · intro h
      have := h.1
      simp at this
      omega
  rw [if_neg c0] at hcb ⊢
  rw [if_neg c0, if_neg c0]
  have hw := win x (by omega) hx.2
  have g3 := hw.le
  have g2 := hw.pos
  have g1 := hw.lt
  by_cases c1 : 0 < n ∧ l ≤ LL x ∧ LL x + SS x ≤ l + n
  · rw [if_pos c1] at hcb ⊢
    rw [if_pos c1, if_pos c1]
    constructor
    · intro h
      rw [hsp] at h
      have h2 := congrArg (List.take 2) h
      simp at h2
    · intro h
      have h4 := h.2.2.2
      rw [htop0 _ hcb] at h4
      exact absurd h4 (by decide)
  · rw [if_neg c1] at hcb ⊢
    rw [if_neg c1, if_neg c1]
    have k6 : (2 : Int) ^ 6 = 64 := by decide
    constructor
    · intro h
      have hlen := congrArg List.length h
      have ht : rd (Bs.pack ([1, 1] ++ Bs.low (LL x : Int) 6 ++ Bs.low ((SS x : Int) - 1) 6 ++ Bs.low (x / 2 ^ (64 - LL x - SS x)) (SS x))) 0 / 64 = 3 := by
        have := htop (Bs.low (LL x : Int) 6 ++ Bs.low ((SS x : Int) - 1) 6 ++ Bs.low (x / 2 ^ (64 - LL x - SS x)) (SS x)) (by rw [← List.append_assoc, ← List.append_assoc]; exact hcb)
        rw [List.append_assoc, List.append_assoc, ← List.append_assoc (Bs.low (LL x : Int) 6)]
        exact this
      have hlen' : ([1, 1] ++ Bs.low (LL x : Int) 6 ++ Bs.low ((SS x : Int) - 1) 6 ++ Bs.low (x / 2 ^ (64 - LL x - SS x)) (SS x)).length = 14 + SS x := by
        simp only [List.length_append, Bs.A1k, List.length_cons, List.length_nil]
      rw [hlen', List.length_take, Nat.min_eq_left hh] at hlen
      rw [hsp] at h
      obtain ⟨q, _⟩ := List.append_inj h (by simp only [List.length_append, Bs.A1k, cut_len R 2 6 (by omega), cut_len R 8 6 (by omega)])
      obtain ⟨q, _⟩ := List.append_inj q (by simp only [List.length_append, Bs.A1k, cut_len R 2 6 (by omega)])
      have q1 := List.append_cancel_left q
      have hl1 := hl.1
      rw [← q1, Bs.A3q, k6] at hl1
      exact ⟨by rw [hlen', hlen], by omega, by omega, ht⟩
    · intro ⟨_, e1, e2, _⟩
      rw [e1, e2, hbody, hsp]
      have q1 := low_of_num hR 2 6 (by omega) hl.1
      have q2 : Bs.low ((sd R : Int) - 1) 6 = (R.drop 8).take 6 := low_of_num hR 8 6 (by omega) (by omega)
      rw [q1, q2]
theorem old_iff {R : List Int} (hR : Bs.Bits R) (l n : Nat) (hln : l + n ≤ 64) (h0 : 0 < n) (hh : 2 + n ≤ R.length) (r0 : rd R 0 = 1) (r1 : rd R 1 = 0) :
    cb l n (xv R 2 l n) = R.take (2 + n) ↔ ((cb l n (xv R 2 l n)).length = 2 + n ∧ ¬ rd (Bs.pack (cb l n (xv R 2 l n))) 0 / 64 = 3) := by
  have hx := xv_range hR 2 l n hh hln
  have hbody := xv_body hR 2 l n hh
  have t2 := take_two R (by omega)
  rw [r0, r1] at t2
  have hsp := split2 R n
  rw [t2] at hsp
  generalize hX : xv R 2 l n = x at *
  have htop : ∀ (T : List Int), Bs.Bits ([1, 1] ++ T) → rd (Bs.pack ([1, 1] ++ T)) 0 / 64 = 3 := fun T hT => top2 1 1 T hT
  have htop0 : ∀ (T : List Int), Bs.Bits ([1, 0] ++ T) → rd (Bs.pack ([1, 0] ++ T)) 0 / 64 = 2 := fun T hT => top2 1 0 T hT
  have hcb := cb_bits l n x
  unfold cb at *
  by_cases c0 : x = 0
  · rw [if_pos c0] at hcb ⊢
    constructor
    · intro h
      have := congrArg List.length h
      rw [List.length_take] at this
      simp at this
      omega
    · intro h
      have := h.1
      simp at this
      omega
  rw [if_neg c0] at hcb ⊢
  by_cases c1 : 0 < n ∧ l ≤ LL x ∧ LL x + SS x ≤ l + n
  · rw [if_pos c1] at hcb ⊢
    constructor
    · intro h
      refine ⟨by simp only [List.length_append, Bs.A1k, List.length_cons, List.length_nil], ?_⟩
      rw [htop0 _ hcb]
      decide
    · intro h
      rw [hbody, hsp]
  · rw [if_neg c1] at hcb ⊢
    have ht : rd (Bs.pack ([1, 1] ++ Bs.low (LL x : Int) 6 ++ Bs.low ((SS x : Int) - 1) 6 ++ Bs.low (x / 2 ^ (64 - LL x - SS x)) (SS x))) 0 / 64 = 3 := by
      have := htop (Bs.low (LL x : Int) 6 ++ Bs.low ((SS x : Int) - 1) 6 ++ Bs.low (x / 2 ^ (64 - LL x - SS x)) (SS x)) (by rw [← List.append_assoc, ← List.append_assoc]; exact hcb)
      rw [List.append_assoc, List.append_assoc, ← List.append_assoc (Bs.low (LL x : Int) 6)]
      exact this
    constructor
    · intro h
      rw [hsp] at h
      have h2 := congrArg (List.take 2) h
      simp at h2
    · intro h
      exact absurd ht h.2
end Go.Proofs.YtodocfjbpkicgaaDoor.PBatch
end
