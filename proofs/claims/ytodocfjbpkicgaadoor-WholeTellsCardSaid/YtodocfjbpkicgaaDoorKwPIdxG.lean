-- copied by a program of the session
import Derived.Test.YtodocfjbpkicgaaDoorKwPUvar
import Derived.Test.YtodocfjbpkicgaaDoorKwAllx67
import Derived.Lib.Bytes
set_option linter.unusedSimpArgs false
set_option linter.unusedVariables false
section
namespace Go.Proofs.YtodocfjbpkicgaaDoor.PUvar
open Go Go.RowKit Go.Proofs.YtodocfjbpkicgaaDoor Go.Proofs.YtodocfjbpkicgaaDoor.All Go.Zw Go.Zl
theorem rd_succ (c : Int) (t : List Int) (n : Nat) : rd (c :: t) ((n + 1 : Nat) : Int) = rd t (n : Int) := by simp [rd]
theorem rd_zero (c : Int) (t : List Int) : rd (c :: t) ((0 : Nat) : Int) = c := by simp [rd]
theorem val_cons (c : Int) (t : List Int) : ∀ n, val (c :: t) (n + 1) = c % 128 + 128 * val t n := by
 intro n
 induction n with
 | zero => simp only [val]; rw [rd_zero]; simp
 | succ n ih =>
  rw [val, ih, rd_succ, val, Int.pow_succ, Int.mul_add, ← Int.mul_assoc, Int.mul_comm _ 128, Int.add_assoc]
theorem canon : ∀ (n f : Nat) (ys : List Int), n ≤ f → Bs.Bytes ys → n < ys.length → (∀ j, j < n → 128 ≤ rd ys (j : Int)) → rd ys (n : Int) < 128 → (0 < n → rd ys (n : Int) ≠ 0) → uvd f (val ys (n + 1)) = ys.take (n + 1) := by
 intro n
 induction n with
 | zero =>
  intro f ys hf hy hl hb hs hz
  obtain ⟨c, t, rfl⟩ : ∃ c t, ys = c :: t := by cases ys with
   | nil => simp at hl
   | cons c t => exact ⟨c, t, rfl⟩
  have hc := hy c (List.mem_cons_self ..)
  rw [rd_zero] at hs
  rw [val_cons]
  simp only [val]
  rw [show c % 128 + 128 * 0 = c from by omega]
  cases f with
  | zero => rfl
  | succ f => simp only [uvd]; rw [if_neg (by omega)]; rfl
 | succ n ih =>
  intro f ys hf hy hl hb hs hz
  obtain ⟨c, t, rfl⟩ : ∃ c t, ys = c :: t := by cases ys with
   | nil => simp at hl
   | cons c t => exact ⟨c, t, rfl⟩
  have hc := hy c (List.mem_cons_self ..)
  have hyt : Bs.Bytes t := fun x hx => hy x (List.mem_cons_of_mem _ hx)
  have hb0 := hb 0 (by omega)
  rw [rd_zero] at hb0
  rw [rd_succ] at hs hz
  have hz' := hz (by omega)
  have hr := rd_byte hyt n
  have hv := val_range hyt n
  have hp := PUvar.pow_pos n
  obtain ⟨f, rfl⟩ : ∃ g, f = g + 1 := ⟨f - 1, by omega⟩
  have hih := ih f t (by omega) hyt (by simp only [List.length_cons] at hl; omega) (fun j hj => by have := hb (j + 1) (by omega); rwa [rd_succ] at this) hs (fun _ => hz')
  have h1 : 1 ≤ val t (n + 1) := by
   simp only [val]
   have := Int.mul_le_mul_of_nonneg_right (show 1 ≤ rd t (n : Int) % 128 by omega) (Int.le_of_lt hp)
   omega
  rw [val_cons]
  generalize val t (n + 1) = w at h1 hih
  simp only [uvd]
  rw [if_pos (by omega), show (c % 128 + 128 * w) % 128 + 128 = c from by omega, show (c % 128 + 128 * w) / 128 = w from by omega, hih]
  rfl
theorem get_canon (ys : List Int) (hy : Bs.Bytes ys) (h : (A24 ys (Classical.choose (top ys))).2.2 = 0) :
    0 ≤ (A24 ys (Classical.choose (top ys))).1 ∧ (A24 ys (Classical.choose (top ys))).1 < 18446744073709551616 ∧ 0 ≤ (A24 ys (Classical.choose (top ys))).2.1 ∧ (A24 ys (Classical.choose (top ys))).2.1 ≤ (ys.length : Int) ∧ uv (A24 ys (Classical.choose (top ys))).1 = ys.take (A24 ys (Classical.choose (top ys))).2.1.toNat := by
  have hT := Classical.choose_spec (top ys)
  generalize Classical.choose (top ys) = n at hT h
  have h1 := hT.ten
  have h2 := hT.len
  have h3 := hT.stop
  unfold A24 at h ⊢
  by_cases c1 : n = ys.length ∧ n < 10
  · rw [if_pos c1] at h; simp at h
  by_cases c2 : n = 10 ∨ (n = 9 ∧ rd ys 9 > 1)
  · rw [if_neg c1, if_pos c2] at h; simp at h
  by_cases c3 : 0 < n ∧ rd ys (n : Int) = 0
  · rw [if_neg c1, if_neg c2, if_pos c3] at h; simp at h
  rw [if_neg c1, if_neg c2, if_neg c3]
  have hr := val_range hy (n + 1)
  have hs := val_small hy n (by omega) (fun e => by omega)
  refine ⟨hr.1, hs, Int.natCast_nonneg _, by simp only; omega, ?_⟩
  simp only [Int.toNat_natCast]
  exact canon n 9 ys (by omega) hy (by omega) hT.big (by omega) (fun h0 hz => c3 ⟨h0, hz⟩)
end Go.Proofs.YtodocfjbpkicgaaDoor.PUvar
end
section
namespace Go.Proofs.YtodocfjbpkicgaaDoor.PIdx
open Go Go.RowKit Go.Proofs.YtodocfjbpkicgaaDoor Go.Proofs.YtodocfjbpkicgaaDoor.All Go.Zw Go.Zl
open PUvar
def bg : Nat → Int → List Int
 | 0, _ => []
 | n + 1, v => (v / 2 ^ (8 * n) % 256) :: bg n v
def nb (l : List Int) : Int := l.foldl (fun v c => v * 256 + c) 0
theorem nb_snoc (l : List Int) (c : Int) : nb (l ++ [c]) = nb l * 256 + c := by simp [nb]
theorem nb_range {l : List Int} (h : Bs.Bytes l) : ∀ n, n ≤ l.length → 0 ≤ nb (l.take n) ∧ nb (l.take n) < 2 ^ (8 * n) := by
 intro n
 induction n with
 | zero => intro _; simp [nb]
 | succ n ih =>
  intro hn
  have hi := ih (by omega)
  have hc := h _ (List.getElem_mem (show n < l.length by omega))
  rw [List.take_succ_eq_append_getElem (by omega), nb_snoc, show 8 * (n + 1) = 8 * n + 8 from by omega, Int.pow_add, show (2 : Int) ^ 8 = 256 from by decide]
  omega
theorem pow_le8 {n : Nat} (h : n ≤ 8) : (2 : Int) ^ (8 * n) ≤ 18446744073709551616 := by
 have h1 : ∀ n : Fin 9, (2 : Int) ^ (8 * n.val) ≤ 18446744073709551616 := by decide
 exact h1 ⟨n, by omega⟩
theorem or_low (v c : Int) (hv : 0 ≤ v ∧ v * 256 < 18446744073709551616) (hc : 0 ≤ c ∧ c < 256) : Go.bits .or .u64 (v * 256) c = v * 256 + c := by
 rw [Ib.or_u64 _ _ (by omega) (by omega)]
 have h := Nat.two_pow_add_eq_or_of_lt (i := 8) (b := c.toNat) (show c.toNat < 2 ^ 8 by omega) v.toNat
 rw [show (v * 256).toNat = 2 ^ 8 * v.toNat from by omega, ← h]
 omega
theorem rd_get (l : List Int) (n : Nat) (h : n < l.length) : rd l (n : Int) = l[n] := by
 unfold rd
 rw [Int.toNat_natCast, List.getD_eq_getElem?_getD, List.getElem?_eq_getElem h]; rfl
theorem nb_step {l : List Int} (h : Bs.Bytes l) (hl : l.length ≤ 8) (n : Nat) (hn : n < l.length) :
    nb (l.take (n + 1)) = nb (l.take n) * 256 + rd l (n : Int) ∧ 0 ≤ nb (l.take n) ∧ nb (l.take n) * 256 < 18446744073709551616 ∧ nb (l.take n) * 256 + rd l (n : Int) < 18446744073709551616 ∧ 0 ≤ rd l (n : Int) ∧ rd l (n : Int) < 256 := by
  have h1 := nb_range h n (by omega)
  have h2 := nb_range h (n + 1) (by omega)
  have h3 := pow_le8 (show n + 1 ≤ 8 by omega)
  have hc := h _ (List.getElem_mem hn)
  have h4 : nb (l.take (n + 1)) = nb (l.take n) * 256 + l[n] := by rw [List.take_succ_eq_append_getElem hn, nb_snoc]
  rw [rd_get l n hn]
  refine ⟨h4, h1.1, ?_, ?_, hc⟩ <;> omega
theorem rnumber_l0 {l : List Int} (h : Bs.Bytes l) (hl : l.length ≤ 8) : ∀ (d n : Nat), n + d = l.length → Ev (fun k => A1n.l0 k l (nb (l.take n)) (n : Int)) (nb l) := by
 intro d
 induction d with
 | zero =>
  intro n hn
  refine Ev.step (fun k => by rw [A1n.l0]) ?_
  simp only [if_neg (show ¬ (n : Int) < (l.length : Int) by omega)]
  rw [List.take_of_length_le (by omega)]
  exact Ev.now _
 | succ d ih =>
  intro n hn
  obtain ⟨h1, h2, h3, h4, h5, h6⟩ := nb_step h hl n (by omega)
  have hi := ih (n + 1) (by omega)
  have e : IntKind.u64.wrap (IntKind.u64.wrap (256 * nb (l.take n)) + IntKind.u64.wrap (rd l (n : Int))) = nb (l.take (n + 1)) := by
   rw [h1, Ib.wrap_u64, Ib.wrap_u64, Ib.wrap_u64]; omega
  have hw := A3z n (by omega)
  refine Ev.step (fun k => by rw [A1n.l0]) ?_
  simp only [if_pos (show (n : Int) < (l.length : Int) by omega), if_pos (Int.natCast_nonneg n), e, hw]
  exact hi
theorem rnumber_is {l : List Int} (h : Bs.Bytes l) (hl : l.length ≤ 8) : Ev (fun k => A1n.f k l) (nb l) := rnumber_l0 h hl l.length 0 (by omega)
theorem fixed_l0 (b ys : List Int) (hy : Bs.Bytes ys) (hl : ys.length ≤ 8) (at_ x1 : Int) : ∀ (d n : Nat), n + d = ys.length → Ev (fun k => A0k.l0 k x1 (nb (ys.take n)) ys (ys.length : Int) (n : Int) b at_ none) (nb ys, b, wrap64 (at_ + x1), none) := by
 intro d
 induction d with
 | zero =>
  intro n hn
  refine Ev.step (fun k => by rw [A0k.l0]) ?_
  simp only [if_neg (show ¬ (n : Int) < (ys.length : Int) by omega)]
  rw [List.take_of_length_le (by omega)]
  exact Ev.now _
 | succ d ih =>
  intro n hn
  obtain ⟨h1, h2, h3, h4, h5, h6⟩ := nb_step hy hl n (by omega)
  have hi := ih (n + 1) (by omega)
  have e : Go.bits .or .u64 (IntKind.u64.wrap (nb (ys.take n) * 256)) (IntKind.u64.wrap (rd ys (n : Int))) = nb (ys.take (n + 1)) := by
   rw [h1, Ib.wrap_u64, Ib.wrap_u64, show nb (ys.take n) * 256 % 18446744073709551616 = nb (ys.take n) * 256 from by omega, show rd ys (n : Int) % 18446744073709551616 = rd ys (n : Int) from by omega]
   exact or_low _ _ ⟨h2, h3⟩ ⟨h5, h6⟩
  have hw := A3z n (by omega)
  have hlt : (n : Int) < (ys.length : Int) := by omega
  refine Ev.step (fun k => by rw [A0k.l0]) ?_
  simp only [if_pos hlt, if_pos (Int.natCast_nonneg n), e, hw]
  exact hi
theorem fixed_ok (b : List Int) (hb : Bs.Bytes b) (hl : b.length < 140737488355328) (p n : Nat) (hn : n ≤ 8) (h : p + n ≤ b.length) : Ev (fun k => A0k.f k b (p : Int) none (n : Int)) (nb ((b.drop p).take n), b, ((p + n : Nat) : Int), none) := by
 have e1 : wrap64 ((b.length : Int) - (p : Int)) = (b.length : Int) - (p : Int) := w64 _ (by omega)
 have e2 : wrap64 ((p : Int) + (n : Int)) = ((p + n : Nat) : Int) := by rw [w64 _ (by omega)]; omega
 have e3 : (b.take (p + n)).drop p = (b.drop p).take n := by rw [List.drop_take, show p + n - p = n from by omega]
 have hyl : ((b.drop p).take n).length = n := by rw [List.length_take, List.length_drop]; omega
 have hd : decide ((b.length : Int) - (p : Int) < (n : Int)) = false := decide_eq_false (by omega)
 have hF := fixed_l0 b ((b.drop p).take n) ((hb.drop p).take n) (by omega) (p : Int) (n : Int) n 0 (by omega)
 rw [e2] at hF
 unfold A0k.f
 simp only [Option.isNone_none, if_true, e1, hd]
 refine Ev.step (fun k => by rw [A0k.j0]) ?_
 simp only [Bool.false_eq_true, if_false]
 refine Ev.step (fun k => by rw [A0k.j1]) ?_
 simp only [Option.isNone_none, if_true, if_pos (Int.natCast_nonneg p), e2, if_pos (show (p : Int) ≤ ((p + n : Nat) : Int) by omega), if_pos (show ((p + n : Nat) : Int) ≤ (b.length : Int) by omega), Int.toNat_natCast, e3]
 exact hF
theorem fixed_short (b : List Int) (hl : b.length < 140737488355328) (p n : Nat) (hn : n ≤ 8) (hp : p ≤ b.length) (h : b.length < p + n) : Ev (fun k => A0k.f k b (p : Int) none (n : Int)) (0, b, (p : Int), some 2) := by
 have e1 : wrap64 ((b.length : Int) - (p : Int)) = (b.length : Int) - (p : Int) := w64 _ (by omega)
 have hd : decide ((b.length : Int) - (p : Int) < (n : Int)) = true := decide_eq_true (by omega)
 unfold A0k.f
 simp only [Option.isNone_none, if_true, e1, hd]
 refine Ev.step (fun k => by rw [A0k.j0]) ?_
 simp only [if_true]
 refine Ev.step (fun k => by rw [A0k.j1]) ?_
 exact Ev.now _
theorem fixed_bad (b : List Int) (p n e : Int) : Ev (fun k => A0k.f k b p (some e) n) (0, b, p, some e) := by
 unfold A0k.f
 refine Ev.step (g := fun k => _) (f := fun k => A0k.j1 k n b p (some e)) (fun k => ?_) ?_
 ·show A0k.j0 (k + 1) n false b p (some e) = _
  rw [A0k.j0]; rfl
 refine Ev.step (fun k => by rw [A0k.j1]) ?_
 exact Ev.now _
noncomputable def gu (ys : List Int) : Int × Int × Int := A24 ys (Classical.choose (top ys))
theorem gu_ok {ys : List Int} (hy : Bs.Bytes ys) (h : (gu ys).2.2 = 0) : 0 ≤ (gu ys).1 ∧ (gu ys).1 < 18446744073709551616 ∧ 0 ≤ (gu ys).2.1 ∧ (gu ys).2.1 ≤ (ys.length : Int) ∧ uv (gu ys).1 = ys.take (gu ys).2.1.toNat := get_canon ys hy h
theorem gu_bad (ys : List Int) (h : (gu ys).2.2 ≠ 0) : (gu ys).1 = 0 ∧ (gu ys).2.1 = 0 := by
 unfold gu A24 at h ⊢
 split
 ·exact ⟨rfl, rfl⟩
 ·split
  ·exact ⟨rfl, rfl⟩
  ·split
   ·exact ⟨rfl, rfl⟩
   ·rename_i c1 c2 c3
    rw [if_neg c1, if_neg c2, if_neg c3] at h
    exact absurd rfl h
theorem some_is (b : List Int) (hb : Bs.Bytes b) (hl : b.length < 140737488355328) (p : Nat) (hp : p ≤ b.length) : Ev (fun k => A1m.f k b (p : Int) none) ((gu (b.drop p)).1, b, wrap64 ((p : Int) + (gu (b.drop p)).2.1), er (gu (b.drop p)).2.2) := by
 have h := Get_is b hb hl (p : Int)
 rw [if_neg (by omega), Int.toNat_natCast] at h
 unfold A1m.f
 simp only [Option.isNone_none, if_true]
 exact Ev.bind h (Ev.now _)
theorem some_ok (b : List Int) (hb : Bs.Bytes b) (hl : b.length < 140737488355328) (p : Nat) (hp : p ≤ b.length) (h : (gu (b.drop p)).2.2 = 0) : Ev (fun k => A1m.f k b (p : Int) none) ((gu (b.drop p)).1, b, ((p + (gu (b.drop p)).2.1.toNat : Nat) : Int), none) := by
 have h1 := some_is b hb hl p hp
 have h2 := gu_ok (hb.drop p) h
 rw [List.length_drop] at h2
 rw [h, w64 _ (by omega), show (p : Int) + (gu (b.drop p)).2.1 = ((p + (gu (b.drop p)).2.1.toNat : Nat) : Int) from by omega] at h1
 exact h1
theorem some_err (b : List Int) (hb : Bs.Bytes b) (hl : b.length < 140737488355328) (p : Nat) (hp : p ≤ b.length) (h : (gu (b.drop p)).2.2 ≠ 0) : Ev (fun k => A1m.f k b (p : Int) none) (0, b, (p : Int), some (gu (b.drop p)).2.2) := by
 have h1 := some_is b hb hl p hp
 have h2 := gu_bad _ h
 have h3 : wrap64 ((p : Int) + 0) = (p : Int) := by rw [w64 _ (by omega)]; omega
 rw [h2.1, h2.2, h3, er, if_neg h] at h1
 exact h1
theorem some_bad (b : List Int) (p e : Int) : Ev (fun k => A1m.f k b p (some e)) (0, b, p, some e) := by
 unfold A1m.f
 exact Ev.now _
theorem rget_is (b : List Int) (hb : Bs.Bytes b) (hl : b.length < 140737488355328) (p : Nat) (hp : p ≤ b.length) : Ev (fun k => A0g.f k b (p : Int)) (gu (b.drop p)) := by
 have h := RGet_is b hb hl (p : Int)
 rw [if_neg (by omega), Int.toNat_natCast] at h
 exact h
noncomputable def q1 (b : List Int) (p : Nat) : Nat := p + 8 + (gu (b.drop (p + 8))).2.1.toNat
noncomputable def q2 (b : List Int) (p : Nat) : Nat := q1 b p + (gu (b.drop (q1 b p))).2.1.toNat
noncomputable def q3 (b : List Int) (p : Nat) : Nat := q2 b p + (gu (b.drop (q2 b p))).2.1.toNat
noncomputable def one (b : List Int) (p : Nat) : Int × S178 × Nat :=
 if b.length < p + 8 then (2, z178, p)
 else if (gu (b.drop (p + 8))).2.2 ≠ 0 then ((gu (b.drop (p + 8))).2.2, z178, p)
 else if (gu (b.drop (q1 b p))).2.2 ≠ 0 then ((gu (b.drop (q1 b p))).2.2, z178, p)
 else if (gu (b.drop (q2 b p))).2.2 ≠ 0 then ((gu (b.drop (q2 b p))).2.2, z178, p)
 else (0, ⟨wrap64 (nb ((b.drop p).take 8)), (gu (b.drop (p + 8))).1, (gu (b.drop (q1 b p))).1, (gu (b.drop (q2 b p))).1⟩, q3 b p)
noncomputable def ents (b : List Int) : Nat → Nat → Int × List S178 × Nat
 | 0, p => (0, [], p)
 | m + 1, p => if (one b p).1 ≠ 0 then ((one b p).1, [], p) else ((ents b m (one b p).2.2).1, (one b p).2.1 :: (ents b m (one b p).2.2).2.1, (ents b m (one b p).2.2).2.2)
structure OneOk (b : List Int) (p : Nat) : Prop where
 room : p + 8 ≤ b.length
 e1 : (gu (b.drop (p + 8))).2.2 = 0
 e2 : (gu (b.drop (q1 b p))).2.2 = 0
 e3 : (gu (b.drop (q2 b p))).2.2 = 0
 is : one b p = (0, ⟨wrap64 (nb ((b.drop p).take 8)), (gu (b.drop (p + 8))).1, (gu (b.drop (q1 b p))).1, (gu (b.drop (q2 b p))).1⟩, q3 b p)
 p1 : p + 8 ≤ q1 b p ∧ q1 b p ≤ b.length
 p2 : q1 b p ≤ q2 b p ∧ q2 b p ≤ b.length
 p3 : q2 b p ≤ q3 b p ∧ q3 b p ≤ b.length
theorem step_len {b : List Int} (hb : Bs.Bytes b) (p : Nat) (hp : p ≤ b.length) (h : (gu (b.drop p)).2.2 = 0) : p + (gu (b.drop p)).2.1.toNat ≤ b.length := by
 have := gu_ok (hb.drop p) h
 rw [List.length_drop] at this
 omega
theorem one_ok {b : List Int} (hb : Bs.Bytes b) {p : Nat} (h : (one b p).1 = 0) : OneOk b p := by
 by_cases c0 : b.length < p + 8
 ·unfold one at h; rw [if_pos c0] at h; exact absurd (show (2 : Int) = 0 from h) (by decide)
 have e1 : (gu (b.drop (p + 8))).2.2 = 0 := by
  refine Decidable.byContradiction fun c1 => ?_
  unfold one at h; rw [if_neg c0, if_pos c1] at h; exact c1 h
 have e2 : (gu (b.drop (q1 b p))).2.2 = 0 := by
  refine Decidable.byContradiction fun c2 => ?_
  unfold one at h; rw [if_neg c0, if_neg (fun hh => hh e1), if_pos c2] at h; exact c2 h
 have e3 : (gu (b.drop (q2 b p))).2.2 = 0 := by
  refine Decidable.byContradiction fun c3 => ?_
  unfold one at h; rw [if_neg c0, if_neg (fun hh => hh e1), if_neg (fun hh => hh e2), if_pos c3] at h; exact c3 h
 have l1 : q1 b p ≤ b.length := step_len hb _ (by omega) e1
 have l2 : q2 b p ≤ b.length := step_len hb _ l1 e2
 have l3 : q3 b p ≤ b.length := step_len hb _ l2 e3
 refine ⟨by omega, e1, e2, e3, ?_, ⟨?_, l1⟩, ⟨?_, l2⟩, ⟨?_, l3⟩⟩
 ·unfold one; rw [if_neg c0, if_neg (fun hh => hh e1), if_neg (fun hh => hh e2), if_neg (fun hh => hh e3)]
 ·unfold q1; omega
 ·unfold q2; omega
 ·unfold q3; omega
theorem u64w_succ (i : Nat) (h : i < 140737488355328) : IntKind.u64.wrap ((i : Int) + 1) = ((i + 1 : Nat) : Int) := by rw [Ib.wrap_u64]; omega
theorem list_bad (b : List Int) (many i p e : Int) (acc : List S178) : Ev (fun k => A0e.l0 k many acc i b p (some e)) (acc, b, p, some e) := by
 have h : Ev (fun k => A0e.j3 k many acc i false b p (some e)) (acc, b, p, some e) := by
  refine Ev.step (fun k => by rw [A0e.j3]) ?_
  simp only [Bool.false_eq_true, if_false]
  exact Ev.now _
 refine Ev.step (fun k => by rw [A0e.l0]) ?_
 simp only [Option.isNone_some, Bool.false_eq_true, if_false, Option.getD_some, ite_self]
 exact h
theorem list_ok {b : List Int} (hb : Bs.Bytes b) (hl : b.length < 140737488355328) {p : Nat} (h : OneOk b p) (many i : Nat) (hi : i < many) (hm : many ≤ 65535) (acc : List S178) (ha : acc.length < 4398046511104) {r}
    (hr : Ev (fun k => A0e.l0 k (many : Int) (acc ++ [(one b p).2.1]) ((i + 1 : Nat) : Int) b ((one b p).2.2 : Int) none) r) :
    Ev (fun k => A0e.l0 k (many : Int) acc (i : Int) b (p : Int) none) r := by
  have hF := fixed_ok b hb hl p 8 (by omega) h.room
  have h1 := some_ok b hb hl (p + 8) h.room h.e1
  have h2 := some_ok b hb hl (q1 b p) h.p1.2 h.e2
  have h3 := some_ok b hb hl (q2 b p) h.p2.2 h.e3
  have hw := u64w_succ i (by omega)
  have hlt : (i : Int) < (many : Int) := by omega
  rw [h.is] at hr
  refine Ev.step (fun k => by rw [A0e.l0, if_pos hlt, if_pos (show (none : Option Int).isNone = true from rfl)]) ?_
  refine Ev.step (fun k => by rw [A0e.j3, if_pos rfl]) ?_
  refine Ev.bind hF (Ev.bind h1 (Ev.bind h2 (Ev.bind h3 ?_)))
  simp only [if_pos ha, hw]
  exact hr
theorem list_err {b : List Int} (hb : Bs.Bytes b) (hl : b.length < 140737488355328) {p : Nat} (hp : p ≤ b.length) (h : (one b p).1 ≠ 0) (many i : Nat) (hi : i < many) (hm : many ≤ 65535) (acc : List S178) (ha : acc.length < 4398046511104) :
    ∃ l a, Ev (fun k => A0e.l0 k (many : Int) acc (i : Int) b (p : Int) none) (l, b, a, some (one b p).1) := by
  have hw := u64w_succ i (by omega)
  have hlt : (i : Int) < (many : Int) := by omega
  by_cases c0 : b.length < p + 8
  · have e : (one b p).1 = 2 := by unfold one; rw [if_pos c0]
    rw [e]
    exact ⟨_, _, by
      refine Ev.step (fun k => by rw [A0e.l0, if_pos hlt, if_pos (show (none : Option Int).isNone = true from rfl)]) ?_
      refine Ev.step (fun k => by rw [A0e.j3, if_pos rfl]) ?_
      refine Ev.bind (fixed_short b hl p 8 (by omega) hp c0) (Ev.bind (some_bad b _ _) (Ev.bind (some_bad b _ _) (Ev.bind (some_bad b _ _) ?_)))
      simp only [if_pos ha, hw]
      exact list_bad b _ _ _ _ _⟩
  have hF := fixed_ok b hb hl p 8 (by omega) (by omega)
  by_cases c1 : (gu (b.drop (p + 8))).2.2 ≠ 0
  · have e : (one b p).1 = (gu (b.drop (p + 8))).2.2 := by unfold one; rw [if_neg c0, if_pos c1]
    rw [e]
    exact ⟨_, _, by
      refine Ev.step (fun k => by rw [A0e.l0, if_pos hlt, if_pos (show (none : Option Int).isNone = true from rfl)]) ?_
      refine Ev.step (fun k => by rw [A0e.j3, if_pos rfl]) ?_
      refine Ev.bind hF (Ev.bind (some_err b hb hl (p + 8) (by omega) c1) (Ev.bind (some_bad b _ _) (Ev.bind (some_bad b _ _) ?_)))
      simp only [if_pos ha, hw]
      exact list_bad b _ _ _ _ _⟩
  have e1 : (gu (b.drop (p + 8))).2.2 = 0 := Decidable.not_not.mp c1
  have h1 := some_ok b hb hl (p + 8) (by omega) e1
  have l1 : q1 b p ≤ b.length := step_len hb _ (by omega) e1
  by_cases c2 : (gu (b.drop (q1 b p))).2.2 ≠ 0
  · have e : (one b p).1 = (gu (b.drop (q1 b p))).2.2 := by unfold one; rw [if_neg c0, if_neg c1, if_pos c2]
    rw [e]
    exact ⟨_, _, by
      refine Ev.step (fun k => by rw [A0e.l0, if_pos hlt, if_pos (show (none : Option Int).isNone = true from rfl)]) ?_
      refine Ev.step (fun k => by rw [A0e.j3, if_pos rfl]) ?_
      refine Ev.bind hF (Ev.bind h1 (Ev.bind (some_err b hb hl (q1 b p) l1 c2) (Ev.bind (some_bad b _ _) ?_)))
      simp only [if_pos ha, hw]
      exact list_bad b _ _ _ _ _⟩
  have e2 : (gu (b.drop (q1 b p))).2.2 = 0 := Decidable.not_not.mp c2
  have h2 := some_ok b hb hl (q1 b p) l1 e2
  have l2 : q2 b p ≤ b.length := step_len hb _ l1 e2
  by_cases c3 : (gu (b.drop (q2 b p))).2.2 ≠ 0
  · have e : (one b p).1 = (gu (b.drop (q2 b p))).2.2 := by unfold one; rw [if_neg c0, if_neg c1, if_neg c2, if_pos c3]
    rw [e]
    exact ⟨_, _, by
      refine Ev.step (fun k => by rw [A0e.l0, if_pos hlt, if_pos (show (none : Option Int).isNone = true from rfl)]) ?_
      refine Ev.step (fun k => by rw [A0e.j3, if_pos rfl]) ?_
      refine Ev.bind hF (Ev.bind h1 (Ev.bind h2 (Ev.bind (some_err b hb hl (q2 b p) l2 c3) ?_)))
      simp only [if_pos ha, hw]
      exact list_bad b _ _ _ _ _⟩
  · refine absurd ?_ h
    unfold one; rw [if_neg c0, if_neg c1, if_neg c2, if_neg c3]
theorem ents_succ (b : List Int) (m p : Nat) : ents b (m + 1) p = if (one b p).1 ≠ 0 then ((one b p).1, [], p) else ((ents b m (one b p).2.2).1, (one b p).2.1 :: (ents b m (one b p).2.2).2.1, (ents b m (one b p).2.2).2.2) := rfl
theorem ents_ok {b : List Int} {m p : Nat} (h : (one b p).1 = 0) : ents b (m + 1) p = ((ents b m (one b p).2.2).1, (one b p).2.1 :: (ents b m (one b p).2.2).2.1, (ents b m (one b p).2.2).2.2) := by rw [ents_succ, if_neg (fun hh => hh h)]
theorem ents_err {b : List Int} {m p : Nat} (h : (one b p).1 ≠ 0) : ents b (m + 1) p = ((one b p).1, [], p) := by rw [ents_succ, if_pos h]
theorem list_loop {b : List Int} (hb : Bs.Bytes b) (hl : b.length < 140737488355328) (many : Nat) (hm : many ≤ 65535) : ∀ (d i p : Nat) (acc : List S178), i + d = many → p ≤ b.length → acc.length + d < 4398046511104 →
    ((ents b d p).1 = 0 → Ev (fun k => A0e.l0 k (many : Int) acc (i : Int) b (p : Int) none) (acc ++ (ents b d p).2.1, b, ((ents b d p).2.2 : Int), none)) ∧
    ((ents b d p).1 ≠ 0 → ∃ l a, Ev (fun k => A0e.l0 k (many : Int) acc (i : Int) b (p : Int) none) (l, b, a, some (ents b d p).1)) := by
  intro d
  induction d with
  | zero =>
    intro i p acc hi hp ha
    refine ⟨fun _ => ?_, fun h => absurd rfl h⟩
    have hno : ¬ (i : Int) < (many : Int) := by omega
    refine Ev.step (fun k => by rw [A0e.l0, if_neg hno]) ?_
    refine Ev.step (fun k => by rw [A0e.j3]) ?_
    simp only [Bool.false_eq_true, if_false]
    refine Ev.congr (fun k => ?_) (Ev.now _)
    simp [ents]
  | succ d ih =>
    intro i p acc hi hp ha
    by_cases h : (one b p).1 = 0
    · have hO := one_ok hb h
      have hle : (one b p).2.2 ≤ b.length := by rw [hO.is]; exact hO.p3.2
      have hI := ih (i + 1) (one b p).2.2 (acc ++ [(one b p).2.1]) (by omega) hle (by rw [List.length_append, List.length_singleton]; omega)
      rw [ents_ok h]
      refine ⟨fun h0 => ?_, fun h0 => ?_⟩
      · have hr := hI.1 h0
        rw [List.append_assoc] at hr
        exact list_ok hb hl hO many i (by omega) hm acc (by omega) hr
      · obtain ⟨l, a, hr⟩ := hI.2 h0
        exact ⟨l, a, list_ok hb hl hO many i (by omega) hm acc (by omega) hr⟩
    · rw [ents_err h]
      exact ⟨fun h0 => absurd h0 h, fun _ => list_err hb hl hp h many i (by omega) hm acc (by omega)⟩
noncomputable def gl (b : List Int) (p : Nat) : Int × List S178 × Nat :=
 if (gu (b.drop p)).2.2 ≠ 0 then ((gu (b.drop p)).2.2, [], p)
 else if (gu (b.drop p)).1 > 65535 then (9, [], p)
 else ents b (gu (b.drop p)).1.toNat (p + (gu (b.drop p)).2.1.toNat)
theorem list_f_bad (b : List Int) (p e : Int) : Ev (fun k => A0e.f k b p (some e)) ([], b, p, some e) := by
 unfold A0e.f
 refine Ev.bind (some_bad b p e) ?_
 simp only [Option.isNone_some, Bool.false_eq_true, if_false, Option.getD_some]
 refine Ev.step (fun k => by rw [A0e.j0]) ?_
 simp only [Bool.false_eq_true, if_false]
 refine Ev.step (fun k => by rw [A0e.j1]) ?_
 exact list_bad b _ _ _ _ _
theorem list_is {b : List Int} (hb : Bs.Bytes b) (hl : b.length < 140737488355328) {p : Nat} (hp : p ≤ b.length) :
    ((gl b p).1 = 0 → Ev (fun k => A0e.f k b (p : Int) none) ((gl b p).2.1, b, ((gl b p).2.2 : Int), none)) ∧
    ((gl b p).1 ≠ 0 → ∃ l a, Ev (fun k => A0e.f k b (p : Int) none) (l, b, a, some (gl b p).1)) := by
  by_cases c1 : (gu (b.drop p)).2.2 ≠ 0
  · have e : gl b p = ((gu (b.drop p)).2.2, [], p) := by unfold gl; rw [if_pos c1]
    rw [e]
    refine ⟨fun h => absurd h c1, fun _ => ⟨[], (p : Int), ?_⟩⟩
    unfold A0e.f
    refine Ev.bind (some_err b hb hl p hp c1) ?_
    simp only [Option.isNone_some, Bool.false_eq_true, if_false, Option.getD_some]
    refine Ev.step (fun k => by rw [A0e.j0]) ?_
    simp only [Bool.false_eq_true, if_false]
    refine Ev.step (fun k => by rw [A0e.j1]) ?_
    exact list_bad b _ _ _ _ _
  have e1 : (gu (b.drop p)).2.2 = 0 := Decidable.not_not.mp c1
  have hS := some_ok b hb hl p hp e1
  have hG := gu_ok (hb.drop p) e1
  have hle := step_len hb p hp e1
  by_cases c2 : (gu (b.drop p)).1 > 65535
  · have e : gl b p = (9, [], p) := by unfold gl; rw [if_neg c1, if_pos c2]
    have hd : decide ((gu (b.drop p)).1 > 65535) = true := decide_eq_true c2
    rw [e]
    refine ⟨fun h => absurd (show (9 : Int) = 0 from h) (by decide), fun _ => ⟨[], ((p + (gu (b.drop p)).2.1.toNat : Nat) : Int), ?_⟩⟩
    unfold A0e.f
    refine Ev.bind hS ?_
    simp only [Option.isNone_none, if_true, hd]
    refine Ev.step (fun k => by rw [A0e.j0, if_pos rfl]) ?_
    refine Ev.step (fun k => by rw [A0e.j1]) ?_
    exact list_bad b _ _ _ _ _
  have e : gl b p = ents b (gu (b.drop p)).1.toNat (p + (gu (b.drop p)).2.1.toNat) := by unfold gl; rw [if_neg c1, if_neg c2]
  have hd : decide ((gu (b.drop p)).1 > 65535) = false := decide_eq_false c2
  obtain ⟨m, hm⟩ : ∃ m : Nat, (gu (b.drop p)).1 = (m : Int) := ⟨(gu (b.drop p)).1.toNat, by omega⟩
  have hL := list_loop hb hl m (by omega) m 0 (p + (gu (b.drop p)).2.1.toNat) [] (by omega) hle (by rw [List.length_nil]; omega)
  rw [e, hm, Int.toNat_natCast]
  rw [hm] at hS hd
  simp only [List.nil_append] at hL
  have hstart : ∀ r, Ev (fun k => A0e.l0 k (m : Int) [] ((0 : Nat) : Int) b ((p + (gu (b.drop p)).2.1.toNat : Nat) : Int) none) r → Ev (fun k => A0e.f k b (p : Int) none) r := by
    intro r hr
    unfold A0e.f
    refine Ev.bind hS ?_
    simp only [Option.isNone_none, if_true, hd]
    refine Ev.step (fun k => by rw [A0e.j0]) ?_
    simp only [Bool.false_eq_true, if_false]
    refine Ev.step (fun k => by rw [A0e.j1]) ?_
    exact hr
  refine ⟨fun h0 => hstart _ (hL.1 h0), fun h0 => ?_⟩
  obtain ⟨l, a, hr⟩ := hL.2 h0
  exact ⟨l, a, hstart _ hr⟩
def cE (x : S62) : S70 := ⟨x.f0, x.f1, x.f2, x.f3⟩
theorem rd72 (l : List S62) (i : Nat) (h : i < l.length) : A0p l (i : Int) = l[i] := by
 unfold A0p
 rw [Int.toNat_natCast, List.getD_eq_getElem?_getD, List.getElem?_eq_getElem h]; rfl
theorem rd79 (l : List S70) (i : Nat) (h : i < l.length) : A1s l (i : Int) = l[i] := by
 unfold A1s
 rw [Int.toNat_natCast, List.getD_eq_getElem?_getD, List.getElem?_eq_getElem h]; rfl
theorem rd_map (l : List S62) (i : Nat) (h : i < l.length) : A1s (l.map cE) (i : Int) = cE (A0p l (i : Int)) := by
 rw [rd79 _ i (by rw [List.length_map]; exact h), rd72 l i h, List.getElem_map]
def badE (x : S62) : Bool := decide (x.f2 < 1) || (decide (x.f2 > 65535) || (decide (x.f3 < 4) || (decide (x.f3 > 2147483647) || decide (x.f1 < x.f0))))
def chk (l : List S62) : Nat → Nat → Bool
 | 0, _ => true
 | d + 1, i => if badE (A0p l (i : Int)) = true then false else if 0 < i ∧ (A0p l (i : Int)).f0 ≤ (A0p l ((i - 1 : Nat) : Int)).f1 then false else chk l d (i + 1)
def M (kind : Int) (l : List S62) : Bool := if (kind = 1 ∨ kind = 2) ∧ l.length ≤ 65535 then chk l l.length 0 else false
theorem chain {α : Type} (x : S62) (a b : α) : (if x.f2 < 1 then a else if x.f2 > 65535 then a else if x.f3 < 4 then a else if x.f3 > 2147483647 then a else if x.f1 < x.f0 then a else b) = if badE x = true then a else b := by
 unfold badE
 by_cases c1 : x.f2 < 1
 ·simp [c1]
 by_cases c2 : x.f2 > 65535
 ·simp [c1, c2]
 by_cases c3 : x.f3 < 4
 ·simp [c1, c2, c3]
 by_cases c4 : x.f3 > 2147483647
 ·simp [c1, c2, c3, c4]
 by_cases c5 : x.f1 < x.f0
 ·simp [c1, c2, c3, c4, c5]
 ·simp [c1, c2, c3, c4, c5]
theorem may_l0 (l : List S62) (kind : Int) (hl : l.length ≤ 65535) : ∀ (d i : Nat), i + d = l.length → Ev (fun k => A1v.l0 k l (l.length : Int) (i : Int) kind l) (chk l d i) := by
 intro d
 induction d with
 | zero =>
  intro i hi
  refine Ev.step (fun k => by rw [A1v.l0, if_neg (show ¬ (i : Int) < (l.length : Int) by omega)]) ?_
  exact Ev.now _
 | succ d ih =>
  intro i hi
  have h1 : (i : Int) < (l.length : Int) := by omega
  have hw := A3z i (by omega)
  have hI := ih (i + 1) (by omega)
  refine Ev.step (fun k => by rw [A1v.l0, if_pos h1, if_pos (Int.natCast_nonneg i), if_pos h1, chain]) ?_
  by_cases cb : badE (A0p l (i : Int)) = true
  ·simp only [if_pos cb, chk]; exact Ev.now _
  by_cases c0 : i = 0
  ·subst c0
   simp only [if_neg cb, chk, if_neg (show ¬ ((0 : Nat) : Int) > 0 by omega), if_neg (show ¬ (0 < 0 ∧ (A0p l ((0 : Nat) : Int)).f0 ≤ (A0p l ((0 - 1 : Nat) : Int)).f1) from fun h => absurd h.1 (by omega)), hw]
   exact hI
  ·have hp : wrap64 ((i : Int) - 1) = ((i - 1 : Nat) : Int) := by rw [w64 _ (by omega)]; omega
   have h2 : ((i - 1 : Nat) : Int) < (l.length : Int) := by omega
   by_cases co : (A0p l (i : Int)).f0 ≤ (A0p l ((i - 1 : Nat) : Int)).f1
   ·simp only [if_neg cb, if_pos (show (i : Int) > 0 by omega), hp, if_pos (Int.natCast_nonneg (i - 1)), if_pos h2, if_pos co, chk, if_pos (show 0 < i ∧ (A0p l (i : Int)).f0 ≤ (A0p l ((i - 1 : Nat) : Int)).f1 from ⟨by omega, co⟩)]
    exact Ev.now _
   ·simp only [if_neg cb, if_pos (show (i : Int) > 0 by omega), hp, if_pos (Int.natCast_nonneg (i - 1)), if_pos h2, if_neg co, chk, if_neg (show ¬ (0 < i ∧ (A0p l (i : Int)).f0 ≤ (A0p l ((i - 1 : Nat) : Int)).f1) from fun h => co h.2), hw]
    exact hI
theorem may_is (kind : Int) (l : List S62) (hl : l.length < 140737488355328) : Ev (fun k => A1v.f k kind l) (M kind l) := by
 have hbad : Ev (fun k => A1v.j0 k true kind l) false := Ev.step (fun k => by rw [A1v.j0, if_pos rfl]) (Ev.now _)
 have hin : Ev (fun k => A1v.j0 k (decide ((l.length : Int) > 65535)) kind l) (if l.length ≤ 65535 then chk l l.length 0 else false) := by
  by_cases c : l.length ≤ 65535
  ·rw [decide_eq_false (show ¬ (l.length : Int) > 65535 by omega), if_pos c]
   exact Ev.step (f := fun k => A1v.l0 k l (l.length : Int) ((0 : Nat) : Int) kind l) (fun k => by rw [A1v.j0, if_neg (show ¬ false = true by decide)]; rfl) (may_l0 l kind c l.length 0 (by omega))
  ·rw [decide_eq_true (show (l.length : Int) > 65535 by omega), if_neg c]
   exact hbad
 unfold A1v.f M
 by_cases c1 : kind = 1
 ·subst c1
  simp only [if_true, true_or, true_and]
  exact hin
 by_cases c2 : kind = 2
 ·subst c2
  simp only [if_neg c1, if_true, or_true, true_and]
  exact hin
 ·simp only [if_neg c1, if_neg c2, c1, c2, or_self, false_and, if_false]
  exact hbad
theorem rmay_j2 (l : List S62) (i : Nat) (hi : i < l.length) (hl : l.length ≤ 65535) (f : Bool) (r : Bool) (a b c d : Int) (ha : a = (A0p l (i : Int)).f0) (hr : Ev (fun k => A0n.l0 k (l.map cE) ((i + 1 : Nat) : Int)) r) :
    Ev (fun k => A0n.j2 k (l.map cE) (i : Int) f a b c d) (if f = true then false else if 0 < i ∧ (A0p l (i : Int)).f0 ≤ (A0p l ((i - 1 : Nat) : Int)).f1 then false else r) := by
  have hw := A3z i (by omega)
  subst ha
  cases f with
  | true =>
    rw [if_pos rfl]
    exact Ev.step (fun k => by rw [A0n.j2, if_pos rfl]) (Ev.now _)
  | false =>
    refine Ev.step (fun k => by rw [A0n.j2, if_neg (show ¬ false = true by decide)]) ?_
    by_cases c0 : i = 0
    · subst c0
      simp only [if_neg (show ¬ ((0 : Nat) : Int) > 0 by omega), if_neg (show ¬ (0 < 0 ∧ (A0p l ((0 : Nat) : Int)).f0 ≤ (A0p l ((0 - 1 : Nat) : Int)).f1) from fun h => absurd h.1 (by omega)), hw, Bool.false_eq_true, if_false]
      exact hr
    · have hp : wrap64 ((i : Int) - 1) = ((i - 1 : Nat) : Int) := by rw [w64 _ (by omega)]; omega
      have h2 : ((i - 1 : Nat) : Int) < ((l.map cE).length : Int) := by rw [List.length_map]; omega
      have h3 := rd_map l (i - 1) (by omega)
      by_cases co : (A0p l (i : Int)).f0 ≤ (A0p l ((i - 1 : Nat) : Int)).f1
      · simp only [if_pos (show (i : Int) > 0 by omega), hp, if_pos (Int.natCast_nonneg (i - 1)), if_pos h2, h3, cE, if_pos co, if_pos (show 0 < i ∧ (A0p l (i : Int)).f0 ≤ (A0p l ((i - 1 : Nat) : Int)).f1 from ⟨by omega, co⟩), Bool.false_eq_true, if_false]
        exact Ev.now _
      · simp only [if_pos (show (i : Int) > 0 by omega), hp, if_pos (Int.natCast_nonneg (i - 1)), if_pos h2, h3, cE, if_neg co, if_neg (show ¬ (0 < i ∧ (A0p l (i : Int)).f0 ≤ (A0p l ((i - 1 : Nat) : Int)).f1) from fun h => co h.2), hw, Bool.false_eq_true, if_false]
        exact hr
theorem rmay_l0 (l : List S62) (hl : l.length ≤ 65535) : ∀ (d i : Nat), i + d = l.length → Ev (fun k => A0n.l0 k (l.map cE) (i : Int)) (chk l d i) := by
 intro d
 induction d with
 | zero =>
  intro i hi
  refine Ev.step (fun k => by rw [A0n.l0, if_neg (show ¬ (i : Int) < ((l.map cE).length : Int) by rw [List.length_map]; omega)]) ?_
  exact Ev.now _
 | succ d ih =>
  intro i hi
  have h1 : (i : Int) < ((l.map cE).length : Int) := by rw [List.length_map]; omega
  have hI := ih (i + 1) (by omega)
  have h3 := rd_map l i (by omega)
  have k0 : (A1s (l.map cE) (i : Int)).f0 = (A0p l (i : Int)).f0 := by rw [h3]; rfl
  have k1 : (A1s (l.map cE) (i : Int)).f1 = (A0p l (i : Int)).f1 := by rw [h3]; rfl
  have k2 : (A1s (l.map cE) (i : Int)).f2 = (A0p l (i : Int)).f2 := by rw [h3]; rfl
  have k3 : (A1s (l.map cE) (i : Int)).f3 = (A0p l (i : Int)).f3 := by rw [h3]; rfl
  refine Ev.step (fun k => by rw [A0n.l0, if_pos h1, if_pos (Int.natCast_nonneg i)]) ?_
  generalize A1s (l.map cE) (i : Int) = x at k0 k1 k2 k3
  have hJ := fun f => rmay_j2 l i (by omega) hl f (chk l d (i + 1)) x.f0 x.f1 x.f2 x.f3 k0 hI
  have hT := hJ true
  rw [if_pos rfl] at hT
  by_cases c1 : x.f2 < 1
  ·have hb : badE (A0p l (i : Int)) = true := by simp [badE, ← k2, c1]
   simp only [if_pos c1, chk, if_pos hb]
   exact hT
  by_cases c2 : x.f2 > 65535
  ·have hb : badE (A0p l (i : Int)) = true := by simp [badE, ← k2, c1, c2]
   simp only [if_neg c1, if_pos c2, chk, if_pos hb]
   exact hT
  by_cases c3 : x.f3 < 4
  ·have hb : badE (A0p l (i : Int)) = true := by simp [badE, ← k2, ← k3, c1, c2, c3]
   simp only [if_neg c1, if_neg c2, if_pos c3, chk, if_pos hb]
   exact hT
  by_cases c4 : x.f3 > 2147483647
  ·have hb : badE (A0p l (i : Int)) = true := by simp [badE, ← k2, ← k3, c1, c2, c3, c4]
   simp only [if_neg c1, if_neg c2, if_neg c3, if_pos c4, chk, if_pos hb]
   exact hT
  ·have hb : badE (A0p l (i : Int)) = decide (x.f1 < x.f0) := by simp [badE, ← k0, ← k1, ← k2, ← k3, c1, c2, c3, c4]
   simp only [if_neg c1, if_neg c2, if_neg c3, if_neg c4, chk, hb]
   exact hJ _
theorem rmay_is (kind : Int) (l : List S62) (hl : l.length < 140737488355328) : Ev (fun k => A0n.f k kind (l.map cE)) (M kind l) := by
 have hbad : Ev (fun k => A0n.j0 k (l.map cE) true) false := Ev.step (fun k => by rw [A0n.j0, if_pos rfl]) (Ev.now _)
 have hin : Ev (fun k => A0n.j0 k (l.map cE) (decide (((l.map cE).length : Int) > 65535))) (if l.length ≤ 65535 then chk l l.length 0 else false) := by
  rw [List.length_map]
  by_cases c : l.length ≤ 65535
  ·rw [decide_eq_false (show ¬ (l.length : Int) > 65535 by omega), if_pos c]
   exact Ev.step (f := fun k => A0n.l0 k (l.map cE) ((0 : Nat) : Int)) (fun k => by rw [A0n.j0, if_neg (show ¬ false = true by decide)]; rfl) (rmay_l0 l c l.length 0 (by omega))
  ·rw [decide_eq_true (show (l.length : Int) > 65535 by omega), if_neg c]
   exact hbad
 unfold A0n.f M
 by_cases c1 : kind = 1
 ·subst c1
  simp only [if_true, true_or, true_and]
  exact hin
 by_cases c2 : kind = 2
 ·subst c2
  simp only [if_neg c1, if_true, or_true, true_and]
  exact hin
 ·simp only [if_neg c1, if_neg c2, c1, c2, or_self, false_and, if_false]
  exact hbad
def dE (x : S70) : S62 := ⟨x.f0, x.f1, x.f2, x.f3⟩
theorem cd (l : List S70) : (l.map dE).map cE = l := by
 rw [List.map_map]
 exact List.map_id'' (fun x => by cases x; rfl) l
theorem rmay_any (kind : Int) (l : List S70) (hl : l.length < 140737488355328) : Ev (fun k => A0n.f k kind l) (M kind (l.map dE)) := by
 have h := rmay_is kind (l.map dE) (by rw [List.length_map]; exact hl)
 rw [cd] at h
 exact h
end Go.Proofs.YtodocfjbpkicgaaDoor.PIdx
end
section
namespace Crc
abbrev Reg := BitVec 32
def step (v : Reg) : Reg := (v >>> 1) ^^^ (if v.getLsbD 0 then 0xedb88320#32 else 0#32)
def steps : Nat → Reg → Reg
 | 0, v => v
 | n + 1, v => steps n (step v)
def eat (v : Reg) (b : List Int) : Reg := b.foldl (fun v c => steps 8 (v ^^^ BitVec.ofInt 32 c)) v
end Crc
end
section
namespace Go.Proofs.YtodocfjbpkicgaaDoor.PCrc
open Go Go.RowKit Go.Proofs.YtodocfjbpkicgaaDoor.All Go.Zw Go.Zl
theorem xor_ofInt (a : BitVec 32) (y : Int) : Go.bits .xor .u32 (a.toNat : Int) y = ((a ^^^ BitVec.ofInt 32 y).toNat : Int) := by
 show IntKind.u32.wrap (((BitVec.ofInt 32 (a.toNat : Int)) ^^^ (BitVec.ofInt 32 y)).toNat : Int) = _
 rw [Ib.wrap_u32, BitVec.ofInt_natCast, BitVec.ofNat_toNat, BitVec.setWidth_eq]
 have := (a ^^^ BitVec.ofInt 32 y).isLt
 omega
theorem xor_bv (a b : BitVec 32) : Go.bits .xor .u32 (a.toNat : Int) (b.toNat : Int) = ((a ^^^ b).toNat : Int) := by
 rw [xor_ofInt, BitVec.ofInt_natCast, BitVec.ofNat_toNat, BitVec.setWidth_eq]
theorem ofInt_mod (y : Int) : BitVec.ofInt 32 (y % 4294967296) = BitVec.ofInt 32 y := by
 apply BitVec.eq_of_toNat_eq
 rw [BitVec.toNat_ofInt, BitVec.toNat_ofInt]
 congr 1
 omega
theorem toNat_half (a : BitVec 32) : (a.toNat : Int) / (2 : Int) = (((a >>> 1).toNat : Nat) : Int) := by
 rw [BitVec.toNat_ushiftRight, Nat.shiftRight_eq_div_pow]; omega
theorem bit0 (a : BitVec 32) : a.getLsbD 0 = decide (a.toNat % 2 = 1) := by
 rw [BitVec.getLsbD, Nat.testBit_zero]
theorem step_impl (a : BitVec 32) : Go.bits .xor .u32 ((a.toNat : Int) / 2) (Go.bits .and .u32 ((-(Go.bits .and .u32 (a.toNat : Int) 1)) % 4294967296) 3988292384) = ((Crc.step a).toNat : Int) := by
 have h1 : Go.bits .and .u32 (a.toNat : Int) 1 = (a.toNat : Int) % 2 := by
  show IntKind.u32.wrap (((BitVec.ofInt 32 (a.toNat : Int)) &&& (BitVec.ofInt 32 1)).toNat : Int) = _
  rw [Ib.wrap_u32, BitVec.ofInt_natCast, BitVec.ofNat_toNat, BitVec.setWidth_eq, show BitVec.ofInt 32 1 = 1#32 from by decide, BitVec.toNat_and, show (1#32).toNat = 2 ^ 1 - 1 from rfl, Nat.and_two_pow_sub_one_eq_mod]
  omega
 rw [h1, toNat_half]
 unfold Crc.step
 rw [bit0]
 by_cases h : a.toNat % 2 = 1
 ·rw [show (a.toNat : Int) % 2 = 1 from by omega, show Go.bits .and .u32 ((-(1 : Int)) % 4294967296) 3988292384 = ((3988292384#32).toNat : Int) from by decide, xor_bv]
  simp [h]
 ·rw [show (a.toNat : Int) % 2 = 0 from by omega, show Go.bits .and .u32 ((-(0 : Int)) % 4294967296) 3988292384 = ((0#32).toNat : Int) from by decide, xor_bv]
  simp [h]
theorem sum_l1 (xs : List Int) (x8 : Int) (r : Int) : ∀ (j : Nat) (a : BitVec 32), j ≤ 8 → Ev (fun k => A2f.l0 k ((Crc.steps j a).toNat : Int) xs (xs.length : Int) (wrap64 (x8 + 1))) r →
    Ev (fun k => A2f.l1 k (a.toNat : Int) xs (xs.length : Int) x8 ((8 - j : Nat) : Int)) r := by
  intro j
  induction j with
  | zero => intro a _ h; exact Ev.step (fun k => by simp only [A2f.l1]; rw [if_neg (by omega)]; rfl) h
  | succ j ih =>
    intro a hj h
    refine Ev.step (fun k => ?_) (ih (Crc.step a) (by omega) h)
    simp only [A2f.l1]
    rw [if_pos (by omega), step_impl]
    congr 1
    unfold wrap64; omega
theorem sum_l0 (xs : List Int) (hl : xs.length ≤ 140737488355328) : ∀ (d i : Nat) (a : BitVec 32), i + d = xs.length → Ev (fun k => A2f.l0 k (a.toNat : Int) xs (xs.length : Int) (i : Int)) ((~~~ (Crc.eat a (xs.drop i))).toNat : Int) := by
 intro d
 induction d with
 | zero =>
  intro i a hi
  refine Ev.step (fun k => ?_) (Ev.now _)
  simp only [A2f.l0]
  rw [if_neg (by omega), List.drop_eq_nil_of_le (by omega)]
  rw [show (4294967295 : Int) = ((BitVec.allOnes 32).toNat : Int) from by decide, xor_bv, BitVec.allOnes_xor]
  rfl
 | succ d ih =>
  intro i a hi
  have hlt : i < xs.length := by omega
  have hd : xs.drop i = xs[i] :: xs.drop (i + 1) := List.drop_eq_getElem_cons hlt
  have hrd : rd xs (i : Int) = xs[i] := by simp [rd, List.getD_eq_getElem?_getD, hlt]
  have := ih (i + 1) (Crc.steps 8 (a ^^^ BitVec.ofInt 32 xs[i])) (by omega)
  rw [hd]
  refine Ev.step (fun k => ?_) (sum_l1 xs (i : Int) _ 8 (a ^^^ BitVec.ofInt 32 xs[i]) (by omega) ?_)
  ·simp only [A2f.l0]
   rw [if_pos (by omega), if_pos (by omega), if_pos (by omega), hrd, xor_ofInt, ofInt_mod]
   rfl
  ·rw [show wrap64 ((i : Int) + 1) = ((i + 1 : Nat) : Int) from by unfold wrap64; omega]
   exact this
theorem sum_is (xs : List Int) (hl : xs.length ≤ 140737488355328) : Ev (fun k => A2f.f k xs) ((~~~ (Crc.eat (BitVec.allOnes 32) xs)).toNat : Int) :=
 sum_l0 xs hl xs.length 0 (BitVec.allOnes 32) (by omega)
theorem step_ref (a : BitVec 32) : (if (Int.tmod (a.toNat : Int) 2) = 1 then Go.bits .xor .u32 ((Int.tdiv (a.toNat : Int) 2) % 4294967296) 3988292384 else (Int.tdiv (a.toNat : Int) 2) % 4294967296) = ((Crc.step a).toNat : Int) := by
 have ha := a.isLt
 rw [Int.tmod_eq_emod_of_nonneg (by omega), Int.tdiv_eq_ediv_of_nonneg (by omega), show ((a.toNat : Int) / 2) % 4294967296 = (a.toNat : Int) / 2 from by omega, toNat_half]
 unfold Crc.step
 rw [bit0]
 by_cases h : a.toNat % 2 = 1
 ·rw [if_pos (by omega), show (3988292384 : Int) = ((3988292384#32).toNat : Int) from by decide, xor_bv]
  simp [h]
 ·rw [if_neg (by omega)]
  simp [h]
theorem ref_l1 (xs : List Int) (x4 : Int) (r : Int) : ∀ (j : Nat) (a : BitVec 32), j ≤ 8 → Ev (fun k => A09.l0 k xs ((Crc.steps j a).toNat : Int) (wrap64 (x4 + 1))) r →
    Ev (fun k => A09.l1 k xs (a.toNat : Int) x4 ((8 - j : Nat) : Int)) r := by
  intro j
  induction j with
  | zero => intro a _ h; exact Ev.step (fun k => by simp only [A09.l1]; rw [if_neg (by omega)]; rfl) h
  | succ j ih =>
    intro a hj h
    refine Ev.step (fun k => ?_) (ih (Crc.step a) (by omega) h)
    simp only [A09.l1]
    rw [if_pos (by omega), ← step_ref, show wrap64 (((8 - (j + 1) : Nat) : Int) + 1) = ((8 - j : Nat) : Int) from by unfold wrap64; omega]
    split <;> rfl
theorem ref_l0 (xs : List Int) (hl : xs.length ≤ 140737488355328) : ∀ (d i : Nat) (a : BitVec 32), i + d = xs.length → Ev (fun k => A09.l0 k xs (a.toNat : Int) (i : Int)) ((~~~ (Crc.eat a (xs.drop i))).toNat : Int) := by
 intro d
 induction d with
 | zero =>
  intro i a hi
  refine Ev.step (fun k => ?_) (Ev.now _)
  simp only [A09.l0]
  rw [if_neg (by omega), List.drop_eq_nil_of_le (by omega)]
  have ha := a.isLt
  rw [show Crc.eat a [] = a from rfl, BitVec.toNat_not]
  congr 1
  omega
 | succ d ih =>
  intro i a hi
  have hlt : i < xs.length := by omega
  have hd : xs.drop i = xs[i] :: xs.drop (i + 1) := List.drop_eq_getElem_cons hlt
  have hrd : rd xs (i : Int) = xs[i] := by simp [rd, List.getD_eq_getElem?_getD, hlt]
  have := ih (i + 1) (Crc.steps 8 (a ^^^ BitVec.ofInt 32 xs[i])) (by omega)
  rw [hd]
  refine Ev.step (fun k => ?_) (ref_l1 xs (i : Int) _ 8 (a ^^^ BitVec.ofInt 32 xs[i]) (by omega) ?_)
  ·simp only [A09.l0]
   rw [if_pos (by omega), if_pos (by omega), hrd, xor_ofInt, ofInt_mod]
   rfl
  ·rw [show wrap64 ((i : Int) + 1) = ((i + 1 : Nat) : Int) from by unfold wrap64; omega]
   exact this
theorem ref_is (xs : List Int) (hl : xs.length ≤ 140737488355328) : Ev (fun k => A09.f k xs) ((~~~ (Crc.eat (BitVec.allOnes 32) xs)).toNat : Int) :=
 ref_l0 xs hl xs.length 0 (BitVec.allOnes 32) (by omega)
end Go.Proofs.YtodocfjbpkicgaaDoor.PCrc
end
section
namespace Go.Proofs.YtodocfjbpkicgaaDoor.PIdx
open Go Go.RowKit Go.Proofs.YtodocfjbpkicgaaDoor Go.Proofs.YtodocfjbpkicgaaDoor.All Go.Zw Go.Zl
open PUvar
structure WfE (e : S178) : Prop where
 m : -9223372036854775808 ≤ e.f0 ∧ e.f0 < 9223372036854775808
 s : 0 ≤ e.f1 ∧ e.f1 < 18446744073709551616
 c : 0 ≤ e.f2 ∧ e.f2 < 18446744073709551616
 l : 0 ≤ e.f3 ∧ e.f3 < 18446744073709551616
def okE (e : S178) : Bool := decide (e.f0 + e.f1 ≤ 9223372036854775807) && (decide (e.f2 ≤ 65535) && decide (e.f3 ≤ 2147483647))
def ent (e : S178) : S62 := ⟨e.f0, e.f0 + e.f1, e.f2, e.f3⟩
def fit : List S178 → Int → Bool
 | [], r => decide (r = 0)
 | e :: t, r => okE e && (decide (e.f3 ≤ r) && fit t (r - e.f3))
theorem w_max (a s : Int) (ha : -9223372036854775808 ≤ a ∧ a < 9223372036854775808) (hs : 0 ≤ s ∧ s < 18446744073709551616) :
    (IntKind.u64.wrap ((IntKind.u64.wrap (wrap64 (a + wrap64 s))) - (IntKind.u64.wrap a))) = s ∧ (wrap64 (a + wrap64 s) < a ↔ ¬ a + s ≤ 9223372036854775807) ∧ (a + s ≤ 9223372036854775807 → wrap64 (a + wrap64 s) = a + s) := by
  rw [Ib.wrap_u64, Ib.wrap_u64, Ib.wrap_u64]
  unfold wrap64
  omega
theorem entry_is (e : S178) (h : WfE e) : A3r.f e.f0 e.f1 e.f2 e.f3 = some (if okE e = true then (e.f0, e.f0 + e.f1, e.f2, e.f3, true) else (0, 0, 0, 0, false)) := by
 obtain ⟨h1, h2, h3⟩ := w_max e.f0 e.f1 h.m h.s
 unfold A3r.f okE
 rw [if_pos h1]
 by_cases c1 : e.f0 + e.f1 ≤ 9223372036854775807
 ·rw [if_neg (fun hh => h2.mp hh c1), h3 c1]
  by_cases c2 : e.f2 ≤ 65535
  ·by_cases c3 : e.f3 ≤ 2147483647
   ·rw [if_neg (show ¬ e.f2 > 65535 by omega), if_neg (show ¬ e.f3 > 2147483647 by omega), w64 e.f2 (by have := h.c; omega), w64 e.f3 (by have := h.l; omega)]
    simp [c1, c2, c3]
   ·rw [if_neg (show ¬ e.f2 > 65535 by omega), if_pos (show e.f3 > 2147483647 by omega)]
    simp [c3]
  ·rw [if_pos (show e.f2 > 65535 by omega)]
   simp [c2]
 ·rw [if_pos (h2.mpr c1)]
  simp [c1]
theorem rd89 (l : List S178) (i : Nat) (h : i < l.length) : A1l l (i : Int) = l[i] := by
 unfold A1l
 rw [Int.toNat_natCast, List.getD_eq_getElem?_getD, List.getElem?_eq_getElem h]; rfl
theorem w64_range (v : Int) : -9223372036854775808 ≤ wrap64 v ∧ wrap64 v < 9223372036854775808 := by unfold wrap64; omega
theorem one_wf {b : List Int} (hb : Bs.Bytes b) {p : Nat} (h : OneOk b p) : WfE (one b p).2.1 := by
 have h1 := gu_ok (hb.drop _) h.e1
 have h2 := gu_ok (hb.drop _) h.e2
 have h3 := gu_ok (hb.drop _) h.e3
 rw [h.is]
 exact ⟨w64_range _, ⟨h1.1, h1.2.1⟩, ⟨h2.1, h2.2.1⟩, ⟨h3.1, h3.2.1⟩⟩
theorem ents_facts {b : List Int} (hb : Bs.Bytes b) : ∀ (m p : Nat), p ≤ b.length → (ents b m p).1 = 0 → (∀ e ∈ (ents b m p).2.1, WfE e) ∧ (ents b m p).2.1.length = m ∧ p ≤ (ents b m p).2.2 ∧ (ents b m p).2.2 ≤ b.length := by
 intro m
 induction m with
 | zero => intro p hp h; exact ⟨fun e he => by simp [ents] at he, rfl, Nat.le_refl _, hp⟩
 | succ m ih =>
  intro p hp h
  by_cases c : (one b p).1 = 0
  ·have hO := one_ok hb c
   have hle : p ≤ (one b p).2.2 ∧ (one b p).2.2 ≤ b.length := by
    have e : (one b p).2.2 = q3 b p := by rw [hO.is]
    have := hO.p1; have := hO.p2; have := hO.p3
    rw [e]; omega
   rw [ents_ok c] at h ⊢
   obtain ⟨i1, i2, i3, i4⟩ := ih (one b p).2.2 hle.2 h
   refine ⟨fun e he => ?_, ?_, Nat.le_trans hle.1 i3, i4⟩
   ·rcases List.mem_cons.mp he with he | he
    ·rw [he]; exact one_wf hb hO
    ·exact i1 e he
   ·rw [List.length_cons, i2]
  ·rw [ents_err c] at h
   exact absurd h c
theorem gl_facts {b : List Int} (hb : Bs.Bytes b) {p : Nat} (hp : p ≤ b.length) (h : (gl b p).1 = 0) : (∀ e ∈ (gl b p).2.1, WfE e) ∧ (gl b p).2.1.length ≤ 65535 ∧ p ≤ (gl b p).2.2 ∧ (gl b p).2.2 ≤ b.length := by
 by_cases c1 : (gu (b.drop p)).2.2 ≠ 0
 ·unfold gl at h; rw [if_pos c1] at h; exact absurd h c1
 by_cases c2 : (gu (b.drop p)).1 > 65535
 ·unfold gl at h; rw [if_neg c1, if_pos c2] at h; exact absurd (show (9 : Int) = 0 from h) (by decide)
 have e : gl b p = ents b (gu (b.drop p)).1.toNat (p + (gu (b.drop p)).2.1.toNat) := by unfold gl; rw [if_neg c1, if_neg c2]
 have hle := step_len hb p hp (Decidable.not_not.mp c1)
 rw [e] at h ⊢
 obtain ⟨i1, i2, i3, i4⟩ := ents_facts hb _ _ hle h
 exact ⟨i1, by omega, by omega, i4⟩
theorem get_l0 (b : List Int) (kind at_ : Int) (raws : List S178) (hw : ∀ e ∈ raws, WfE e) (hn : raws.length ≤ 65535) : ∀ (d i : Nat) (acc : List S62) (rest : Int), i + d = raws.length → acc.length = i → 0 ≤ rest → rest < 140737488355328 →
    Ev (fun k => A0r.l0 k rest raws (raws.length : Int) (i : Int) b at_ none kind acc)
      (if (fit (raws.drop i) rest && M kind (acc ++ (raws.drop i).map ent)) = true then (kind, acc ++ (raws.drop i).map ent, at_, none) else (0, [], 0, some 8)) := by
  intro d
  induction d with
  | zero =>
    intro i acc rest hi ha h0 h1
    have hno : ¬ (i : Int) < (raws.length : Int) := by omega
    have hM := may_is kind acc (by omega)
    rw [List.drop_of_length_le (show raws.length ≤ i by omega)]
    simp only [fit, List.map_nil, List.append_nil]
    refine Ev.step (fun k => by rw [A0r.l0, if_neg hno]) ?_
    by_cases c : rest = 0
    · simp only [if_pos c]
      refine Ev.bind hM ?_
      have hd : decide (rest = 0) = true := decide_eq_true c
      simp only [hd, Bool.true_and]
      cases M kind acc with
      | true => simp only [if_true]; exact Ev.now _
      | false => simp only [Bool.false_eq_true, if_false]; exact Ev.now _
    · have hd : decide (rest = 0) = false := decide_eq_false c
      simp only [if_neg c, hd, Bool.false_and, Bool.false_eq_true, if_false]
      exact Ev.now _
  | succ d ih =>
    intro i acc rest hi ha h0 h1
    have hlt : i < raws.length := by omega
    have hlt' : (i : Int) < (raws.length : Int) := by omega
    have hwe := hw _ (List.getElem_mem hlt)
    have hE := entry_is raws[i] hwe
    have hdrop : raws.drop i = raws[i] :: raws.drop (i + 1) := List.drop_eq_getElem_cons hlt
    have hws := A3z i (by omega)
    have ha' : acc.length < 4398046511104 := by omega
    rw [hdrop]
    simp only [fit, List.map_cons]
    by_cases c : okE raws[i] = true
    · rw [if_pos c] at hE
      by_cases c2 : raws[i].f3 ≤ rest
      · have hl3 := hwe.l.1
        have hwr : wrap64 (rest - raws[i].f3) = rest - raws[i].f3 := w64 _ (by omega)
        have hI := ih (i + 1) (acc ++ [ent raws[i]]) (rest - raws[i].f3) (by omega) (by rw [List.length_append, List.length_singleton]; omega) (by omega) (by omega)
        rw [List.append_assoc] at hI
        have hd : decide (raws[i].f3 ≤ rest) = true := decide_eq_true c2
        simp only [c, hd, Bool.true_and]
        refine Ev.step (fun k => by rw [A0r.l0, if_pos hlt', if_pos (Int.natCast_nonneg i), if_pos hlt', rd89 raws i hlt, hE, Option.bind_some, if_pos rfl, if_neg (show ¬ raws[i].f3 > rest by omega), if_pos ha', hwr, hws]) ?_
        exact hI
      · have hd : decide (raws[i].f3 ≤ rest) = false := decide_eq_false c2
        simp only [hd, Bool.false_and, Bool.and_false, Bool.false_eq_true, if_false]
        refine Ev.step (fun k => by rw [A0r.l0, if_pos hlt', if_pos (Int.natCast_nonneg i), if_pos hlt', rd89 raws i hlt, hE, Option.bind_some, if_pos rfl, if_pos (show raws[i].f3 > rest by omega)]) ?_
        exact Ev.now _
    · rw [if_neg c] at hE
      have cf : okE raws[i] = false := by simpa using c
      simp only [cf, Bool.false_and, Bool.false_eq_true, if_false]
      refine Ev.step (fun k => by rw [A0r.l0, if_pos hlt', if_pos (Int.natCast_nonneg i), if_pos hlt', rd89 raws i hlt, hE, Option.bind_some, if_neg (show ¬ false = true by decide)]) ?_
      exact Ev.now _
def pre (b : List Int) : Bool := if b.length < 4 then false else (strOfNums (b.take 4)).toList == ([71, 84, 83, 49] : List UInt8)
theorem magic_list : (⟨#[71, 84, 83, 49]⟩ : ByteArray).toList = ([71, 84, 83, 49] : List UInt8) := by
 rw [show (⟨#[71, 84, 83, 49]⟩ : ByteArray) = strOfNums [71, 84, 83, 49] from rfl, Lib.strOfNums_toList]; rfl
theorem extract_is (b : List Int) : (strOfNums b).extract 0 4 = strOfNums (b.take 4) := by
 apply ByteArray.ext
 rw [ByteArray.data_extract]
 unfold strOfNums
 simp [List.map_take]
theorem pre_is (b : List Int) : strings_HasPrefix.f (strOfNums b) (⟨#[71, 84, 83, 49]⟩ : ByteArray) = some (pre b) := by
 have hs : ((⟨#[71, 84, 83, 49]⟩ : ByteArray).size : Int) = 4 := rfl
 have hz : ((strOfNums b).size : Int) = (b.length : Int) := by rw [strOfNums_size]
 unfold strings_HasPrefix.f stringslite_HasPrefix.f pre
 rw [hs, hz]
 by_cases c : b.length < 4
 ·rw [if_neg (show ¬ (b.length : Int) ≥ 4 by omega), if_pos c]; rfl
 ·rw [if_pos (show (b.length : Int) ≥ 4 by omega), if_pos (show (0 : Int) ≤ 4 by decide), if_pos (show (4 : Int) ≤ (b.length : Int) by omega), if_neg c, show ((4 : Int).toNat) = 4 from rfl, extract_is, magic_list]
  rfl
def crcN (xs : List Int) : Int := ((~~~ (Crc.eat (BitVec.allOnes 32) xs)).toNat : Int)
theorem crcN_range (xs : List Int) : 0 ≤ crcN xs ∧ crcN xs < 4294967296 := by
 unfold crcN
 have := (~~~ (Crc.eat (BitVec.allOnes 32) xs)).isLt
 omega
noncomputable def getS (b : List Int) : Int × List S62 × Int × Int :=
 if ¬ pre b = true then (0, [], 0, 5)
 else if b.length < 5 then (0, [], 0, 2)
 else if ¬ (rd b 4 = 1 ∨ rd b 4 = 2) then (0, [], 0, 6)
 else if (gl b 5).1 ≠ 0 then (0, [], 0, (gl b 5).1)
 else if b.length < (gl b 5).2.2 + 4 then (0, [], 0, 2)
 else if nb ((b.drop (gl b 5).2.2).take 4) ≠ crcN (b.take (gl b 5).2.2) then (0, [], 0, 7)
 else if (fit (gl b 5).2.1 ((b.length - (gl b 5).2.2 - 4 : Nat) : Int) && M (rd b 4) ((gl b 5).2.1.map ent)) = true then (rd b 4, (gl b 5).2.1.map ent, (((gl b 5).2.2 + 4 : Nat) : Int), 0)
 else (0, [], 0, 8)
theorem get_tail_bad (b c : List Int) (l : List S178) (a e kind : Int) : Ev (fun k => A0r.j2 k b l false c a (some e) kind) (0, [], 0, some e) := by
 refine Ev.step (fun k => by rw [A0r.j2, if_neg (show ¬ false = true by decide)]) ?_
 refine Ev.step (fun k => by rw [A0r.j3, if_neg (show ¬ (some e).isNone = true by simp)]) ?_
 exact Ev.now _
theorem get_mid_bad (b : List Int) (l : List S178) (a e kind : Int) (at_ : Int) (er : Option Int) (h : Ev (fun k => A0e.f k b at_ er) (l, b, a, some e)) : Ev (fun k => A0r.j1 k b b at_ er kind) (0, [], 0, some e) := by
 refine Ev.step (fun k => by rw [A0r.j1]) ?_
 refine Ev.bind h (Ev.bind (fixed_bad b a 4 e) ?_)
 simp only [Option.isNone_some, Bool.false_eq_true, if_false, Option.getD_some]
 exact get_tail_bad b b l a e kind
theorem nb1 {b : List Int} (h : 4 < b.length) : nb ((b.drop 4).take 1) = rd b 4 := by
 rw [show (4 : Int) = ((4 : Nat) : Int) from rfl, rd_get b 4 h, List.drop_eq_getElem_cons h, List.take_succ_cons, List.take_zero]
 unfold nb
 rw [List.foldl_cons, List.foldl_nil]
 omega
theorem rd_range {b : List Int} (hb : Bs.Bytes b) (i : Nat) (h : i < b.length) : 0 ≤ rd b (i : Int) ∧ rd b (i : Int) < 256 := by
 rw [rd_get b i h]; exact hb _ (List.getElem_mem h)
theorem Get_is (b : List Int) (hb : Bs.Bytes b) (hl : b.length < 140737488355328) : Ev (fun k => A0r.f k b) ((getS b).1, (getS b).2.1, (getS b).2.2.1, er (getS b).2.2.2) := by
 have hP := pre_is b
 refine Ev.congr (f := fun k => if pre b = true then _ else _) (fun k => by unfold A0r.f; rw [hP, Option.bind_some]) ?_
 by_cases c0 : pre b = true
 ·simp only [if_pos c0]
  have h4 : 4 ≤ b.length := by
   refine Decidable.byContradiction fun hh => ?_
   unfold pre at c0; rw [if_pos (show b.length < 4 by omega)] at c0; exact absurd c0 (by decide)
  by_cases c1 : b.length < 5
  ·have e : getS b = (0, [], 0, 2) := by unfold getS; rw [if_neg (fun hh => hh c0), if_pos c1]
   rw [e]
   refine Ev.bind (fixed_short b hl 4 1 (by omega) h4 (by omega)) ?_
   simp only [Option.isNone_some, Bool.false_eq_true, if_false, Option.getD_some]
   refine Ev.step (fun k => by rw [A0r.j0, if_neg (show ¬ false = true by decide)]) ?_
   exact get_mid_bad b [] _ _ _ _ _ (list_f_bad b _ _)
  have hF := fixed_ok b hb hl 4 1 (by omega) (by omega)
  have hr := rd_range hb 4 (by omega)
  have hr' : 0 ≤ rd b 4 ∧ rd b 4 < 256 := hr
  have hwv : wrap64 (rd b 4) = rd b 4 := w64 _ (by omega)
  rw [nb1 (by omega)] at hF
  refine Ev.bind hF ?_
  simp only [Option.isNone_none, if_true, hwv]
  by_cases c2 : rd b 4 = 1 ∨ rd b 4 = 2
  ·have hj : ∀ r, Ev (fun k => A0r.j1 k b b ((4 + 1 : Nat) : Int) none (rd b 4)) r → Ev (fun k => if rd b 4 = 1 then A0r.j0 k b false b ((4 + 1 : Nat) : Int) none (rd b 4) else A0r.j0 k b (rd b 4 != 2) b ((4 + 1 : Nat) : Int) none (rd b 4)) r := by
    intro r hr
    have h0 : Ev (fun k => A0r.j0 k b false b ((4 + 1 : Nat) : Int) none (rd b 4)) r := Ev.step (fun k => by rw [A0r.j0, if_neg (show ¬ false = true by decide)]) hr
    by_cases c3 : rd b 4 = 1
    ·simp only [if_pos c3]; exact h0
    ·have hb2 : (rd b 4 != 2) = false := by rcases c2 with h | h; exact absurd h c3; rw [h]; rfl
     simp only [if_neg c3, hb2]; exact h0
   refine hj _ ?_
   have hL := list_is hb hl (show 5 ≤ b.length by omega)
   by_cases c4 : (gl b 5).1 ≠ 0
   ·have e : getS b = (0, [], 0, (gl b 5).1) := by unfold getS; rw [if_neg (fun hh => hh c0), if_neg c1, if_neg (fun hh => hh c2), if_pos c4]
    obtain ⟨l, a, h⟩ := hL.2 c4
    rw [e]
    show Ev _ (0, [], 0, er (gl b 5).1)
    rw [er, if_neg c4]
    exact get_mid_bad b l a _ _ _ _ h
   have e0 : (gl b 5).1 = 0 := Decidable.not_not.mp c4
   have hL1 := hL.1 e0
   obtain ⟨g1, g2, g3, g4⟩ := gl_facts hb (show 5 ≤ b.length by omega) e0
   refine Ev.step (fun k => by rw [A0r.j1]) ?_
   refine Ev.bind hL1 ?_
   by_cases c5 : b.length < (gl b 5).2.2 + 4
   ·have e : getS b = (0, [], 0, 2) := by unfold getS; rw [if_neg (fun hh => hh c0), if_neg c1, if_neg (fun hh => hh c2), if_neg c4, if_pos c5]
    rw [e]
    refine Ev.bind (fixed_short b hl (gl b 5).2.2 4 (by omega) g4 c5) ?_
    simp only [Option.isNone_some, Bool.false_eq_true, if_false, Option.getD_some]
    exact get_tail_bad b b _ _ _ _
   have hF4 := fixed_ok b hb hl (gl b 5).2.2 4 (by omega) (by omega)
   have hC := PCrc.sum_is (b.take (gl b 5).2.2) (by rw [List.length_take]; omega)
   have hcr := crcN_range (b.take (gl b 5).2.2)
   have hwc : IntKind.u64.wrap (crcN (b.take (gl b 5).2.2)) = crcN (b.take (gl b 5).2.2) := by rw [Ib.wrap_u64]; omega
   refine Ev.bind hF4 ?_
   simp only [Option.isNone_none, if_true, if_pos (Int.natCast_nonneg (gl b 5).2.2), if_pos (show ((gl b 5).2.2 : Int) ≤ (b.length : Int) by omega), Int.toNat_natCast]
   refine Ev.bind hC ?_
   show Ev (fun k => A0r.j2 k b (gl b 5).2.1 (nb ((b.drop (gl b 5).2.2).take 4) != IntKind.u64.wrap (crcN (b.take (gl b 5).2.2))) b (((gl b 5).2.2 + 4 : Nat) : Int) none (rd b 4)) _
   rw [hwc]
   by_cases c6 : nb ((b.drop (gl b 5).2.2).take 4) ≠ crcN (b.take (gl b 5).2.2)
   ·have e : getS b = (0, [], 0, 7) := by unfold getS; rw [if_neg (fun hh => hh c0), if_neg c1, if_neg (fun hh => hh c2), if_neg c4, if_neg c5, if_pos c6]
    have hne : (nb ((b.drop (gl b 5).2.2).take 4) != crcN (b.take (gl b 5).2.2)) = true := bne_iff_ne.mpr c6
    rw [e, hne]
    refine Ev.step (fun k => by rw [A0r.j2, if_pos rfl]) ?_
    refine Ev.step (fun k => by rw [A0r.j3, if_neg (show ¬ (some (7 : Int)).isNone = true by simp)]) ?_
    exact Ev.now _
   have hq : (nb ((b.drop (gl b 5).2.2).take 4) != crcN (b.take (gl b 5).2.2)) = false := by rw [Decidable.not_not.mp c6]; exact bne_self_eq_false _
   have hwl : wrap64 ((b.length : Int) - (((gl b 5).2.2 + 4 : Nat) : Int)) = ((b.length - (gl b 5).2.2 - 4 : Nat) : Int) := by rw [w64 _ (by omega)]; omega
   have hG := get_l0 b (rd b 4) (((gl b 5).2.2 + 4 : Nat) : Int) (gl b 5).2.1 g1 g2 (gl b 5).2.1.length 0 [] ((b.length - (gl b 5).2.2 - 4 : Nat) : Int) (by omega) rfl (by omega) (by omega)
   rw [List.drop_zero, List.nil_append] at hG
   rw [hq]
   refine Ev.step (fun k => by rw [A0r.j2, if_neg (show ¬ false = true by decide)]) ?_
   refine Ev.step (fun k => by rw [A0r.j3, if_pos (show (none : Option Int).isNone = true from rfl), hwl]) ?_
   by_cases c7 : (fit (gl b 5).2.1 ((b.length - (gl b 5).2.2 - 4 : Nat) : Int) && M (rd b 4) ((gl b 5).2.1.map ent)) = true
   ·have e : getS b = (rd b 4, (gl b 5).2.1.map ent, (((gl b 5).2.2 + 4 : Nat) : Int), 0) := by unfold getS; rw [if_neg (fun hh => hh c0), if_neg c1, if_neg (fun hh => hh c2), if_neg c4, if_neg c5, if_neg c6, if_pos c7]
    rw [if_pos c7] at hG
    rw [e]
    exact hG
   ·have e : getS b = (0, [], 0, 8) := by unfold getS; rw [if_neg (fun hh => hh c0), if_neg c1, if_neg (fun hh => hh c2), if_neg c4, if_neg c5, if_neg c6, if_neg c7]
    rw [if_neg c7] at hG
    rw [e]
    exact hG
  ·have e : getS b = (0, [], 0, 6) := by unfold getS; rw [if_neg (fun hh => hh c0), if_neg c1, if_pos c2]
   have hne : (rd b 4 != 2) = true := bne_iff_ne.mpr (fun h => c2 (.inr h))
   rw [e]
   simp only [if_neg (fun h => c2 (.inl h) : ¬ rd b 4 = 1), hne]
   refine Ev.step (fun k => by rw [A0r.j0, if_pos rfl]) ?_
   exact get_mid_bad b [] _ _ _ _ _ (list_f_bad b _ _)
 ·have e : getS b = (0, [], 0, 5) := by unfold getS; rw [if_pos c0]
  rw [e]
  simp only [if_neg c0]
  exact Ev.now _
end Go.Proofs.YtodocfjbpkicgaaDoor.PIdx
end
