/- Layer 3's Get reads back what its Put has written, wherever it stands, finds it short when cut, and takes no other bytes for it; no condition beside the statement's own bounds of 1000 bytes. -/
import Derived.Test.YthlieaggokdppaaAllx19
import Derived.Test.YthlieaggokdppaaPUvar
namespace Go.Proofs.Ythlieaggokdppaa.Pure
open Go Go.RowKit Go.Proofs.Ythlieaggokdppaa Go.Proofs.Ythlieaggokdppaa.All Go.Proofs.YthlieaggokdppaaW.PrintWords Go.Proofs.YthlieaggokdppaaW.PrintLast
open PUvar
set_option linter.unusedVariables false
set_option linter.unusedSimpArgs false

theorem rd_succ (c : Int) (t : List Int) (n : Nat) : rd (c :: t) ((n + 1 : Nat) : Int) = rd t (n : Int) := by simp [rd]
theorem rd_zero (c : Int) (t : List Int) : rd (c :: t) ((0 : Nat) : Int) = c := by simp [rd]
theorem rd_left (L M : List Int) (n : Nat) (h : n < L.length) : rd (L ++ M) (n : Int) = rd L (n : Int) := by
  simp [rd, List.getD_eq_getElem?_getD, List.getElem?_append_left h]
theorem rd_take (L : List Int) (n m : Nat) (h : n < m) : rd (L.take m) (n : Int) = rd L (n : Int) := by
  simp [rd, List.getD_eq_getElem?_getD, h]
theorem val_cons (c : Int) (t : List Int) : ∀ n, val (c :: t) (n + 1) = c % 128 + 128 * val t n := by
  intro n
  induction n with
  | zero => simp only [val]; rw [rd_zero]; simp
  | succ n ih =>
    rw [val, ih, rd_succ, val, Int.pow_succ, Int.mul_add, ← Int.mul_assoc, Int.mul_comm _ 128, Int.add_assoc]
theorem val_left (L M : List Int) : ∀ n, n ≤ L.length → val (L ++ M) n = val L n := by
  intro n
  induction n with
  | zero => intro _; rfl
  | succ n ih => intro h; simp only [val]; rw [ih (by omega), rd_left L M n (by omega)]
theorem top_one {ys : List Int} {n m : Nat} (hn : Top ys n) (hm : Top ys m) : n = m := by
  have a : ∀ {n m : Nat}, Top ys n → Top ys m → n ≤ m := by
    intro n m hn hm
    refine Decidable.byContradiction fun h => ?_
    have h1 := hn.big m (by omega)
    have h2 := hm.stop
    have h3 := hn.ten
    have h4 := hn.len
    omega
  exact Nat.le_antisymm (a hn hm) (a hm hn)
theorem gspec_of {ys : List Int} {n : Nat} (h : Top ys n) : gspec ys (Classical.choose (top ys)) = gspec ys n := by
  rw [top_one (Classical.choose_spec (top ys)) h]
theorem uvd_is : ∀ (f : Nat) (v : Int), 0 ≤ v → v < 128 ^ (f + 1) → ∃ n, n ≤ f ∧ (uvd f v).length = n + 1 ∧ (∀ j, j < n → 128 ≤ rd (uvd f v) (j : Int)) ∧ rd (uvd f v) (n : Int) < 128 ∧ (0 < n → rd (uvd f v) (n : Int) ≠ 0) ∧ val (uvd f v) (n + 1) = v ∧ Bs.Bytes (uvd f v) := by
  intro f
  induction f with
  | zero =>
    intro v h0 hv
    have h1 : v < 128 := hv
    refine ⟨0, Nat.le_refl _, rfl, fun j hj => absurd hj (by omega), ?_, fun h => absurd h (by omega), ?_, ?_⟩
    · simp only [uvd]; rw [rd_zero]; exact h1
    · simp only [uvd]; rw [val_cons]; simp only [val]; omega
    · exact Bs.Bytes.cons (by omega) Bs.Bytes.nil
  | succ f ih =>
    intro v h0 hv
    by_cases c : v ≥ 128
    · have hd : v / 128 < 128 ^ (f + 1) := Int.ediv_lt_of_lt_mul (by decide) (by rw [← Int.pow_succ]; exact hv)
      obtain ⟨n, h1, h2, h3, h4, h5, h6, h7⟩ := ih (v / 128) (by omega) hd
      simp only [uvd, if_pos c]
      refine ⟨n + 1, by omega, by rw [List.length_cons, h2], ?_, ?_, ?_, ?_, ?_⟩
      · intro j hj
        cases j with
        | zero => rw [rd_zero]; omega
        | succ j => rw [rd_succ]; exact h3 j (by omega)
      · rw [rd_succ]; exact h4
      · intro _
        rw [rd_succ]
        by_cases e : 0 < n
        · exact h5 e
        · obtain rfl : n = 0 := by omega
          intro hz
          simp only [val] at h6
          rw [hz] at h6
          simp at h6
          omega
      · rw [val_cons, h6]; omega
      · exact Bs.Bytes.cons (by omega) h7
    · simp only [uvd, if_neg c]
      refine ⟨0, Nat.zero_le _, rfl, fun j hj => absurd hj (by omega), ?_, fun h => absurd h (by omega), ?_, ?_⟩
      · rw [rd_zero]; omega
      · rw [val_cons]; simp only [val]; omega
      · exact Bs.Bytes.cons (by omega) Bs.Bytes.nil
theorem uv_is (v : Int) (hv : 0 ≤ v ∧ v < 18446744073709551616) : ∃ n, n ≤ 9 ∧ (uv v).length = n + 1 ∧ (∀ j, j < n → 128 ≤ rd (uv v) (j : Int)) ∧ rd (uv v) (n : Int) < 128 ∧ (0 < n → rd (uv v) (n : Int) ≠ 0) ∧ val (uv v) (n + 1) = v ∧ Bs.Bytes (uv v) :=
  uvd_is 9 v hv.1 (by rw [show (128 : Int) ^ (9 + 1) = 1180591620717411303424 from by decide]; omega)
/-- Get, on what Put has written. -/
theorem get_back (v : Int) (hv : 0 ≤ v ∧ v < 18446744073709551616) (post : List Int) : gspec (uv v ++ post) (Classical.choose (top (uv v ++ post))) = (v, ((uv v).length : Int), 0) := by
  obtain ⟨n, h1, h2, h3, h4, h5, h6, h7⟩ := uv_is v hv
  generalize uv v = L at h2 h3 h4 h5 h6 h7
  have hn : n < L.length := by omega
  have hr : rd (L ++ post) (n : Int) = rd L (n : Int) := rd_left L post n hn
  have hll : (L ++ post).length = L.length + post.length := List.length_append
  have hT : Top (L ++ post) n := ⟨by omega, by omega, fun j hj => by rw [rd_left L post j (by omega)]; exact h3 j hj, .inr (.inr (by rw [hr]; exact h4))⟩
  rw [gspec_of hT, gspec, if_neg (by omega), if_neg, if_neg, val_left L post (n + 1) (by omega), h6, h2]
  · rintro ⟨h, h'⟩
    rw [hr] at h'
    exact h5 h h'
  · rintro (h | ⟨h, h'⟩)
    · omega
    · subst h
      have e : rd (L ++ post) ((9 : Nat) : Int) = rd (L ++ post) 9 := rfl
      rw [← e, hr] at h'
      simp only [val] at h6
      have hp := (val_range h7 9).1
      simp only [val] at hp
      rw [show (128 : Int) ^ 9 = 9223372036854775808 from by decide] at h6
      omega
/-- Get, on a part of what Put has written. -/
theorem get_short (v : Int) (hv : 0 ≤ v ∧ v < 18446744073709551616) (m : Nat) (hm : m < (uv v).length) : gspec ((uv v).take m) (Classical.choose (top ((uv v).take m))) = (0, 0, 2) := by
  obtain ⟨n, h1, h2, h3, h4, h5, h6, h7⟩ := uv_is v hv
  have hl : ((uv v).take m).length = m := by rw [List.length_take]; omega
  have hT : Top ((uv v).take m) m := ⟨by omega, by omega, fun j hj => by rw [rd_take _ j m hj]; exact h3 j (by omega), .inr (.inl hl.symm)⟩
  rw [gspec_of hT, gspec, if_pos ⟨hl.symm, by omega⟩]
/-- What Get takes is what Put writes. -/
theorem canon : ∀ (n f : Nat) (ys : List Int), n ≤ f → Bs.Bytes ys → n < ys.length → (∀ j, j < n → 128 ≤ rd ys (j : Int)) → rd ys (n : Int) < 128 → (0 < n → rd ys (n : Int) ≠ 0) → uvd f (val ys (n + 1)) = ys.take (n + 1) := by
  intro n
  induction n with
  | zero =>
    intro f ys hf hy hl hb hs hz
    obtain ⟨c, t, rfl⟩ : ∃ c t, ys = c :: t := by cases ys with
      | nil => simp at hl
      | cons c t => exact ⟨c, t, rfl⟩
    have hc := hy c (List.mem_cons_self ..)
    rw [rd_zero] at hs
    rw [val_cons]
    simp only [val]
    rw [show c % 128 + 128 * 0 = c from by omega]
    cases f with
    | zero => rfl
    | succ f => simp only [uvd]; rw [if_neg (by omega)]; rfl
  | succ n ih =>
    intro f ys hf hy hl hb hs hz
    obtain ⟨c, t, rfl⟩ : ∃ c t, ys = c :: t := by cases ys with
      | nil => simp at hl
      | cons c t => exact ⟨c, t, rfl⟩
    have hc := hy c (List.mem_cons_self ..)
    have hyt : Bs.Bytes t := fun x hx => hy x (List.mem_cons_of_mem _ hx)
    have hb0 := hb 0 (by omega)
    rw [rd_zero] at hb0
    rw [rd_succ] at hs hz
    have hz' := hz (by omega)
    have hr := rd_byte hyt n
    have hv := val_range hyt n
    have hp := PUvar.pow_pos n
    obtain ⟨f, rfl⟩ : ∃ g, f = g + 1 := ⟨f - 1, by omega⟩
    have hih := ih f t (by omega) hyt (by simp only [List.length_cons] at hl; omega) (fun j hj => by have := hb (j + 1) (by omega); rwa [rd_succ] at this) hs (fun _ => hz')
    have h1 : 1 ≤ val t (n + 1) := by
      simp only [val]
      have := Int.mul_le_mul_of_nonneg_right (show 1 ≤ rd t (n : Int) % 128 by omega) (Int.le_of_lt hp)
      omega
    rw [val_cons]
    generalize val t (n + 1) = w at h1 hih
    simp only [uvd]
    rw [if_pos (by omega), show (c % 128 + 128 * w) % 128 + 128 = c from by omega, show (c % 128 + 128 * w) / 128 = w from by omega, hih]
    rfl
theorem get_canon (ys : List Int) (hy : Bs.Bytes ys) (h : (gspec ys (Classical.choose (top ys))).2.2 = 0) :
    0 ≤ (gspec ys (Classical.choose (top ys))).1 ∧ (gspec ys (Classical.choose (top ys))).1 < 18446744073709551616 ∧ 0 ≤ (gspec ys (Classical.choose (top ys))).2.1 ∧ (gspec ys (Classical.choose (top ys))).2.1 ≤ (ys.length : Int) ∧ uv (gspec ys (Classical.choose (top ys))).1 = ys.take (gspec ys (Classical.choose (top ys))).2.1.toNat := by
  have hT := Classical.choose_spec (top ys)
  generalize Classical.choose (top ys) = n at hT h
  have h1 := hT.ten
  have h2 := hT.len
  have h3 := hT.stop
  unfold gspec at h ⊢
  by_cases c1 : n = ys.length ∧ n < 10
  · rw [if_pos c1] at h; simp at h
  by_cases c2 : n = 10 ∨ (n = 9 ∧ rd ys 9 > 1)
  · rw [if_neg c1, if_pos c2] at h; simp at h
  by_cases c3 : 0 < n ∧ rd ys (n : Int) = 0
  · rw [if_neg c1, if_neg c2, if_pos c3] at h; simp at h
  rw [if_neg c1, if_neg c2, if_neg c3]
  have hr := val_range hy (n + 1)
  have hs := val_small hy n (by omega) (fun e => by omega)
  refine ⟨hr.1, hs, Int.natCast_nonneg _, by simp only; omega, ?_⟩
  simp only [Int.toNat_natCast]
  exact canon n 9 ys (by omega) hy (by omega) hT.big (by omega) (fun h0 hz => c3 ⟨h0, hz⟩)
theorem pick_is (a : Int) (b : Int) (hb : 0 < b ∧ b < 1000) : ∃ t, gaiterlaw00_Pick.f a b = some t ∧ 0 ≤ t ∧ t < b := by
  have hr : -b < Int.tmod a b ∧ Int.tmod a b < b := by
    by_cases h : 0 ≤ a
    · rw [Int.tmod_eq_emod_of_nonneg h]
      have h1 := Int.emod_nonneg a (show b ≠ 0 by omega)
      have h2 := Int.emod_lt_of_pos a hb.1
      omega
    · have e : Int.tmod a b = -(Int.tmod (-a) b) := by rw [Int.neg_tmod, Int.neg_neg]
      rw [e, Int.tmod_eq_emod_of_nonneg (show 0 ≤ -a by omega)]
      have h1 := Int.emod_nonneg (-a) (show b ≠ 0 by omega)
      have h2 := Int.emod_lt_of_pos (-a) hb.1
      omega
  unfold gaiterlaw00_Pick.f
  rw [if_neg (by omega)]
  generalize Int.tmod a b = q at hr
  by_cases h : q < 0
  · rw [if_pos h]
    exact ⟨_, rfl, by rw [w64 _ (by omega)]; omega, by rw [w64 _ (by omega)]; omega⟩
  · rw [if_neg h]
    exact ⟨_, rfl, by omega, by omega⟩
theorem UvarBack_up : Ev (fun k => gaiterlaw03_up.f k) true :=
  Ev.of gaiterlaw03_up.mono (k := 40) (by decide +kernel)
theorem UvarBack_j2 (pre : List Int) (hp : Bs.Bytes pre) (lp : pre.length ≤ 1000) : Ev (fun k => gaiterlaw03_UvarBack.j2 k pre true false) true := by
  have hl : pre.length < 140737488355328 := by omega
  have hno : ¬ ((0 : Int) < 0 ∨ (0 : Int) > (pre.length : Int)) := by omega
  have hg := Get_is pre hp hl 0
  rw [if_neg hno, show (0 : Int).toNat = 0 from rfl, List.drop_zero] at hg
  have hc := get_canon pre hp
  generalize gspec pre (Classical.choose (top pre)) = g at hg hc
  obtain ⟨x, y, e⟩ := g
  simp only [gimp] at hg hc
  refine Ev.step (fun k => by rw [gaiterlaw03_UvarBack.j2]) ?_
  simp only [Bool.false_eq_true, if_false]
  refine Ev.bind hg ?_
  simp only [if_true]
  by_cases c : e = 0
  · obtain ⟨h1, h2, h3, h4, h5⟩ := hc c
    subst c
    simp only [er, if_true, Option.isNone_none, if_pos h4]
    refine Ev.bind (Put_is x ⟨h1, h2⟩) ?_
    simp only [if_pos h3, h5, beq_self_eq_true]
    exact Ev.now _
  · simp only [er, if_neg c, Option.isNone_some, Bool.false_eq_true, if_false]
    exact Ev.now _
theorem UvarBack_j0 (v : Int) (hv : 0 ≤ v ∧ v < 18446744073709551616) (pre post : List Int) (hp : Bs.Bytes pre) (hq : Bs.Bytes post) (lp : pre.length ≤ 1000) (lq : post.length ≤ 1000) (i : Int) :
    Ev (fun k => gaiterlaw03_UvarBack.j0 k v pre post i true false) true := by
  obtain ⟨n, h1, h2, h3, h4, h5, h6, h7⟩ := uv_is v hv
  have c0 : ¬ ((uv v).length : Int) = 0 := by omega
  have c1 : ¬ ((uv v).length : Int) > 10 := by omega
  have g1 : pre.length < 140737488355328 := by omega
  have g2 : pre.length + (uv v).length < 140737488355328 := by omega
  have g3 : (pre ++ uv v).length + post.length < 140737488355328 := by rw [List.length_append]; omega
  have g4 : (pre ++ uv v ++ post).length < 140737488355328 := by rw [List.length_append]; exact g3
  have hB : Bs.Bytes (pre ++ uv v ++ post) := (hp.append h7).append hq
  have hn1 : ¬ ((pre.length : Int) < 0 ∨ (pre.length : Int) > ((pre ++ uv v ++ post).length : Int)) := by rw [List.length_append, List.length_append]; omega
  have hg := Get_is (pre ++ uv v ++ post) hB g4 (pre.length : Int)
  rw [if_neg hn1, Int.toNat_natCast, List.append_assoc, List.drop_left, get_back v hv post] at hg
  obtain ⟨t, ht, ht0, ht1⟩ := pick_is i ((uv v).length : Int) (by omega)
  have ht2 : t ≤ ((uv v).length : Int) := by omega
  have htm : t.toNat < (uv v).length := by omega
  have lt : ((uv v).take t.toNat).length < 140737488355328 := by rw [List.length_take]; omega
  have hn2 : ¬ ((0 : Int) < 0 ∨ (0 : Int) > (((uv v).take t.toNat).length : Int)) := by omega
  have hg2 := Get_is ((uv v).take t.toNat) (h7.take _) lt 0
  rw [if_neg hn2, show (0 : Int).toNat = 0 from rfl, List.drop_zero, get_short v hv t.toNat htm] at hg2
  refine Ev.step (fun k => by rw [gaiterlaw03_UvarBack.j0]) ?_
  simp only [Bool.false_eq_true, if_false]
  refine Ev.bind (Put_is v hv) ?_
  simp only [if_neg c0, decide_eq_false c1]
  refine Ev.step (fun k => by rw [gaiterlaw03_UvarBack.j1]) ?_
  have g3' : pre.length + (uv v).length + post.length < 140737488355328 := by omega
  simp only [Bool.false_eq_true, if_false, Option.bind_some, List.length_nil, Nat.zero_add, if_pos g1, List.nil_append, if_pos g2, List.length_append, if_pos g3', List.append_assoc]
  refine Ev.bind hg ?_
  simp only [ht, Option.bind_some, if_pos ht0, if_pos ht2]
  refine Ev.bind hg2 ?_
  simp only [gimp, er, if_true, Option.isNone_none, gaiterlaw00_Code.f, Option.bind_some]
  rw [show (codeNo (if (2 : Int) = 0 then none else some 2) != 2) = false from by decide]
  exact UvarBack_j2 pre hp lp
theorem UvarBack : gaiterlaw03_UvarBack.Pure := by
  intro v pre post i hv _ _ hp _ _ hq _
  refine Ev.rounds (g := fun k => gaiterlaw03_UvarBack.f k v pre post i) ?_
  unfold gaiterlaw03_UvarBack.f
  refine Ev.bind UvarBack_up ?_
  by_cases c1 : (pre.length : Int) > 1000
  · simp only [if_pos c1]
    exact Ev.step (fun k => by rw [gaiterlaw03_UvarBack.j0]) (by simp only [if_true]; exact Ev.now _)
  by_cases c2 : (post.length : Int) > 1000
  · simp only [if_neg c1, decide_eq_true c2]
    exact Ev.step (fun k => by rw [gaiterlaw03_UvarBack.j0]) (by simp only [if_true]; exact Ev.now _)
  simp only [if_neg c1, decide_eq_false c2]
  exact UvarBack_j0 v (Ib.wf_u64 hv) pre post (fun z hz => Ib.wf_u8 (hp z hz)) (fun z hz => Ib.wf_u8 (hq z hz)) (by omega) (by omega) i

end Go.Proofs.Ythlieaggokdppaa.Pure
