/- What layer 3's Put and Get and the document's come to, in plain words. -/
import Derived.Test.YthlieaggokdppaaAllx12
import Derived.Test.YthlieaggokdppaaAllx13
import Derived.Test.YthlieaggokdppaaAllx15
import Derived.Test.YthlieaggokdppaaAllx16
import Derived.Test.YthlieaggokdppaaIb
import Derived.Test.YthlieaggokdppaaBs
namespace Go.Proofs.Ythlieaggokdppaa.PUvar
open Go Go.RowKit Go.Proofs.Ythlieaggokdppaa Go.Proofs.Ythlieaggokdppaa.All Go.Proofs.YthlieaggokdppaaW.PrintWords Go.Proofs.YthlieaggokdppaaW.PrintLast
set_option linter.unusedVariables false
set_option linter.unusedSimpArgs false

theorem w64 (n : Int) (h : -9223372036854775808 ≤ n ∧ n < 9223372036854775808) : wrap64 n = n := by unfold wrap64; omega
theorem wr_succ (i : Nat) (h : i < 140737488355328) : wrap64 ((i : Int) + 1) = ((i + 1 : Nat) : Int) := by rw [w64 _ (by omega)]; omega
theorem pow_pos (n : Nat) : (0 : Int) < 128 ^ n := Int.pow_pos (by decide)
theorem pow_le {i n : Nat} (h : i ≤ n) : (128 : Int) ^ i ≤ 128 ^ n := by
  rw [show n = i + (n - i) from by omega, Int.pow_add]
  have h1 := pow_pos i; have h2 := pow_pos (n - i)
  have := Int.mul_le_mul_of_nonneg_left (show (1 : Int) ≤ 128 ^ (n - i) by omega) (Int.le_of_lt h1)
  omega
theorem pow_9 {n : Nat} (h : n ≤ 9) : (128 : Int) ^ n ≤ 9223372036854775808 := by
  have := pow_le h
  rwa [show (128 : Int) ^ 9 = 9223372036854775808 from by decide] at this

/-! Put -/
def uvd : Nat → Int → List Int
  | 0, v => [v]
  | f + 1, v => if v ≥ 128 then (v % 128 + 128) :: uvd f (v / 128) else [v]
/-- A number's bytes, the lowest seven bits first. -/
def uv (v : Int) : List Int := uvd 9 v
theorem or_128 (c : Int) (hc : 0 ≤ c ∧ c < 256) : Go.bits .or .u8 c 128 = c % 128 + 128 := by
  have h : ∀ c : Fin 256, Go.bits .or .u8 ((c.val : Nat) : Int) 128 = ((c.val : Nat) : Int) % 128 + 128 := by decide +kernel
  have := h ⟨c.toNat, by omega⟩
  rw [show ((c.toNat : Nat) : Int) = c from by omega] at this
  exact this
theorem and_127 (c : Int) (hc : 0 ≤ c ∧ c < 256) : Go.bits .and .u8 c 127 = c % 128 := by
  have h : ∀ c : Fin 256, Go.bits .and .u8 ((c.val : Nat) : Int) 127 = ((c.val : Nat) : Int) % 128 := by decide +kernel
  have := h ⟨c.toNat, by omega⟩
  rw [show ((c.toNat : Nat) : Int) = c from by omega] at this
  exact this
theorem Put_l0 : ∀ (f : Nat) (v : Int) (acc : List Int), 0 ≤ v → v < 128 ^ (f + 1) → acc.length + f < 140737488355328 → Ev (fun k => uvar_Put.l0 k v acc) (acc ++ uvd f v) := by
  intro f
  induction f with
  | zero =>
    intro v acc h0 hv hl
    have h1 : v < 128 := hv
    have hno : ¬ v ≥ 128 := by omega
    have hl' : acc.length < 140737488355328 := by omega
    refine Ev.step (fun k => by rw [uvar_Put.l0]) ?_
    simp only [if_neg hno, if_pos hl', show v % 256 = v from by omega]
    exact Ev.now _
  | succ f ih =>
    intro v acc h0 hv hl
    have hl' : acc.length < 140737488355328 := by omega
    refine Ev.step (fun k => by rw [uvar_Put.l0]) ?_
    by_cases c : v ≥ 128
    · have hd : v / 128 < 128 ^ (f + 1) := Int.ediv_lt_of_lt_mul (by decide) (by rw [← Int.pow_succ]; exact hv)
      have := ih (v / 128) (acc ++ [v % 128 + 128]) (by omega) hd (by rw [List.length_append, List.length_singleton]; omega)
      simp only [if_pos c, if_pos hl']
      rw [or_128 _ (by omega), show v % 256 % 128 = v % 128 from by omega]
      rw [List.append_assoc] at this
      simp only [uvd, if_pos c]
      exact this
    · simp only [if_neg c, if_pos hl', uvd, show v % 256 = v from by omega]
      exact Ev.now _
theorem Put_is (v : Int) (hv : 0 ≤ v ∧ v < 18446744073709551616) : Ev (fun k => uvar_Put.f k v) (uv v) := by
  have h : v < 128 ^ (9 + 1) := by rw [show (128 : Int) ^ (9 + 1) = 1180591620717411303424 from by decide]; omega
  exact Put_l0 9 v [] hv.1 h (by simp)
theorem RPut_l0 : ∀ (f : Nat) (v : Int) (acc : List Int), 0 ≤ v ∧ v < 18446744073709551616 → v < 128 ^ (f + 1) → acc.length + f < 140737488355328 → Ev (fun k => gaiterref01_Uvar.l0 k v acc) (acc ++ uvd f v) := by
  intro f
  induction f with
  | zero =>
    intro v acc h0 hv hl
    have h1 : v < 128 := hv
    have hno : ¬ v > 127 := by omega
    have hl' : acc.length < 140737488355328 := by omega
    refine Ev.step (fun k => by rw [gaiterref01_Uvar.l0]) ?_
    simp only [if_neg hno, if_pos hl', show v % 256 = v from by omega]
    exact Ev.now _
  | succ f ih =>
    intro v acc h0 hv hl
    have hl' : acc.length < 140737488355328 := by omega
    refine Ev.step (fun k => by rw [gaiterref01_Uvar.l0]) ?_
    by_cases c : v ≥ 128
    · have c' : v > 127 := by omega
      have hd : v / 128 < 128 ^ (f + 1) := Int.ediv_lt_of_lt_mul (by decide) (by rw [← Int.pow_succ]; exact hv)
      have := ih (v / 128) (acc ++ [v % 128 + 128]) (by omega) hd (by rw [List.length_append, List.length_singleton]; omega)
      simp only [if_pos c', if_pos hl']
      rw [Int.tdiv_eq_ediv_of_nonneg h0.1, Int.tmod_eq_emod_of_nonneg h0.1, Ib.wrap_u64, show v / 128 % 18446744073709551616 = v / 128 from by omega, show (v % 128 + 128) % 256 = v % 128 + 128 from by omega]
      rw [List.append_assoc] at this
      simp only [uvd, if_pos c]
      exact this
    · have c' : ¬ v > 127 := by omega
      simp only [if_neg c', if_pos hl', uvd, if_neg c, show v % 256 = v from by omega]
      exact Ev.now _
theorem RPut_is (v : Int) (hv : 0 ≤ v ∧ v < 18446744073709551616) : Ev (fun k => gaiterref01_Uvar.f k v) (uv v) := by
  have h : v < 128 ^ (9 + 1) := by rw [show (128 : Int) ^ (9 + 1) = 1180591620717411303424 from by decide]; omega
  exact RPut_l0 9 v [] hv h (by simp)

/-! Get -/
def val (ys : List Int) : Nat → Int
  | 0 => 0
  | n + 1 => val ys n + rd ys (n : Int) % 128 * 128 ^ n
structure Top (ys : List Int) (n : Nat) : Prop where
  ten : n ≤ 10
  len : n ≤ ys.length
  big : ∀ j, j < n → 128 ≤ rd ys (j : Int)
  stop : n = 10 ∨ n = ys.length ∨ rd ys (n : Int) < 128
theorem top_is (ys : List Int) : ∀ (d i : Nat), i + d = 10 → i ≤ ys.length → (∀ j, j < i → 128 ≤ rd ys (j : Int)) → ∃ n, Top ys n := by
  intro d
  induction d with
  | zero => intro i hi hl h; exact ⟨i, by omega, hl, h, .inl (by omega)⟩
  | succ d ih =>
    intro i hi hl h
    by_cases c : i = ys.length
    · exact ⟨i, by omega, hl, h, .inr (.inl c)⟩
    by_cases c2 : rd ys (i : Int) < 128
    · exact ⟨i, by omega, hl, h, .inr (.inr c2)⟩
    · refine ih (i + 1) (by omega) (by omega) (fun j hj => ?_)
      by_cases e : j = i
      · rw [e]; omega
      · exact h j (by omega)
theorem top (ys : List Int) : ∃ n, Top ys n := top_is ys 10 0 (by omega) (by omega) (fun j hj => by omega)
theorem rd_byte {ys : List Int} (hy : Bs.Bytes ys) (i : Nat) : 0 ≤ rd ys (i : Int) ∧ rd ys (i : Int) < 256 := by
  unfold rd
  rw [Int.toNat_natCast, List.getD_eq_getElem?_getD]
  by_cases h : i < ys.length
  · rw [List.getElem?_eq_getElem h]; exact hy _ (List.getElem_mem h)
  · rw [List.getElem?_eq_none (by omega)]; decide
theorem val_range {ys : List Int} (hy : Bs.Bytes ys) : ∀ n, 0 ≤ val ys n ∧ val ys n < 128 ^ n := by
  intro n
  induction n with
  | zero => exact ⟨by simp [val], by simp [val]⟩
  | succ n ih =>
    have hc := rd_byte hy n
    have hp := pow_pos n
    have h1 : 0 ≤ rd ys (n : Int) % 128 ∧ rd ys (n : Int) % 128 ≤ 127 := by omega
    have h2 := Int.mul_nonneg h1.1 (Int.le_of_lt hp)
    have h3 := Int.mul_le_mul_of_nonneg_right h1.2 (Int.le_of_lt hp)
    simp only [val]
    rw [Int.pow_succ]
    omega
theorem step_is (v c : Int) (i : Nat) (hi : i ≤ 9) (hv : 0 ≤ v ∧ v < 128 ^ i) (hc : 0 ≤ c ∧ c < 256) (h9 : i = 9 → c ≤ 1) :
    Go.bits .or .u64 v (shl .u64 (IntKind.u64.wrap (Go.bits .and .u8 c 127)) (wrap64 (7 * (i : Int)))) = v + c % 128 * 128 ^ i := by
  have hp := pow_pos i
  have h9' := pow_9 hi
  have h1 : 0 ≤ c % 128 ∧ c % 128 ≤ 127 := by omega
  have h2 := Int.mul_nonneg h1.1 (Int.le_of_lt hp)
  have h3 : c % 128 * 128 ^ i ≤ 9223372036854775808 := by
    by_cases e : i = 9
    · have h4 := Int.mul_le_mul_of_nonneg_right (show c % 128 ≤ 1 by have := h9 e; omega) (Int.le_of_lt hp)
      omega
    · have h4 := Int.mul_le_mul_of_nonneg_right h1.2 (Int.le_of_lt hp)
      have h5 := pow_le (show i ≤ 8 by omega)
      rw [show (128 : Int) ^ 8 = 72057594037927936 from by decide] at h5
      omega
  rw [and_127 c hc, Ib.wrap_u64, show c % 128 % 18446744073709551616 = c % 128 from by omega, w64 _ (by omega)]
  have h6 : shl .u64 (c % 128) (7 * (i : Int)) = c % 128 * 128 ^ i := by
    unfold shl
    rw [show (7 * (i : Int)).toNat = 7 * i from by omega, show IntKind.u64.bits = 64 from rfl, Nat.min_eq_left (by omega), Int.pow_mul, show (2 : Int) ^ 7 = 128 from by decide, Ib.wrap_u64]
    exact Int.emod_eq_of_lt h2 (by omega)
  rw [h6, Ib.or_u64 _ _ (by omega) (by omega)]
  obtain ⟨a, ha⟩ := Int.eq_ofNat_of_zero_le h1.1
  obtain ⟨b, rfl⟩ := Int.eq_ofNat_of_zero_le hv.1
  rw [ha]
  have h7 : ((a : Int) * 128 ^ i) = ((2 ^ (7 * i) * a : Nat) : Int) := by
    push_cast
    rw [Int.pow_mul, show (2 : Int) ^ 7 = 128 from by decide, Int.mul_comm]
  have h8 : b < 2 ^ (7 * i) := by
    have := hv.2
    rw [show (128 : Int) ^ i = ((2 ^ (7 * i) : Nat) : Int) from by push_cast; rw [Int.pow_mul]; rfl] at this
    exact Int.ofNat_lt.1 this
  rw [h7, Int.toNat_natCast, Int.toNat_natCast, Nat.or_comm, ← Nat.two_pow_add_eq_or_of_lt h8]
  push_cast
  omega

/-- What Get answers on the bytes from the place on: number, bytes read, an error's number. -/
def gspec (ys : List Int) (n : Nat) : Int × Int × Int :=
  if n = ys.length ∧ n < 10 then (0, 0, 2)
  else if n = 10 ∨ (n = 9 ∧ rd ys 9 > 1) then (0, 0, 3)
  else if 0 < n ∧ rd ys (n : Int) = 0 then (0, 0, 3)
  else (val ys (n + 1), ((n + 1 : Nat) : Int), 0)
def er (c : Int) : Option Int := if c = 0 then none else some c
def gimp (g : Int × Int × Int) : Int × Int × Option Int := (g.1, g.2.1, er g.2.2)

theorem Get_l0 (ys : List Int) (hy : Bs.Bytes ys) (hl : ys.length < 140737488355328) (n : Nat) (hT : Top ys n) : ∀ (d i : Nat), i + d = n → i ≤ 9 →
    Ev (fun k => uvar_Get.l0 k (val ys i) ys (ys.length : Int) (i : Int)) (gimp (gspec ys n)) := by
  intro d
  induction d with
  | zero =>
    intro i hi h9
    obtain rfl : i = n := by omega
    have hc := rd_byte hy i
    have hv := val_range hy i
    have hst := hT.stop
    have hln := hT.len
    by_cases c1 : i = ys.length
    · have hno : ¬ ((i : Int) < (ys.length : Int)) := by omega
      refine Ev.step (fun k => by rw [uvar_Get.l0]) ?_
      simp only [if_neg hno]
      rw [gspec, if_pos ⟨c1, by omega⟩]
      exact Ev.now _
    have hin : (i : Int) < (ys.length : Int) := by omega
    have hsm : rd ys (i : Int) < 128 := by omega
    have h7 : 0 ≤ wrap64 (7 * (i : Int)) := by rw [w64 _ (by omega)]; omega
    have hws := wr_succ i (by omega)
    have key : (i = 9 → rd ys (i : Int) ≤ 1) → Ev (fun k => uvar_Get.j2 k (val ys i) (i : Int) (rd ys (i : Int)) ys (ys.length : Int) (i : Int) false) (gimp (gspec ys i)) := by
      intro h1
      have hs := step_is (val ys i) _ i h9 hv hc h1
      have hg : gspec ys i = if 0 < i ∧ rd ys (i : Int) = 0 then (0, 0, 3) else (val ys (i + 1), ((i + 1 : Nat) : Int), 0) := by
        rw [gspec, if_neg (by omega), if_neg]
        rintro (h | ⟨h, h'⟩)
        · omega
        · subst h
          have := h1 rfl
          exact absurd h' (by have e : rd ys ((9 : Nat) : Int) = rd ys 9 := rfl; omega)
      rw [hg]
      refine Ev.step (fun k => by rw [uvar_Get.j2]) ?_
      simp only [Bool.false_eq_true, if_false, if_pos h7, if_pos hsm, hs, hws]
      by_cases c2 : (i : Int) > 0
      · have c2' : 0 < i := by omega
        simp only [if_pos c2]
        by_cases c3 : rd ys (i : Int) = 0
        · simp only [if_pos c3]
          rw [if_pos ⟨c2', c3⟩]
          exact Ev.now _
        · simp only [if_neg c3]
          rw [if_neg (fun h => c3 h.2)]
          exact Ev.now _
      · simp only [if_neg c2]
        rw [if_neg (fun h => c2 (by omega))]
        exact Ev.now _
    refine Ev.step (fun k => by rw [uvar_Get.l0]) ?_
    simp only [if_pos hin, if_pos (Int.natCast_nonneg i)]
    by_cases c2 : (i : Int) = 9
    · have c2' : i = 9 := by omega
      simp only [if_pos c2]
      by_cases c3 : rd ys (i : Int) > 1
      · rw [decide_eq_true c3]
        refine Ev.step (fun k => by rw [uvar_Get.j2]) ?_
        simp only [if_true]
        rw [gspec, if_neg (by omega), if_pos (.inr ⟨c2', by rw [c2] at c3; exact c3⟩)]
        exact Ev.now _
      · rw [decide_eq_false c3]
        exact key (fun _ => by omega)
    · simp only [if_neg c2]
      exact key (fun h => absurd h (by omega))
  | succ d ih =>
    intro i hi h9
    have hc := rd_byte hy i
    have hv := val_range hy i
    have hln := hT.len
    have hten := hT.ten
    have hbg := hT.big i (by omega)
    have hin : (i : Int) < (ys.length : Int) := by omega
    have h7 : 0 ≤ wrap64 (7 * (i : Int)) := by rw [w64 _ (by omega)]; omega
    have hsm : ¬ rd ys (i : Int) < 128 := by omega
    have hws := wr_succ i (by omega)
    refine Ev.step (fun k => by rw [uvar_Get.l0]) ?_
    simp only [if_pos hin, if_pos (Int.natCast_nonneg i)]
    by_cases c2 : (i : Int) = 9
    · have c3 : rd ys (i : Int) > 1 := by omega
      simp only [if_pos c2]
      rw [decide_eq_true c3]
      refine Ev.step (fun k => by rw [uvar_Get.j2]) ?_
      simp only [if_true]
      rw [gspec, if_neg (by omega), if_pos (.inl (by omega))]
      exact Ev.now _
    · have hid : i + 1 + d = n := by omega
      have hi9 : i + 1 ≤ 9 := by omega
      have hs := step_is (val ys i) _ i h9 hv hc (fun h => absurd h (by omega))
      have hih := ih (i + 1) hid hi9
      simp only [if_neg c2]
      refine Ev.step (fun k => by rw [uvar_Get.j2]) ?_
      simp only [Bool.false_eq_true, if_false, if_pos h7, if_neg hsm, hs, hws]
      exact hih
/-- Layer 3's Get. -/
theorem Get_is (xs : List Int) (hx : Bs.Bytes xs) (hl : xs.length < 140737488355328) (a : Int) : 
    Ev (fun k => uvar_Get.f k xs a) (if a < 0 ∨ a > (xs.length : Int) then (0, 0, some 2) else gimp (gspec (xs.drop a.toNat) (Classical.choose (top (xs.drop a.toNat))))) := by
  unfold uvar_Get.f
  by_cases c1 : a < 0
  · simp only [if_pos c1]
    rw [if_pos (.inl c1)]
    exact Ev.step (fun k => by rw [uvar_Get.j0]) (by simp only [if_true]; exact Ev.now _)
  by_cases c2 : a > (xs.length : Int)
  · simp only [if_neg c1]
    rw [if_pos (.inr c2), decide_eq_true c2]
    exact Ev.step (fun k => by rw [uvar_Get.j0]) (by simp only [if_true]; exact Ev.now _)
  rw [if_neg (by omega), decide_eq_false c2]
  simp only [if_neg c1]
  have h0 : 0 ≤ a := by omega
  have h1 : a ≤ (xs.length : Int) := by omega
  refine Ev.step (fun k => by rw [uvar_Get.j0]) ?_
  simp only [Bool.false_eq_true, if_false, if_pos h0, if_pos h1]
  exact Get_l0 _ (hx.drop _) (by rw [List.length_drop]; omega) _ (Classical.choose_spec (top (xs.drop a.toNat))) _ 0 (Nat.zero_add _) (by omega)

/-! The document's Get -/
theorem RGet_l1 (ys : List Int) (hy : Bs.Bytes ys) (n : Nat) (hn : n ≤ 9) (hlen : n < ys.length) (hV : val ys (n + 1) < 18446744073709551616) : ∀ (j : Nat) (w : Int), j ≤ n + 1 → 0 ≤ w → w * 128 ^ j + val ys j = val ys (n + 1) →
    Ev (fun k => gaiterref01_GetUvar.l1 k ys (n : Int) w ((j : Int) - 1)) (val ys (n + 1), ((n + 1 : Nat) : Int), 0) := by
  intro j
  induction j with
  | zero =>
    intro w hj h0 hw
    have hws := wr_succ n (by omega)
    have hno : ¬ (((0 : Nat) : Int) - 1 ≥ 0) := by omega
    refine Ev.step (fun k => by rw [gaiterref01_GetUvar.l1]) ?_
    simp only [if_neg hno, hws]
    rw [show w = val ys (n + 1) from by simp [val] at hw; exact hw]
    exact Ev.now _
  | succ j ih =>
    intro w hj h0 hw
    have hc := rd_byte hy j
    have hp := pow_pos j
    have e1 : ((j + 1 : Nat) : Int) - 1 = (j : Int) := by omega
    have e2 : wrap64 ((j : Int) - 1) = (j : Int) - 1 := w64 _ (by omega)
    have hin : (j : Int) < (ys.length : Int) := by omega
    have hge : (j : Int) ≥ 0 := Int.natCast_nonneg j
    have hm : 0 ≤ rd ys (j : Int) % 128 := by omega
    have hw' : (128 * w + rd ys (j : Int) % 128) * 128 ^ j + val ys j = val ys (n + 1) := by
      rw [← hw]
      simp only [val]
      rw [Int.pow_succ, Int.add_mul, Int.mul_comm 128 w, Int.mul_assoc w 128, Int.mul_comm 128 (128 ^ j)]
      omega
    have hvr := val_range hy j
    have hq0 : 0 ≤ 128 * w + rd ys (j : Int) % 128 := by omega
    have hq : 128 * w + rd ys (j : Int) % 128 < 18446744073709551616 := by
      have := Int.mul_le_mul_of_nonneg_left (show (1 : Int) ≤ 128 ^ j by omega) hq0
      omega
    have hih := ih (128 * w + rd ys (j : Int) % 128) (by omega) hq0 hw'
    refine Ev.step (fun k => by rw [gaiterref01_GetUvar.l1]) ?_
    simp only [e1, if_pos hge, if_pos hin, e2]
    rw [Int.tmod_eq_emod_of_nonneg hc.1, Ib.wrap_u64, Ib.wrap_u64, Ib.wrap_u64]
    rw [show (128 * w % 18446744073709551616 + rd ys (j : Int) % 128 % 18446744073709551616) % 18446744073709551616 = 128 * w + rd ys (j : Int) % 128 from by omega]
    exact hih
theorem val_small {ys : List Int} (hy : Bs.Bytes ys) (n : Nat) (hn : n ≤ 9) (h : n = 9 → rd ys 9 ≤ 1) : val ys (n + 1) < 18446744073709551616 := by
  by_cases e : n = 9
  · subst e
    have h1 := (val_range hy 9).2
    have h2 := h rfl
    have h3 := rd_byte hy 9
    have h4 : rd ys ((9 : Nat) : Int) = rd ys 9 := rfl
    simp only [val] at h1 ⊢
    rw [show (128 : Int) ^ 9 = 9223372036854775808 from by decide] at h1 ⊢
    rw [h4] at h3 ⊢
    omega
  · have h1 := (val_range hy (n + 1)).2
    have h2 := pow_9 (show n + 1 ≤ 9 by omega)
    omega
theorem RGet_j2 (ys : List Int) (hy : Bs.Bytes ys) (hl : ys.length < 140737488355328) (n : Nat) (hT : Top ys n) : Ev (fun k => gaiterref01_GetUvar.j2 k ys (n : Int)) (gspec ys n) := by
  have hst := hT.stop
  have hln := hT.len
  have hten := hT.ten
  have r9 : rd ys ((9 : Nat) : Int) = rd ys 9 := rfl
  have hc9 := rd_byte hy 9
  rw [r9] at hc9
  -- from j4 on
  have k4 : n ≤ 9 → n < ys.length → (n = 9 → rd ys 9 ≤ 1) → Ev (fun k => gaiterref01_GetUvar.j4 k ys (n : Int)) (gspec ys n) := by
    intro h9 hlt h1
    have hV := val_small hy n h9 h1
    have hg : gspec ys n = if 0 < n ∧ rd ys (n : Int) = 0 then (0, 0, 3) else (val ys (n + 1), ((n + 1 : Nat) : Int), 0) := by
      rw [gspec, if_neg (by omega), if_neg]
      rintro (h | ⟨h, h'⟩)
      · omega
      · have := h1 h; omega
    rw [hg]
    have hend : Ev (fun k => gaiterref01_GetUvar.j5 k ys (n : Int) false) (val ys (n + 1), ((n + 1 : Nat) : Int), 0) := by
      have := RGet_l1 ys hy n h9 hlt hV (n + 1) 0 (Nat.le_refl _) (by omega) (by rw [Int.zero_mul, Int.zero_add])
      rw [show ((n + 1 : Nat) : Int) - 1 = (n : Int) from by omega] at this
      refine Ev.step (fun k => by rw [gaiterref01_GetUvar.j5]) ?_
      simp only [Bool.false_eq_true, if_false]
      exact this
    refine Ev.step (fun k => by rw [gaiterref01_GetUvar.j4]) ?_
    have hin : (n : Int) < (ys.length : Int) := by omega
    by_cases c : (n : Int) > 0
    · have c' : 0 < n := by omega
      simp only [if_pos c, if_pos (Int.natCast_nonneg n), if_pos hin]
      by_cases c3 : rd ys (n : Int) = 0
      · rw [if_pos ⟨c', c3⟩, show (rd ys (n : Int) == 0) = true from beq_iff_eq.2 c3]
        refine Ev.step (fun k => by rw [gaiterref01_GetUvar.j5]) ?_
        simp only [if_true]
        exact Ev.now _
      · rw [if_neg (fun h => c3 h.2), show (rd ys (n : Int) == 0) = false from beq_eq_false_iff_ne.2 c3]
        exact hend
    · simp only [if_neg c]
      rw [if_neg (fun h => c (by omega))]
      exact hend
  have k3 : ¬ (n < 9 ∧ n = ys.length) → Ev (fun k => gaiterref01_GetUvar.j3 k ys (n : Int) false) (gspec ys n) := by
    intro hno
    refine Ev.step (fun k => by rw [gaiterref01_GetUvar.j3]) ?_
    simp only [Bool.false_eq_true, if_false]
    by_cases c : (n : Int) ≥ 9
    · simp only [if_pos c]
      by_cases c2 : (ys.length : Int) < 10
      · simp only [if_pos c2]
        rw [gspec, if_pos (by omega)]
        exact Ev.now _
      · have c3 : (9 : Int) < (ys.length : Int) := by omega
        simp only [if_neg c2, if_pos c3]
        by_cases c4 : rd ys 9 > 1
        · simp only [if_pos c4]
          rw [gspec, if_neg (by omega), if_pos]
          · exact Ev.now _
          · by_cases e : n = 10
            · exact .inl e
            · exact .inr ⟨by omega, c4⟩
        · simp only [if_neg c4]
          have hn10 : n ≠ 10 := by
            intro e
            have := hT.big 9 (by omega)
            omega
          exact k4 (by omega) (by omega) (fun _ => by omega)
    · simp only [if_neg c]
      exact k4 (by omega) (by omega) (fun h => absurd h (by omega))
  refine Ev.step (fun k => by rw [gaiterref01_GetUvar.j2]) ?_
  by_cases c : (n : Int) < 9
  · simp only [if_pos c]
    by_cases c2 : n = ys.length
    · rw [show ((n : Int) == (ys.length : Int)) = true from beq_iff_eq.2 (by omega)]
      refine Ev.step (fun k => by rw [gaiterref01_GetUvar.j3]) ?_
      simp only [if_true]
      rw [gspec, if_pos (by omega)]
      exact Ev.now _
    · rw [show ((n : Int) == (ys.length : Int)) = false from beq_eq_false_iff_ne.2 (by omega)]
      exact k3 (by omega)
  · simp only [if_neg c]
    exact k3 (by omega)
theorem RGet_l0 (ys : List Int) (hy : Bs.Bytes ys) (hl : ys.length < 140737488355328) (n : Nat) (hT : Top ys n) : ∀ (d i : Nat), i + d = n → Ev (fun k => gaiterref01_GetUvar.l0 k ys (i : Int)) (gspec ys n) := by
  have hst := hT.stop
  have hln := hT.len
  have hten := hT.ten
  intro d
  induction d with
  | zero =>
    intro i hi
    obtain rfl : i = n := by omega
    have hj := RGet_j2 ys hy hl i hT
    refine Ev.step (fun k => by rw [gaiterref01_GetUvar.l0]) ?_
    by_cases c1 : (i : Int) < (ys.length : Int)
    · simp only [if_pos c1]
      by_cases c2 : (i : Int) < 10
      · have c3 : ¬ rd ys (i : Int) ≥ 128 := by omega
        simp only [if_pos c2, if_pos (Int.natCast_nonneg i), if_neg c3]
        exact hj
      · simp only [if_neg c2]
        exact hj
    · simp only [if_neg c1]
      exact hj
  | succ d ih =>
    intro i hi
    have hbg := hT.big i (by omega)
    have c1 : (i : Int) < (ys.length : Int) := by omega
    have c2 : (i : Int) < 10 := by omega
    have c3 : rd ys (i : Int) ≥ 128 := hbg
    have hws := wr_succ i (by omega)
    have hih := ih (i + 1) (by omega)
    refine Ev.step (fun k => by rw [gaiterref01_GetUvar.l0]) ?_
    simp only [if_pos c1, if_pos c2, if_pos (Int.natCast_nonneg i), if_pos c3, hws]
    exact hih
/-- The document's Get. -/
theorem RGet_is (xs : List Int) (hx : Bs.Bytes xs) (hl : xs.length < 140737488355328) (a : Int) : 
    Ev (fun k => gaiterref01_GetUvar.f k xs a) (if a < 0 ∨ a > (xs.length : Int) then (0, 0, 2) else gspec (xs.drop a.toNat) (Classical.choose (top (xs.drop a.toNat)))) := by
  unfold gaiterref01_GetUvar.f
  by_cases c1 : a < 0
  · simp only [if_pos c1]
    rw [if_pos (.inl c1)]
    exact Ev.step (fun k => by rw [gaiterref01_GetUvar.j0]) (by simp only [if_true]; exact Ev.now _)
  by_cases c2 : a > (xs.length : Int)
  · simp only [if_neg c1]
    rw [if_pos (.inr c2), decide_eq_true c2]
    exact Ev.step (fun k => by rw [gaiterref01_GetUvar.j0]) (by simp only [if_true]; exact Ev.now _)
  rw [if_neg (by omega), decide_eq_false c2]
  simp only [if_neg c1]
  have h0 : 0 ≤ a := by omega
  have h1 : a ≤ (xs.length : Int) := by omega
  refine Ev.step (fun k => by rw [gaiterref01_GetUvar.j0]) ?_
  simp only [Bool.false_eq_true, if_false, if_pos h0, if_pos h1]
  exact RGet_l0 _ (hx.drop _) (by rw [List.length_drop]; omega) _ (Classical.choose_spec (top (xs.drop a.toNat))) _ 0 (Nat.zero_add _)

end Go.Proofs.Ythlieaggokdppaa.PUvar
