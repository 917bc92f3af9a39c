/- What the document's Flat, Number and Low come to, and layer 1's Take, in plain words on bits. -/
import Derived.Test.YtfpcbnkipdjlhaaAllx22
import Derived.Test.YtfpcbnkipdjlhaaAllx22
import Derived.Test.YtfpcbnkipdjlhaaAllx22
import Derived.Test.YtfpcbnkipdjlhaaAllx25
import Derived.Test.YtfpcbnkipdjlhaaIb
import Derived.Test.YtfpcbnkipdjlhaaBs
namespace Go.Proofs.Ytfpcbnkipdjlhaa.PBits
open Go Go.RowKit Go.Proofs.Ytfpcbnkipdjlhaa Go.Proofs.Ytfpcbnkipdjlhaa.All Go.Proofs.YtfpcbnkipdjlhaaW.PrintWords Go.Proofs.YtfpcbnkipdjlhaaW.PrintLast
set_option linter.unusedVariables false
set_option linter.unusedSimpArgs false


theorem rd_at (xs : List Int) (i : Nat) (h : i < xs.length) : rd xs (i : Int) = xs[i] := by
  simp [rd, List.getD_eq_getElem?_getD, h]
theorem w64 (n : Int) (h : -9223372036854775808 ≤ n ∧ n < 9223372036854775808) : wrap64 n = n := by unfold wrap64; omega
theorem tmod_nat (n : Int) (h : 0 ≤ n) (m : Int) : Int.tmod n m = n % m := Int.tmod_eq_emod_of_nonneg h
theorem tdiv_nat (n : Int) (h : 0 ≤ n) (m : Int) : Int.tdiv n m = n / m := Int.tdiv_eq_ediv_of_nonneg h
theorem at_drop (xs : List Int) (i : Nat) (h : i < xs.length) : xs.drop i = xs[i] :: xs.drop (i + 1) := List.drop_eq_getElem_cons h

/-! The document's -/
def topb : Nat → Int → List Int
  | 0, _ => []
  | n + 1, c => c / 128 :: topb n (c * 2 % 256)
theorem topb_low (c : Int) (hc : 0 ≤ c ∧ c < 256) : topb 8 c = Bs.low c 8 := by
  have h : ∀ c : Fin 256, topb 8 ((c.val : Nat) : Int) = Bs.low ((c.val : Nat) : Int) 8 := by decide +kernel
  have := h ⟨c.toNat, by omega⟩
  rw [show ((c.toNat : Nat) : Int) = c from by omega] at this
  exact this
theorem topb_length (n : Nat) : ∀ c, (topb n c).length = n := by
  induction n with
  | zero => intro c; rfl
  | succ n ih => intro c; simp [topb, ih]
theorem Flat_l1 (xs : List Int) (i : Int) (r : List Int) : ∀ (j : Nat) (acc : List Int) (c : Int), j ≤ 8 → 0 ≤ c ∧ c < 256 → acc.length + j < 140737488355328 →
    Ev (fun k => gaiterref01_Flat.l0 k xs (acc ++ topb j c) (wrap64 (i + 1))) r → Ev (fun k => gaiterref01_Flat.l1 k xs acc i c ((8 - j : Nat) : Int)) r := by
  intro j
  induction j with
  | zero => intro acc c _ _ _ h; exact Ev.step (fun k => by simp only [gaiterref01_Flat.l1]; rw [if_neg (by omega)]; simp only [topb, List.append_nil]) h
  | succ j ih =>
    intro acc c hj hc hl h
    refine Ev.step (fun k => ?_) (ih (acc ++ [c / 128]) (c * 2 % 256) (by omega) (by omega) (by rw [List.length_append, List.length_singleton]; omega) ?_)
    · simp only [gaiterref01_Flat.l1]
      rw [if_pos (by omega), if_pos (by omega), tdiv_nat _ hc.1, show c / 128 % 256 = c / 128 from by omega, show wrap64 (((8 - (j + 1) : Nat) : Int) + 1) = ((8 - j : Nat) : Int) from by rw [w64 _ (by omega)]; omega]
    · rw [List.append_assoc]; exact h
theorem Flat_l0 (xs : List Int) (hx : Bs.Bytes xs) (hl : xs.length < 1152921504606846976) : ∀ (d i : Nat) (acc : List Int), i + d = xs.length → acc.length + 8 * d < 140737488355328 →
    Ev (fun k => gaiterref01_Flat.l0 k xs acc (i : Int)) (acc ++ Bs.flat (xs.drop i)) := by
  intro d
  induction d with
  | zero =>
    intro i acc hi _
    refine Ev.step (fun k => ?_) (Ev.now _)
    simp only [gaiterref01_Flat.l0]
    rw [if_neg (by omega), List.drop_eq_nil_of_le (by omega), Bs.flat_nil, List.append_nil]
  | succ d ih =>
    intro i acc hi hacc
    have hlt : i < xs.length := by omega
    have hc := hx xs[i] (List.getElem_mem hlt)
    have := ih (i + 1) (acc ++ Bs.low xs[i] 8) (by omega) (by rw [List.length_append, Bs.low_length]; omega)
    rw [at_drop xs i hlt, Bs.flat_cons, ← List.append_assoc]
    refine Ev.step (fun k => ?_) (Flat_l1 xs (i : Int) _ 8 acc xs[i] (by omega) hc (by omega) ?_)
    · simp only [gaiterref01_Flat.l0]
      rw [if_pos (by omega), if_pos (by omega), rd_at xs i hlt]
      rfl
    · rw [topb_low _ hc, w64 _ (by omega)]; exact this
theorem Flat_is (xs : List Int) (hx : Bs.Bytes xs) (hl : 8 * xs.length < 140737488355328) : Ev (fun k => gaiterref01_Flat.f k xs) (Bs.flat xs) := by
  have := Flat_l0 xs hx (by omega) xs.length 0 [] (by omega) (by simp; omega)
  rw [List.nil_append, List.drop_zero] at this
  exact this
theorem pow_le {i n : Nat} (h : i ≤ n) : (2 : Int) ^ i ≤ 2 ^ n := by
  rw [show n = i + (n - i) from by omega, Int.pow_add]
  have h1 := Bs.pow_pos i; have h2 := Bs.pow_pos (n - i)
  have := Int.mul_le_mul_of_nonneg_left (show (1 : Int) ≤ 2 ^ (n - i) by omega) (Int.le_of_lt h1)
  omega
theorem Number_l0 (xs : List Int) (hx : Bs.Bits xs) (hl : xs.length ≤ 64) : ∀ (d i : Nat) (v : Int), i + d = xs.length → 0 ≤ v → v + 1 ≤ 2 ^ i →
    Ev (fun k => gaiterref01_Number.l0 k xs v (i : Int)) ((xs.drop i).foldl (fun v b => 2 * v + b) v) := by
  intro d
  induction d with
  | zero =>
    intro i v hi _ _
    refine Ev.step (fun k => ?_) (Ev.now _)
    simp only [gaiterref01_Number.l0]
    rw [if_neg (by omega), List.drop_eq_nil_of_le (by omega)]
    rfl
  | succ d ih =>
    intro i v hi h0 hv
    have hlt : i < xs.length := by omega
    have hc := hx xs[i] (List.getElem_mem hlt)
    have hp : (2 : Int) ^ (i + 1) = 2 * 2 ^ i := by rw [Int.pow_succ, Int.mul_comm]
    have hq : (2 : Int) ^ (i + 1) ≤ 2 ^ 64 := pow_le (by omega)
    have hq2 : (2 : Int) ^ 64 = 18446744073709551616 := by decide
    have hb : 0 ≤ xs[i] ∧ xs[i] ≤ 1 := by omega
    have := ih (i + 1) (2 * v + xs[i]) (by omega) (by omega) (by omega)
    rw [at_drop xs i hlt, List.foldl_cons]
    refine Ev.step (fun k => ?_) this
    simp only [gaiterref01_Number.l0]
    rw [if_pos (by omega), if_pos (by omega), rd_at xs i hlt, Ib.wrap_u64, Ib.wrap_u64, Ib.wrap_u64, w64 _ (by omega)]
    congr 1
    omega
theorem Number_is (xs : List Int) (hx : Bs.Bits xs) (hl : xs.length ≤ 64) : Ev (fun k => gaiterref01_Number.f k xs) (Bs.number xs) := by
  have := Number_l0 xs hx hl xs.length 0 0 (by omega) (by omega) (by simp)
  rw [List.drop_zero] at this
  exact this
theorem Low_l0 : ∀ (m : Nat) (u : Int) (L : List Int), 0 ≤ u ∧ u < 18446744073709551616 → m < 1152921504606846976 →
    Ev (fun k => gaiterref01_Low.l0 k u (List.replicate m 0 ++ L) ((m : Int) - 1)) (Bs.low u m ++ L) := by
  intro m
  induction m with
  | zero =>
    intro u L _ _
    refine Ev.step (fun k => ?_) (Ev.now _)
    simp only [gaiterref01_Low.l0]
    rw [if_neg (by omega)]
    rfl
  | succ m ih =>
    intro u L hu hm
    have := ih (u / 2) ((u % 2) :: L) (by omega) (by omega)
    rw [show Bs.low u (m + 1) ++ L = Bs.low (u / 2) m ++ (u % 2 :: L) from by simp [Bs.low]]
    refine Ev.step (fun k => ?_) this
    simp only [gaiterref01_Low.l0]
    rw [show ((m + 1 : Nat) : Int) - 1 = (m : Int) from by omega]
    rw [if_pos (by omega), if_pos (by omega), if_pos (by rw [List.length_append, List.length_replicate]; omega), tdiv_nat _ hu.1, tmod_nat _ hu.1, Ib.wrap_u64, w64 _ (by omega)]
    congr 1
    · omega
    · rw [Int.toNat_natCast, List.replicate_succ', List.append_assoc, List.set_append_right _ _ (by simp)]
      simp
      omega
theorem Low_is (u : Int) (n : Int) (hu : 0 ≤ u ∧ u < 18446744073709551616) (hn : 0 ≤ n ∧ n ≤ 281474976710656) : Ev (fun k => gaiterref01_Low.f k u n) (Bs.low u n.toNat) := by
  have := Low_l0 n.toNat u [] hu (by omega)
  rw [List.append_nil, List.append_nil] at this
  refine Ev.congr (fun k => ?_) this
  simp only [gaiterref01_Low.f]
  rw [if_pos hn.1, if_pos (by omega), w64 _ (by omega), show ((n.toNat : Nat) : Int) - 1 = n - 1 from by omega]

/-! A document's bits as bytes -/
def tk (L : List Int) (a n : Int) : Int × Bool :=
  if n < 0 ∨ n > 64 ∨ a < 0 ∨ a > (L.length : Int) ∨ n > (L.length : Int) - a then (0, false) else (Bs.number ((L.drop a.toNat).take n.toNat), true)
theorem tk_no {L : List Int} {a n : Int} (h : n < 0 ∨ n > 64 ∨ a < 0 ∨ a > (L.length : Int) ∨ n > (L.length : Int) - a) : tk L a n = (0, false) := if_pos h
theorem tk_yes {L : List Int} {a n : Int} (h : ¬ (n < 0 ∨ n > 64 ∨ a < 0 ∨ a > (L.length : Int) ∨ n > (L.length : Int) - a)) : tk L a n = (Bs.number ((L.drop a.toNat).take n.toNat), true) := if_neg h

/-! Layer 1's Take -/
theorem or_bit (v b : Int) (hv : 0 ≤ v ∧ 2 * v + 1 < 18446744073709551616) (hb : b = 0 ∨ b = 1) : Go.bits .or .u64 (2 * v) b = 2 * v + b := by
  rw [Ib.or_u64 _ _ (by omega) (by omega)]
  have h := Nat.two_pow_add_eq_or_of_lt (i := 1) (b := b.toNat) (by omega) v.toNat
  rw [show (2 * v).toNat = 2 ^ 1 * v.toNat from by omega, ← h]
  omega
theorem and_u8_one (x : Int) (hx : 0 ≤ x ∧ x < 256) : Go.bits .and .u8 x 1 = x % 2 := by
  simp only [Go.bits, Ib.wrap_u8]
  rw [show IntKind.u8.bits = 8 from rfl, BitVec.toNat_and, Ib.ofInt_toNat 8 x hx.1 hx.2, show (BitVec.ofInt 8 1).toNat = 2 ^ 1 - 1 from rfl, Nat.and_two_pow_sub_one_eq_mod]
  omega
theorem or_u8 (x y : Int) (hx : 0 ≤ x ∧ x < 256) (hy : 0 ≤ y ∧ y < 256) : Go.bits .or .u8 x y = ((x.toNat ||| y.toNat : Nat) : Int) := by
  simp only [Go.bits, Ib.wrap_u8]
  rw [show IntKind.u8.bits = 8 from rfl, BitVec.toNat_or, Ib.ofInt_toNat 8 x hx.1 hx.2, Ib.ofInt_toNat 8 y hy.1 hy.2]
  have : x.toNat ||| y.toNat < 2 ^ 8 := Nat.or_lt_two_pow (by omega) (by omega)
  omega
/-- A number whose low bits are 0, or a number of so many bits: their sum. -/
theorem or_u8_sum (t y : Int) (s : Nat) (hs : s ≤ 8) (h : 0 ≤ t * 2 ^ s ∧ t * 2 ^ s < 256) (hy : 0 ≤ y ∧ y < 2 ^ s) : Go.bits .or .u8 (t * 2 ^ s) y = t * 2 ^ s + y := by
  have h1 : (2 : Int) ^ s ≤ 2 ^ 8 := pow_le hs
  have h2 : (2 : Int) ^ 8 = 256 := by decide
  have h3 := Bs.pow_pos s
  have h4 : (0 : Int) ≤ t := by
    refine Decidable.byContradiction fun h5 => ?_
    have := Int.mul_le_mul_of_nonneg_right (show t ≤ -1 by omega) (Int.le_of_lt h3)
    omega
  rw [or_u8 _ _ h (by omega)]
  obtain ⟨m, rfl⟩ := Int.eq_ofNat_of_zero_le h4
  obtain ⟨z, rfl⟩ := Int.eq_ofNat_of_zero_le hy.1
  have h6 : ((m : Int) * 2 ^ s) = ((2 ^ s * m : Nat) : Int) := by push_cast; rw [Int.mul_comm]
  have h7 : z < 2 ^ s := by have := hy.2; exact_mod_cast this
  rw [h6, Int.toNat_natCast, Int.toNat_natCast, ← Nat.two_pow_add_eq_or_of_lt h7]
  push_cast
  rfl
theorem low_at (n : Nat) : ∀ (v : Int) (j : Nat) (h : j < (Bs.low v n).length), (Bs.low v n)[j] = v / 2 ^ (n - 1 - j) % 2 := by
  induction n with
  | zero => intro v j h; simp [Bs.low] at h
  | succ n ih =>
    intro v j h
    rw [Bs.low_length] at h
    simp only [Bs.low]
    by_cases hj : j < n
    · rw [List.getElem_append_left (by rw [Bs.low_length]; exact hj), ih, show n + 1 - 1 - j = (n - 1 - j) + 1 from by omega, Int.pow_succ, Int.mul_comm, Int.ediv_ediv_of_nonneg (by decide)]
    · rw [List.getElem_append_right (by rw [Bs.low_length]; omega)]
      simp only [Bs.low_length, List.getElem_singleton]
      rw [show n + 1 - 1 - j = 0 from by omega]; simp
theorem flat_at (b : List Int) (i : Nat) (h : i < (Bs.flat b).length) (h' : i / 8 < b.length) : (Bs.flat b)[i] = b[i / 8] / 2 ^ (7 - i % 8) % 2 := by
  induction b generalizing i with
  | nil => simp at h'
  | cons c b ih =>
    simp only [Bs.flat_cons]
    by_cases hi : i < 8
    · rw [List.getElem_append_left (by rw [Bs.low_length]; exact hi), low_at]
      simp only [show i / 8 = 0 from by omega, List.getElem_cons_zero, show i % 8 = i from by omega]
    · rw [List.getElem_append_right (by rw [Bs.low_length]; omega)]
      have h2 := ih (i - 8) (by rw [Bs.flat_cons, List.length_append, Bs.low_length] at h; omega) (by simp only [List.length_cons] at h'; omega)
      simp only [Bs.low_length]
      rw [h2]
      simp only [show i / 8 = (i - 8) / 8 + 1 from by omega, List.getElem_cons_succ, show (i - 8) % 8 = i % 8 from by omega]
theorem at_byte (j : Nat) (h : j < 9223372036854775808) : wrap64 (Int.tdiv (j : Int) 8) = ((j / 8 : Nat) : Int) := by rw [tdiv_nat _ (by omega), w64 _ (by omega)]; omega
theorem at_bit (j : Nat) (h : j < 9223372036854775808) : wrap64 (7 - Int.tmod (j : Int) 8) = ((7 - j % 8 : Nat) : Int) := by rw [tmod_nat _ (by omega), w64 _ (by omega)]; omega
theorem shr_u8 (c : Int) (s : Nat) (h : s ≤ 8) : shr .u8 c (s : Int) = c / 2 ^ s := by
  unfold shr; rw [Int.toNat_natCast, show IntKind.u8.bits = 8 from rfl, Nat.min_eq_left h]
theorem ediv_pow (c : Int) (s : Nat) (hc : 0 ≤ c ∧ c < 256) : 0 ≤ c / 2 ^ s ∧ c / 2 ^ s < 256 := by
  have h3 := Bs.pow_pos s
  exact ⟨Int.ediv_nonneg hc.1 (Int.le_of_lt h3), Int.lt_of_le_of_lt (Int.ediv_le_self _ hc.1) hc.2⟩
theorem number_63 {l : List Int} (h : Bs.Bits l) (hl : l.length ≤ 63) : 0 ≤ Bs.number l ∧ 2 * Bs.number l + 1 < 18446744073709551616 := by
  have hr := Bs.number_range h
  have hp : (2 : Int) ^ l.length ≤ 2 ^ 63 := pow_le hl
  rw [show (2 : Int) ^ 63 = 9223372036854775808 from by decide] at hp
  omega
theorem take_step (v c : Int) (s : Nat) (hs : s ≤ 8) (hv : 0 ≤ v ∧ 2 * v + 1 < 18446744073709551616) (hc : 0 ≤ c ∧ c < 256) :
    Go.bits .or .u64 (IntKind.u64.wrap (v * 2)) (IntKind.u64.wrap (Go.bits .and .u8 (shr .u8 c (s : Int)) 1)) = 2 * v + c / 2 ^ s % 2 := by
  have h4 := ediv_pow c s hc
  rw [shr_u8 c s hs, and_u8_one _ h4, Ib.wrap_u64, Ib.wrap_u64]
  generalize c / 2 ^ s = q at h4 ⊢
  rw [show v * 2 % 18446744073709551616 = 2 * v from by omega, show q % 2 % 18446744073709551616 = q % 2 from by omega, or_bit _ _ hv (by omega)]
theorem Take_l0 (b : List Int) (hb : Bs.Bytes b) (hl : 8 * b.length < 140737488355328) (a n : Nat) (hn : n ≤ 64) (han : a + n ≤ (Bs.flat b).length) : ∀ (d i : Nat), i + d = n →
    Ev (fun k => bits_Take.l0 k b (a : Int) (n : Int) (Bs.number (((Bs.flat b).drop a).take i)) ((a + i : Nat) : Int)) (Bs.number (((Bs.flat b).drop a).take n), true) := by
  have hL := Bs.flat_length b
  intro d
  induction d with
  | zero =>
    intro i hi
    refine Ev.step (fun k => ?_) (Ev.now _)
    simp only [bits_Take.l0]
    rw [w64 _ (by omega), if_neg (by omega), show i = n from by omega]
  | succ d ih =>
    intro i hi
    have hlt : a + i < (Bs.flat b).length := by omega
    have hq : (a + i) / 8 < b.length := by omega
    have hn2 : a + i < 140737488355328 := by omega
    have hw1 : wrap64 ((a : Int) + n) = ((a + n : Nat) : Int) := by rw [w64 _ (by omega)]; omega
    have hw2 : wrap64 (((a + i : Nat) : Int) + 1) = ((a + (i + 1) : Nat) : Int) := by rw [w64 _ (by omega)]; omega
    have hin : ((a + i : Nat) : Int) < ((a + n : Nat) : Int) := by omega
    have hq' : (((a + i) / 8 : Nat) : Int) < (b.length : Int) := Int.ofNat_lt.2 hq
    have hn3 : a + i < 9223372036854775808 := by omega
    have h63 : i ≤ 63 := by omega
    have hc := hb b[(a + i) / 8] (List.getElem_mem hq)
    have := ih (i + 1) (by omega)
    have htk : ((Bs.flat b).drop a).take (i + 1) = ((Bs.flat b).drop a).take i ++ [(Bs.flat b)[a + i]] := by
      rw [List.take_add_one, List.getElem?_drop, List.getElem?_eq_getElem hlt]; rfl
    have hv := number_63 (((Bs.flat_bits b).drop a).take i) (Nat.le_trans (List.length_take_le _ _) h63)
    rw [htk, Bs.number_snoc, flat_at b (a + i) hlt hq] at this
    refine Ev.step (fun k => ?_) this
    simp only [bits_Take.l0]
    rw [at_byte _ hn3, at_bit _ hn3, hw1, hw2, if_pos hin, if_pos (Int.natCast_nonneg _), if_pos hq', if_pos (Int.natCast_nonneg _), rd_at b _ hq, take_step _ _ _ (Nat.le_trans (Nat.sub_le _ _) (by decide)) hv hc]
theorem Take_is (b : List Int) (hb : Bs.Bytes b) (hl : 8 * b.length < 140737488355328) (a n : Int) : Ev (fun k => bits_Take.f k b a n) (tk (Bs.flat b) a n) := by
  have hL := Bs.flat_length b
  unfold bits_Take.f
  by_cases c1 : n < 0
  · rw [tk_no (.inl c1)]
    exact Ev.step (g := fun k => _) (fun k => by rw [if_pos c1]; simp only [bits_Take.j0, if_true]) (Ev.now _)
  by_cases c2 : n > 64
  · rw [tk_no (.inr (.inl c2))]
    exact Ev.step (g := fun k => _) (fun k => by rw [if_neg c1, if_pos c2]; simp only [bits_Take.j0, if_true]) (Ev.now _)
  by_cases c3 : a < 0
  · rw [tk_no (.inr (.inr (.inl c3)))]
    exact Ev.step (g := fun k => _) (fun k => by rw [if_neg c1, if_neg c2, if_pos c3]; simp only [bits_Take.j0, if_true]) (Ev.now _)
  have e8 : wrap64 (8 * (b.length : Int)) = ((Bs.flat b).length : Int) := by rw [w64 _ (by omega)]; omega
  rw [e8]
  by_cases c4 : a > ((Bs.flat b).length : Int)
  · rw [tk_no (.inr (.inr (.inr (.inl c4))))]
    exact Ev.step (g := fun k => _) (fun k => by rw [if_neg c1, if_neg c2, if_neg c3, if_pos c4]; simp only [bits_Take.j0, if_true]) (Ev.now _)
  rw [w64 (((Bs.flat b).length : Int) - a) (by omega)]
  by_cases c5 : n > ((Bs.flat b).length : Int) - a
  · rw [tk_no (.inr (.inr (.inr (.inr c5))))]
    exact Ev.step (g := fun k => _) (fun k => by rw [if_neg c1, if_neg c2, if_neg c3, if_neg c4, decide_eq_true c5]; simp only [bits_Take.j0, if_true]) (Ev.now _)
  rw [tk_yes (by omega)]
  obtain ⟨a, rfl⟩ := Int.eq_ofNat_of_zero_le (Int.not_lt.1 c3)
  obtain ⟨n, rfl⟩ := Int.eq_ofNat_of_zero_le (Int.not_lt.1 c1)
  have := Take_l0 b hb hl a n (by omega) (by omega) n 0 (by omega)
  rw [Int.toNat_natCast, Int.toNat_natCast]
  refine Ev.step (g := fun k => _) (fun k => ?_) this
  rw [if_neg c1, if_neg c2, if_neg c3, if_neg c4, decide_eq_false c5]
  simp only [bits_Take.j0]
  rw [if_neg (by decide)]
  rfl

end Go.Proofs.Ytfpcbnkipdjlhaa.PBits
