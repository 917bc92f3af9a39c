-- written by this session; parts joined by a program of the session
import Derived.Laws.Entries
import Derived.RowKit
import Derived.Test.YtiahbcaoikoogaaAllx12
import Derived.Test.YtiahbcaoikoogaaAllx20
import Derived.Test.YtiahbcaoikoogaaAllx10
import Derived.Test.YtiahbcaoikoogaaAllx25
import Derived.Test.YtiahbcaoikoogaaAllx11
import Derived.Test.YtiahbcaoikoogaaAllx26
import Derived.Test.YtiahbcaoikoogaaAllx9
import Derived.Test.YtiahbcaoikoogaaAllx16
import Derived.Test.YtiahbcaoikoogaaAllx18
import Derived.Lib.Bytes
import Derived.Test.YtiahbcaoikoogaaAllx13
import Derived.Test.YtiahbcaoikoogaaAllx19
import Derived.Test.YtiahbcaoikoogaaAllx21
import Derived.Test.YtiahbcaoikoogaaM0
import Derived.Deep.SlicePairs
import Derived.Lib.SmallJoins
import Derived.Test.YtiahbcaoikoogaaAllx30
set_option linter.unusedVariables false
set_option linter.unusedSimpArgs false
set_option linter.unusedSectionVars false
namespace Bs
def number (l : List Int) : Int := l.foldl (fun v b => 2 * v + b) 0
def low (v : Int) : Nat → List Int
  | 0 => []
  | n + 1 => low (v / 2) n ++ [v % 2]
def Bits (l : List Int) : Prop := ∀ x ∈ l, x = 0 ∨ x = 1
def Bytes (l : List Int) : Prop := ∀ x ∈ l, 0 ≤ x ∧ x < 256
def flat (b : List Int) : List Int := b.flatMap fun c => low c 8
def pack (l : List Int) : List Int :=
  if h : l = [] then [] else number (l.take 8 ++ List.replicate (8 - l.length) 0) :: pack (l.drop 8)
termination_by l.length
decreasing_by
  have := List.length_pos_iff.2 h
  simp only [List.length_drop]; omega
theorem foldl_number (l : List Int) : ∀ a : Int, l.foldl (fun v b => 2 * v + b) a = a * 2 ^ l.length + number l := by
  induction l with
  | nil => intro a; simp [number]
  | cons x l ih =>
    intro a
    simp only [List.foldl_cons, List.length_cons, number]
    rw [ih, ih (2 * 0 + x), Int.pow_succ, Int.add_mul, Int.mul_zero, Int.zero_add, Int.mul_comm (2 ^ l.length) 2, ← Int.mul_assoc, Int.mul_comm 2 a, Int.add_assoc]
theorem number_nil : number [] = 0 := rfl
theorem number_append (l m : List Int) : number (l ++ m) = number l * 2 ^ m.length + number m := by
  rw [number, List.foldl_append]; exact foldl_number m _
theorem number_cons (x : Int) (l : List Int) : number (x :: l) = x * 2 ^ l.length + number l := by
  rw [show x :: l = [x] ++ l from rfl, number_append]; simp [number]
theorem number_snoc (l : List Int) (x : Int) : number (l ++ [x]) = 2 * number l + x := by
  rw [number, List.foldl_append]; rfl
theorem pow_pos (n : Nat) : (0 : Int) < 2 ^ n := Int.pow_pos (by decide)
theorem low_length (n : Nat) : ∀ v, (low v n).length = n := by
  induction n with
  | zero => intro v; rfl
  | succ n ih => intro v; simp [low, ih]
theorem low_bits (n : Nat) : ∀ v, Bits (low v n) := by
  induction n with
  | zero => intro v x hx; simp [low] at hx
  | succ n ih =>
    intro v x hx
    simp only [low, List.mem_append, List.mem_singleton] at hx
    rcases hx with hx | hx
    · exact ih _ x hx
    · omega
theorem Bits.append {l m : List Int} (h : Bits l) (h' : Bits m) : Bits (l ++ m) := by
  intro x hx; rcases List.mem_append.1 hx with hx | hx
  · exact h x hx
  · exact h' x hx
theorem Bits.nil : Bits [] := fun x hx => by simp at hx
theorem Bits.cons {x : Int} {l : List Int} (hx : x = 0 ∨ x = 1) (h : Bits l) : Bits (x :: l) := by
  intro y hy; rcases List.mem_cons.1 hy with rfl | hy
  · exact hx
  · exact h y hy
theorem Bits.left {l m : List Int} (h : Bits (l ++ m)) : Bits l := fun x hx => h x (List.mem_append_left _ hx)
theorem Bits.right {l m : List Int} (h : Bits (l ++ m)) : Bits m := fun x hx => h x (List.mem_append_right _ hx)
theorem Bits.take {l : List Int} (h : Bits l) (n : Nat) : Bits (l.take n) := fun _ hx => h _ (List.mem_of_mem_take hx)
theorem Bits.drop {l : List Int} (h : Bits l) (n : Nat) : Bits (l.drop n) := fun x hx => h x (List.mem_of_mem_drop hx)
theorem Bits.zeros (n : Nat) : Bits (List.replicate n (0 : Int)) := fun _ hx => .inl (List.eq_of_mem_replicate hx)
theorem Bits.ones (n : Nat) : Bits (List.replicate n (1 : Int)) := fun _ hx => .inr (List.eq_of_mem_replicate hx)
theorem Bytes.nil : Bytes [] := fun x hx => by simp at hx
theorem Bytes.append {l m : List Int} (h : Bytes l) (h' : Bytes m) : Bytes (l ++ m) := by
  intro x hx; rcases List.mem_append.1 hx with hx | hx
  · exact h x hx
  · exact h' x hx
theorem Bytes.cons {x : Int} {l : List Int} (hx : 0 ≤ x ∧ x < 256) (h : Bytes l) : Bytes (x :: l) := by
  intro y hy; rcases List.mem_cons.1 hy with rfl | hy
  · exact hx
  · exact h y hy
theorem Bytes.take {l : List Int} (h : Bytes l) (n : Nat) : Bytes (l.take n) := fun x hx => h x (List.mem_of_mem_take hx)
theorem Bytes.drop {l : List Int} (h : Bytes l) (n : Nat) : Bytes (l.drop n) := fun x hx => h x (List.mem_of_mem_drop hx)
theorem number_range {l : List Int} (h : Bits l) : 0 ≤ number l ∧ number l < 2 ^ l.length := by
  induction l with
  | nil => simp [number]
  | cons x l ih =>
    have hx := h x (by simp)
    have ih := ih (fun y hy => h y (by simp [hy]))
    rw [number_cons, List.length_cons, Int.pow_succ]
    have := pow_pos l.length
    rcases hx with rfl | rfl
    · omega
    · omega
theorem mod_two_mul (v m : Int) (hm : 0 < m) : v % (m * 2) = 2 * (v / 2 % m) + v % 2 := by
  have h1 := Int.mul_ediv_add_emod v 2
  have h2 := Int.mul_ediv_add_emod (v / 2) m
  have h3 := Int.emod_nonneg (v / 2) (by omega : m ≠ 0)
  have h4 := Int.emod_lt_of_pos (v / 2) hm
  have h5 : v = m * 2 * (v / 2 / m) + (2 * (v / 2 % m) + v % 2) := by
    have : m * 2 * (v / 2 / m) = 2 * (m * (v / 2 / m)) := by rw [Int.mul_comm m 2, Int.mul_assoc]
    rw [this]; omega
  conv => lhs; rw [h5]
  rw [Int.mul_add_emod_self_left]
  exact Int.emod_eq_of_lt (by omega) (by omega)
theorem number_low (n : Nat) : ∀ v, number (low v n) = v % 2 ^ n := by
  induction n with
  | zero => intro v; simp [low, number]
  | succ n ih => intro v; rw [low, number_snoc, ih, Int.pow_succ, mod_two_mul _ _ (pow_pos n)]
theorem low_number {l : List Int} (h : Bits l) : low (number l) l.length = l := by
  suffices H : ∀ n (l : List Int), l.length = n → Bits l → low (number l) n = l from H _ l rfl h
  intro n
  induction n with
  | zero => intro l hl _; rw [List.length_eq_zero_iff.1 hl]; rfl
  | succ n ih =>
    intro l hl hb
    have hne : l ≠ [] := by intro e; simp [e] at hl
    rw [← List.dropLast_concat_getLast hne] at hb ⊢
    have hx := hb (l.getLast hne) (by simp)
    rw [number_snoc, low]
    have e1 : (2 * number l.dropLast + l.getLast hne) / 2 = number l.dropLast := by omega
    have e2 : (2 * number l.dropLast + l.getLast hne) % 2 = l.getLast hne := by omega
    rw [e1, e2, ih _ (by simp; omega) hb.left]
theorem low_mod (n : Nat) (v : Int) : low (v % 2 ^ n) n = low v n := by
  have := low_number (low_bits n v)
  rwa [low_length, number_low] at this
theorem low_congr {n : Nat} {v u : Int} (h : v % 2 ^ n = u % 2 ^ n) : low v n = low u n := by rw [← low_mod, h, low_mod]
theorem low_inj {n : Nat} {v u : Int} (h : low v n = low u n) : v % 2 ^ n = u % 2 ^ n := by rw [← number_low, h, number_low]
theorem number_inj {l m : List Int} (hl : Bits l) (hm : Bits m) (h : l.length = m.length) (e : number l = number m) : l = m := by
  rw [← low_number hl, ← low_number hm, h, e]
theorem low_append (m : Nat) : ∀ (n : Nat) (v : Int), low v (n + m) = low (v / 2 ^ m) n ++ low v m := by
  induction m with
  | zero => intro n v; simp [low]
  | succ m ih =>
    intro n v
    rw [← Nat.add_assoc, low, low, ih, List.append_assoc]
    congr 2
    rw [Int.pow_succ, Int.mul_comm, Int.ediv_ediv_of_nonneg (by decide)]
theorem low_zero (n : Nat) : low 0 n = List.replicate n 0 := by
  induction n with
  | zero => rfl
  | succ n ih => rw [low, show (0 : Int) / 2 = 0 from rfl, ih, List.replicate_succ']; rfl
theorem flat_nil : flat [] = [] := rfl
theorem flat_cons (c : Int) (b : List Int) : flat (c :: b) = low c 8 ++ flat b := by simp [flat]
theorem flat_append (b c : List Int) : flat (b ++ c) = flat b ++ flat c := by simp [flat]
theorem flat_length (b : List Int) : (flat b).length = 8 * b.length := by
  induction b with
  | nil => rfl
  | cons c b ih => rw [flat_cons, List.length_append, low_length, ih, List.length_cons]; omega
theorem flat_bits (b : List Int) : Bits (flat b) := by
  induction b with
  | nil => exact Bits.nil
  | cons c b ih => rw [flat_cons]; exact (low_bits 8 c).append ih
theorem flat_drop (b : List Int) (k : Nat) : (flat b).drop (8 * k) = flat (b.drop k) := by
  induction k generalizing b with
  | zero => simp
  | succ k ih =>
    cases b with
    | nil => simp [flat]
    | cons c b =>
      rw [flat_cons, List.drop_succ_cons, ← ih, List.drop_append, low_length, List.drop_eq_nil_of_le (by rw [low_length]; omega), List.nil_append]
      congr 1
theorem flat_take (b : List Int) (k : Nat) : (flat b).take (8 * k) = flat (b.take k) := by
  induction k generalizing b with
  | zero => simp [flat]
  | succ k ih =>
    cases b with
    | nil => simp [flat]
    | cons c b =>
      rw [flat_cons, List.take_succ_cons, flat_cons, ← ih, List.take_append, low_length, List.take_of_length_le (by rw [low_length]; omega)]
      congr 2
theorem pack_nil : pack [] = [] := by rw [pack]; simp
theorem pack_ne {l : List Int} (h : l ≠ []) : pack l = number (l.take 8 ++ List.replicate (8 - l.length) 0) :: pack (l.drop 8) := by rw [pack]; simp [h]
theorem pack_block {l : List Int} (m : List Int) (h : l.length = 8) : pack (l ++ m) = number l :: pack m := by
  have hne : l ++ m ≠ [] := by intro e; rw [List.append_eq_nil_iff] at e; rw [e.1] at h; simp at h
  rw [pack_ne hne, List.take_left' h, List.drop_left' h, List.length_append, show 8 - (l.length + m.length) = 0 from by omega]; simp
theorem pack_short {l : List Int} (h0 : l ≠ []) (h : l.length ≤ 8) : pack l = [number (l ++ List.replicate (8 - l.length) 0)] := by
  rw [pack_ne h0, List.take_of_length_le h, List.drop_eq_nil_of_le h, pack_nil]
theorem pack_low (c : Int) (hc : 0 ≤ c ∧ c < 256) (m : List Int) : pack (low c 8 ++ m) = c :: pack m := by
  rw [pack_block m (low_length 8 c), number_low, Int.emod_eq_of_lt hc.1 (by simpa using hc.2)]
theorem pack_flat {b : List Int} (h : Bytes b) (m : List Int) : pack (flat b ++ m) = b ++ pack m := by
  induction b with
  | nil => simp [flat]
  | cons c b ih => rw [flat_cons, List.append_assoc, pack_low c (h c (by simp)), ih (fun x hx => h x (by simp [hx]))]; rfl
theorem pack_flat' {b : List Int} (h : Bytes b) : pack (flat b) = b := by
  have := pack_flat h []
  rwa [List.append_nil, pack_nil, List.append_nil] at this
theorem by_eight {P : List Int → Prop} (h0 : P []) (hs : ∀ l, l ≠ [] → l.length < 8 → P l) (hb : ∀ l m, l.length = 8 → P m → P (l ++ m)) (l : List Int) : P l := by
  suffices H : ∀ n (l : List Int), l.length ≤ n → P l from H _ l (Nat.le_refl _)
  intro n
  induction n with
  | zero => intro l hl; obtain rfl : l = [] := List.length_eq_zero_iff.1 (by omega); exact h0
  | succ n ih =>
    intro l hl
    by_cases e : l = []
    · rw [e]; exact h0
    · by_cases h8 : l.length < 8
      · exact hs l e h8
      · rw [← List.take_append_drop 8 l]
        exact hb _ _ (by simp; omega) (ih _ (by simp; omega))
theorem pack_length (l : List Int) : (pack l).length = (l.length + 7) / 8 := by
  induction l using by_eight with
  | h0 => simp [pack_nil]
  | hs l e h => rw [pack_short e (by omega)]; have := List.length_pos_iff.2 e; simp; omega
  | hb l m h ih => rw [pack_block m h]; simp [ih, h]; omega
theorem pack_bytes {l : List Int} (h : Bits l) : Bytes (pack l) := by
  induction l using by_eight with
  | h0 => rw [pack_nil]; exact Bytes.nil
  | hs l e h8 =>
    rw [pack_short e (by omega)]
    have := number_range (h.append (Bits.zeros (8 - l.length)))
    rw [List.length_append, List.length_replicate, show l.length + (8 - l.length) = 8 from by omega] at this
    exact Bytes.cons (by simpa using this) Bytes.nil
  | hb l m h8 ih =>
    rw [pack_block m h8]
    have := number_range h.left
    rw [h8] at this
    exact Bytes.cons (by simpa using this) (ih h.right)
theorem flat_pack {l : List Int} (h : Bits l) : flat (pack l) = l ++ List.replicate (8 * ((l.length + 7) / 8) - l.length) 0 := by
  induction l using by_eight with
  | h0 => simp [pack_nil, flat]
  | hs l e h8 =>
    have hp := List.length_pos_iff.2 e
    have hl := low_number (h.append (Bits.zeros (8 - l.length)))
    rw [List.length_append, List.length_replicate, show l.length + (8 - l.length) = 8 from by omega] at hl
    rw [pack_short e (by omega), flat_cons, flat_nil, List.append_nil, hl, show 8 * ((l.length + 7) / 8) - l.length = 8 - l.length from by omega]
  | hb l m h8 ih =>
    have hl := low_number h.left
    rw [h8] at hl
    rw [pack_block m h8, flat_cons, hl, ih h.right, List.append_assoc, List.length_append]
    congr 3
    omega
theorem take_flat_pack {l : List Int} (h : Bits l) : (flat (pack l)).take l.length = l := by
  rw [flat_pack h, List.take_left' rfl]
theorem pack_inj {l m : List Int} (hl : Bits l) (hm : Bits m) (hn : l.length = m.length) (h : pack l = pack m) : l = m := by
  rw [← take_flat_pack hl, h, hn, take_flat_pack hm]
theorem pack_zeros {l : List Int} (h : Bits l) (z : Nat) : (pack (l ++ List.replicate z 0)).take ((l.length + 7) / 8) = pack l := by
  have h1 : (pack (l ++ List.replicate z 0)).take ((l.length + 7) / 8) = pack ((flat (pack (l ++ List.replicate z 0))).take (8 * ((l.length + 7) / 8))) := by
    rw [flat_take, pack_flat' ((pack_bytes (h.append (Bits.zeros z))).take _)]
  have hz : Bits (l ++ List.replicate z 0) := h.append (Bits.zeros z)
  rw [h1, flat_pack hz]
  have h2 : (l ++ List.replicate z (0 : Int) ++ List.replicate (8 * (((l ++ List.replicate z (0 : Int)).length + 7) / 8) - (l ++ List.replicate z (0 : Int)).length) (0 : Int)).take (8 * ((l.length + 7) / 8)) = flat (pack l) := by
    rw [flat_pack h, List.append_assoc, List.replicate_append_replicate, List.take_append, List.take_of_length_le (by omega), List.take_replicate]
    congr 2
    simp only [List.length_append, List.length_replicate]
    omega
  rw [h2, pack_flat' (pack_bytes h)]
theorem pack_snoc0 {l : List Int} (h : l.length % 8 = 0) (x : Int) : pack (l ++ [x]) = pack l ++ [x * 128] := by
  induction l using by_eight with
  | h0 => rw [List.nil_append, pack_short (by simp) (by simp), pack_nil]; simp [number, List.replicate]; omega
  | hs l e h8 => have := List.length_pos_iff.2 e; omega
  | hb l m h8 ih => rw [List.append_assoc, pack_block _ h8, pack_block _ h8, ih (by rw [List.length_append] at h; omega)]; rfl
theorem number_zeros (l : List Int) (n : Nat) : number (l ++ List.replicate n 0) = number l * 2 ^ n := by
  have h0 : number (List.replicate n 0) = 0 := by rw [← low_zero, number_low]; simp
  rw [number_append, List.length_replicate, h0, Int.add_zero]
theorem pack_snoc {l : List Int} (h : l.length % 8 ≠ 0) (x : Int) : pack (l ++ [x]) = (pack l).set (l.length / 8) ((pack l).getD (l.length / 8) 0 + x * 2 ^ (7 - l.length % 8)) := by
  induction l using by_eight with
  | h0 => simp at h
  | hs l e h8 =>
    rw [pack_short (by simp) (by simp; omega), pack_short e (by omega), show l.length / 8 = 0 from by omega, show l.length % 8 = l.length from by omega]
    simp only [List.set_cons_zero, List.getD_cons_zero, List.length_append, List.length_singleton]
    rw [number_zeros, number_zeros, number_snoc, show 8 - (l.length + 1) = 7 - l.length from by omega, show 8 - l.length = (7 - l.length) + 1 from by omega, Int.pow_succ, Int.add_mul]
    congr 2
    rw [Int.mul_comm 2 (number l), Int.mul_assoc, Int.mul_comm 2]
  | hb l m h8 ih =>
    rw [List.append_assoc, pack_block _ h8, pack_block _ h8, ih (by rw [List.length_append] at h; omega), List.length_append, h8, show (8 + m.length) / 8 = m.length / 8 + 1 from by omega, show (8 + m.length) % 8 = m.length % 8 from by omega]
    simp
theorem pack_mod8 {l : List Int} (h : l.length % 8 = 0) (m : List Int) : pack (l ++ m) = pack l ++ pack m := by
  induction l using by_eight with
  | h0 => simp [pack_nil]
  | hs l e h8 => have := List.length_pos_iff.2 e; omega
  | hb l m' h8 ih => rw [List.append_assoc, pack_block _ h8, pack_block _ h8, ih (by rw [List.length_append] at h; omega)]; rfl
theorem pack_last {l : List Int} (h : l.length % 8 ≠ 0) : ∃ t : Int, (pack l).getD (l.length / 8) 0 = t * 2 ^ (8 - l.length % 8) := by
  induction l using by_eight with
  | h0 => simp at h
  | hs l e h8 =>
    rw [pack_short e (by omega), show l.length / 8 = 0 from by omega, show l.length % 8 = l.length from by omega]
    exact ⟨number l, by simp only [List.getD_cons_zero]; rw [number_zeros]⟩
  | hb l m h8 ih =>
    obtain ⟨t, ht⟩ := ih (by rw [List.length_append] at h; omega)
    refine ⟨t, ?_⟩
    rw [pack_block _ h8, List.length_append, h8, show (8 + m.length) / 8 = m.length / 8 + 1 from by omega, show (8 + m.length) % 8 = m.length % 8 from by omega, ← ht]
    simp
theorem low_one (v : Int) : low v 1 = [v % 2] := rfl
theorem low_top (v : Int) (m : Nat) : low v (m + 1) = (v / 2 ^ m % 2) :: low v m := by
  rw [Nat.add_comm, low_append, low_one]; rfl
theorem pack_byte {l : List Int} (h : l.length % 8 ≠ 0) (c : Int) (hc : 0 ≤ c ∧ c < 256) : pack (l ++ low c 8) = (pack l).set (l.length / 8) ((pack l).getD (l.length / 8) 0 + c / 2 ^ (l.length % 8)) ++ [c * 2 ^ (8 - l.length % 8) % 256] := by
  induction l using by_eight with
  | h0 => simp at h
  | hs l e h8 =>
    have hp := List.length_pos_iff.2 e
    rw [pack_short e (by omega), show l.length / 8 = 0 from by omega, show l.length % 8 = l.length from by omega]
    simp only [List.set_cons_zero, List.getD_cons_zero]
    have hlow : low c 8 = low (c / 2 ^ l.length) (8 - l.length) ++ low c l.length := by
      rw [← low_append, show 8 - l.length + l.length = 8 from by omega]
    have hq : c / 2 ^ l.length % 2 ^ (8 - l.length) = c / 2 ^ l.length := by
      have h2 : (2 : Int) ^ l.length * 2 ^ (8 - l.length) = 256 := by rw [← Int.pow_add, show l.length + (8 - l.length) = 8 from by omega]; rfl
      have h3 := pow_pos l.length
      exact Int.emod_eq_of_lt (Int.ediv_nonneg hc.1 (by omega)) (Int.ediv_lt_of_lt_mul h3 (by rw [Int.mul_comm, h2]; exact hc.2))
    have hr : c % 2 ^ l.length * 2 ^ (8 - l.length) = c * 2 ^ (8 - l.length) % 256 := by
      have h2 : (2 : Int) ^ l.length * 2 ^ (8 - l.length) = 256 := by rw [← Int.pow_add, show l.length + (8 - l.length) = 8 from by omega]; rfl
      rw [← h2, Int.mul_comm c, Int.mul_comm (2 ^ l.length) (2 ^ (8 - l.length)), Int.mul_emod_mul_of_pos _ _ (pow_pos _), Int.mul_comm]
    rw [hlow, ← List.append_assoc, pack_block _ (by rw [List.length_append, low_length]; omega), pack_short (by intro h0; have := congrArg List.length h0; rw [low_length, List.length_nil] at this; omega) (by rw [low_length]; omega)]
    rw [low_length, number_zeros, number_zeros, number_append, low_length, number_low, number_low, hq, hr]
    rfl
  | hb l m h8 ih =>
    rw [List.append_assoc, pack_block _ h8, pack_block _ h8, ih (by rw [List.length_append] at h; omega), List.length_append, h8, show (8 + m.length) / 8 = m.length / 8 + 1 from by omega, show (8 + m.length) % 8 = m.length % 8 from by omega]
    simp
end Bs
namespace Ib
open Go
theorem wrap_u64 (n : Int) : IntKind.u64.wrap n = n % 18446744073709551616 := by simp [IntKind.wrap, IntKind.bits, IntKind.signed]
theorem wrap_u32 (n : Int) : IntKind.u32.wrap n = n % 4294967296 := by simp [IntKind.wrap, IntKind.bits, IntKind.signed]
theorem wrap_u8 (n : Int) : IntKind.u8.wrap n = n % 256 := by simp [IntKind.wrap, IntKind.bits, IntKind.signed]
theorem wrap_i64 (n : Int) : IntKind.i64.wrap n = (n + 9223372036854775808) % 18446744073709551616 - 9223372036854775808 := by
  simp [IntKind.wrap, IntKind.bits, IntKind.signed]
  split <;> omega
theorem wf_i64 {a : Int} (h : (Lit.int .i64 a).wf = true) : -9223372036854775808 ≤ a ∧ a < 9223372036854775808 := by
  simp [Lit.wf, IntKind.min, IntKind.max, IntKind.bits, IntKind.signed] at h; omega
theorem wf_u64 {a : Int} (h : (Lit.int .u64 a).wf = true) : 0 ≤ a ∧ a < 18446744073709551616 := by
  simp [Lit.wf, IntKind.min, IntKind.max, IntKind.bits, IntKind.signed] at h; omega
theorem wf_u8 {a : Int} (h : (Lit.int .u8 a).wf = true) : 0 ≤ a ∧ a < 256 := by
  simp [Lit.wf, IntKind.min, IntKind.max, IntKind.bits, IntKind.signed] at h; omega
theorem wf_u32 {a : Int} (h : (Lit.int .u32 a).wf = true) : 0 ≤ a ∧ a < 4294967296 := by
  simp [Lit.wf, IntKind.min, IntKind.max, IntKind.bits, IntKind.signed] at h; omega
theorem ofInt_toNat (w : Nat) (x : Int) (h0 : 0 ≤ x) (h : x < 2 ^ w) : (BitVec.ofInt w x).toNat = x.toNat := by
  rw [BitVec.toNat_ofInt]
  congr 1
  exact Int.emod_eq_of_lt h0 (by exact_mod_cast h)
theorem xor_u64 (x y : Int) (hx : 0 ≤ x ∧ x < 18446744073709551616) (hy : 0 ≤ y ∧ y < 18446744073709551616) : bits .xor .u64 x y = ((x.toNat ^^^ y.toNat : Nat) : Int) := by
  simp only [bits, wrap_u64]
  rw [show IntKind.u64.bits = 64 from rfl, BitVec.toNat_xor, ofInt_toNat 64 x hx.1 hx.2, ofInt_toNat 64 y hy.1 hy.2]
  have : x.toNat ^^^ y.toNat < 2 ^ 64 := Nat.xor_lt_two_pow (by omega) (by omega)
  omega
theorem xor_u64_ones (x : Int) (hx : 0 ≤ x ∧ x < 18446744073709551616) : bits .xor .u64 x 18446744073709551615 = 18446744073709551615 - x := by
  simp only [bits, wrap_u64]
  rw [show IntKind.u64.bits = 64 from rfl, show BitVec.ofInt 64 18446744073709551615 = BitVec.allOnes 64 from by decide, BitVec.xor_allOnes, BitVec.toNat_not, ofInt_toNat 64 x hx.1 hx.2]
  omega
theorem xor_u64_zero (x : Int) (hx : 0 ≤ x ∧ x < 18446744073709551616) : bits .xor .u64 x 0 = x := by
  rw [xor_u64 x 0 hx (by omega)]; simp; omega
theorem xor_i64_ones (x : Int) (hx : -9223372036854775808 ≤ x ∧ x < 9223372036854775808) : bits .xor .i64 x (-1) = -1 - x := by
  simp only [bits, wrap_i64]
  rw [show IntKind.i64.bits = 64 from rfl, show BitVec.ofInt 64 (-1) = BitVec.allOnes 64 from by decide, BitVec.xor_allOnes, BitVec.toNat_not, BitVec.toNat_ofInt]
  omega
theorem xor_i64_zero (x : Int) (hx : -9223372036854775808 ≤ x ∧ x < 9223372036854775808) : bits .xor .i64 x 0 = x := by
  simp only [bits, wrap_i64]
  rw [show IntKind.i64.bits = 64 from rfl, show BitVec.ofInt 64 0 = 0#64 from by decide, BitVec.xor_zero, BitVec.toNat_ofInt]
  omega
theorem and_u64 (x y : Int) (hx : 0 ≤ x ∧ x < 18446744073709551616) (hy : 0 ≤ y ∧ y < 18446744073709551616) : bits .and .u64 x y = ((x.toNat &&& y.toNat : Nat) : Int) := by
  simp only [bits, wrap_u64]
  rw [show IntKind.u64.bits = 64 from rfl, BitVec.toNat_and, ofInt_toNat 64 x hx.1 hx.2, ofInt_toNat 64 y hy.1 hy.2]
  have : x.toNat &&& y.toNat ≤ x.toNat := Nat.and_le_left
  omega
theorem and_u64_one (x : Int) (hx : 0 ≤ x ∧ x < 18446744073709551616) : bits .and .u64 x 1 = x % 2 := by
  rw [and_u64 x 1 hx (by omega)]
  rw [show (1 : Int).toNat = 2 ^ 1 - 1 from rfl, Nat.and_two_pow_sub_one_eq_mod]; omega
theorem or_u64 (x y : Int) (hx : 0 ≤ x ∧ x < 18446744073709551616) (hy : 0 ≤ y ∧ y < 18446744073709551616) : bits .or .u64 x y = ((x.toNat ||| y.toNat : Nat) : Int) := by
  simp only [bits, wrap_u64]
  rw [show IntKind.u64.bits = 64 from rfl, BitVec.toNat_or, ofInt_toNat 64 x hx.1 hx.2, ofInt_toNat 64 y hy.1 hy.2]
  have : x.toNat ||| y.toNat < 2 ^ 64 := Nat.or_lt_two_pow (by omega) (by omega)
  omega
end Ib
namespace Crc
abbrev Reg := BitVec 32
def step (v : Reg) : Reg := (v >>> 1) ^^^ (if v.getLsbD 0 then 0xedb88320#32 else 0#32)
def steps : Nat → Reg → Reg
  | 0, v => v
  | n + 1, v => steps n (step v)
def eat (v : Reg) (b : List Int) : Reg := b.foldl (fun v c => steps 8 (v ^^^ BitVec.ofInt 32 c)) v
theorem step_xor (a b : Reg) : step (a ^^^ b) = step a ^^^ step b := by
  unfold step
  rw [BitVec.ushiftRight_xor_distrib, BitVec.getLsbD_xor]
  cases a.getLsbD 0 <;> cases b.getLsbD 0 <;> simp [BitVec.xor_assoc]
  · rw [BitVec.xor_comm (0xedb88320#32) (b >>> 1)]
  · rw [← BitVec.xor_assoc (0xedb88320#32), BitVec.xor_comm (0xedb88320#32) (b >>> 1), BitVec.xor_assoc (b >>> 1), BitVec.xor_self, BitVec.xor_zero]
theorem step_zero {v : Reg} (h : step v = 0#32) : v = 0#32 := by
  have hm : (step v).getLsbD 31 = v.getLsbD 0 := by
    unfold step
    rw [BitVec.getLsbD_xor, BitVec.getLsbD_ushiftRight, BitVec.getLsbD_of_ge v (1 + 31) (by omega)]
    cases v.getLsbD 0 <;> simp <;> decide
  rw [h] at hm
  have h0 : v.getLsbD 0 = false := by rw [← hm]; simp
  have hs : v >>> 1 = 0#32 := by
    unfold step at h
    rw [h0] at h
    simpa using h
  apply BitVec.eq_of_getLsbD_eq
  intro i hi
  cases i with
  | zero => rw [h0]; simp
  | succ i =>
    have := congrArg (fun x : Reg => x.getLsbD i) hs
    simp only [BitVec.getLsbD_ushiftRight] at this
    rw [Nat.add_comm 1 i] at this
    rw [this]; simp
theorem steps_xor (n : Nat) : ∀ a b : Reg, steps n (a ^^^ b) = steps n a ^^^ steps n b := by
  induction n with
  | zero => intro a b; rfl
  | succ n ih => intro a b; rw [steps, step_xor, ih]; rfl
theorem steps_zero (n : Nat) : ∀ {v : Reg}, steps n v = 0#32 → v = 0#32 := by
  induction n with
  | zero => intro v h; exact h
  | succ n ih => intro v h; exact step_zero (ih h)
theorem steps_inj (n : Nat) {a b : Reg} (h : steps n a = steps n b) : a = b := by
  have : steps n (a ^^^ b) = 0#32 := by rw [steps_xor, h, BitVec.xor_self]
  have := steps_zero n this
  have h2 := congrArg (· ^^^ b) this
  simpa [BitVec.xor_assoc] using h2
theorem steps_add (m : Nat) : ∀ (n : Nat) (v : Reg), steps (n + m) v = steps m (steps n v) := by
  intro n
  induction n with
  | zero => intro v; rw [Nat.zero_add]; rfl
  | succ n ih => intro v; rw [show n + 1 + m = (n + m) + 1 from by omega, steps, ih]; rfl
theorem steps_low (n : Nat) : ∀ (v : Reg), (∀ i, i < n → v.getLsbD i = false) → steps n v = v >>> n := by
  induction n with
  | zero => intro v _; simp [steps]
  | succ n ih =>
    intro v h
    have h1 : step v = v >>> 1 := by unfold step; rw [h 0 (by omega)]; simp
    rw [steps, h1, ih]
    · apply BitVec.eq_of_getLsbD_eq
      intro i hi
      simp only [BitVec.getLsbD_ushiftRight]
      congr 1
      omega
    · intro i hi
      rw [BitVec.getLsbD_ushiftRight]
      exact h (1 + i) (by omega)
theorem eat_append (v : Reg) (a b : List Int) : eat v (a ++ b) = eat (eat v a) b := by simp [eat]
theorem eat_inj (b : List Int) : ∀ {u v : Reg}, eat u b = eat v b → u = v := by
  induction b with
  | nil => intro u v h; exact h
  | cons c b ih =>
    intro u v h
    have h1 : steps 8 (u ^^^ BitVec.ofInt 32 c) = steps 8 (v ^^^ BitVec.ofInt 32 c) := ih h
    have h2 := congrArg (· ^^^ BitVec.ofInt 32 c) (steps_inj 8 h1)
    simpa [BitVec.xor_assoc] using h2
theorem steps_in (n : Nat) (hn : n ≤ 32) (a c : Reg) (h : c.toNat < 2 ^ (32 - n)) : steps n a ^^^ c = steps n (a ^^^ (c <<< n)) := by
  rw [steps_xor]
  congr 1
  rw [steps_low n]
  · apply BitVec.eq_of_getLsbD_eq
    intro i hi
    rw [BitVec.getLsbD_ushiftRight, BitVec.getLsbD_shiftLeft]
    by_cases hc : n + i < 32
    · have h2 : n + i - n = i := by omega
      simp [hc, h2]
    · have : c.getLsbD i = false := by
        rw [BitVec.getLsbD]
        exact Nat.testBit_lt_two_pow (Nat.lt_of_lt_of_le h (Nat.pow_le_pow_right (by decide) (by omega)))
      simp [hc, this]
  · intro i hi
    rw [BitVec.getLsbD_shiftLeft]
    simp [hi]
def word (a b c d : Nat) : Reg := BitVec.ofNat 32 a ^^^ (BitVec.ofNat 32 b <<< 8) ^^^ (BitVec.ofNat 32 c <<< 16) ^^^ (BitVec.ofNat 32 d <<< 24)
theorem ofNat_small {c n : Nat} (h : c < 256) (hn : n ≤ 24) : (BitVec.ofNat 32 c).toNat < 2 ^ (32 - n) := by
  rw [BitVec.toNat_ofNat]
  have : 2 ^ 8 ≤ 2 ^ (32 - n) := Nat.pow_le_pow_right (by decide) (by omega)
  omega
theorem eat_four (v : Reg) (a b c d : Nat) (hb : b < 256) (hc : c < 256) (hd : d < 256) : eat v [(a : Int), (b : Int), (c : Int), (d : Int)] = steps 32 (v ^^^ word a b c d) := by
  simp only [eat, List.foldl_cons, List.foldl_nil, BitVec.ofInt_natCast]
  rw [steps_in 8 (by decide) _ _ (ofNat_small hb (by decide)), ← steps_add 8 8, steps_in 16 (by decide) _ _ (ofNat_small hc (by decide)), ← steps_add 8 16, steps_in 24 (by decide) _ _ (ofNat_small hd (by decide)), ← steps_add 8 24]
  simp only [word, BitVec.xor_assoc]
theorem word_of (n : Nat) : word (n % 256) (n / 256 % 256) (n / 65536 % 256) (n / 16777216 % 256) = BitVec.ofNat 32 n := by
  have bit : ∀ (m i : Nat), (m % 256).testBit i = (decide (i < 8) && m.testBit i) := fun m i => by
    rw [show (256 : Nat) = 2 ^ 8 from rfl, Nat.testBit_mod_two_pow]
  have sh : ∀ (j i : Nat), (n / 2 ^ j).testBit i = n.testBit (j + i) := fun j i => by
    rw [← Nat.shiftRight_eq_div_pow, Nat.testBit_shiftRight]
  apply BitVec.eq_of_getLsbD_eq
  intro i hi
  simp only [word, BitVec.getLsbD_xor, BitVec.getLsbD_shiftLeft, BitVec.getLsbD_ofNat, bit]
  rw [show (256 : Nat) = 2 ^ 8 from rfl, show (65536 : Nat) = 2 ^ 16 from rfl, show (16777216 : Nat) = 2 ^ 24 from rfl, sh, sh, sh]
  by_cases h8 : i < 8
  · simp [h8, hi, show i < 16 from by omega, show i < 24 from by omega]
  · by_cases h16 : i < 16
    · simp [h8, h16, hi, show i < 24 from by omega, show i - 8 < 8 from by omega, show i - 8 < 32 from by omega, show 8 + (i - 8) = i from by omega]
    · by_cases h24 : i < 24
      · simp [h8, h16, h24, hi, show ¬ (i - 8 < 8) from by omega, show i - 16 < 8 from by omega, show i - 16 < 32 from by omega, show 16 + (i - 16) = i from by omega]
      · simp [h8, h16, h24, hi, show ¬ (i - 8 < 8) from by omega, show ¬ (i - 16 < 8) from by omega, show i - 24 < 8 from by omega, show i - 24 < 32 from by omega, show 24 + (i - 24) = i from by omega]
theorem word_xor (a b c d a' b' c' d' : Nat) : word (a ^^^ a') (b ^^^ b') (c ^^^ c') (d ^^^ d') = word a b c d ^^^ word a' b' c' d' := by
  have e : ∀ x y : Nat, BitVec.ofNat 32 (x ^^^ y) = BitVec.ofNat 32 x ^^^ BitVec.ofNat 32 y := fun x y => by
    apply BitVec.eq_of_getLsbD_eq
    intro i hi
    simp [Nat.testBit_xor, hi]
  simp only [word, e, BitVec.shiftLeft_xor_distrib]
  apply BitVec.eq_of_getLsbD_eq
  intro i hi
  simp only [BitVec.getLsbD_xor]
  generalize (BitVec.ofNat 32 a).getLsbD i = p1
  generalize (BitVec.ofNat 32 a').getLsbD i = p2
  generalize (BitVec.ofNat 32 b <<< 8).getLsbD i = p3
  generalize (BitVec.ofNat 32 b' <<< 8).getLsbD i = p4
  generalize (BitVec.ofNat 32 c <<< 16).getLsbD i = p5
  generalize (BitVec.ofNat 32 c' <<< 16).getLsbD i = p6
  generalize (BitVec.ofNat 32 d <<< 24).getLsbD i = p7
  generalize (BitVec.ofNat 32 d' <<< 24).getLsbD i = p8
  revert p1 p2 p3 p4 p5 p6 p7 p8
  decide
theorem turned (v : Reg) (x y : Nat) (b : List Int) (hy : y < 2 ^ 32) (c0 c1 c2 c3 : Nat) (h0 : c0 = (x % 256) ^^^ (y % 256)) (h1 : c1 = (x / 256 % 256) ^^^ (y / 256 % 256)) (h2 : c2 = (x / 65536 % 256) ^^^ (y / 65536 % 256)) (h3 : c3 = (x / 16777216 % 256) ^^^ (y / 16777216 % 256)) :
    eat v ([((x % 256 : Nat) : Int), ((x / 256 % 256 : Nat) : Int), ((x / 65536 % 256 : Nat) : Int), ((x / 16777216 % 256 : Nat) : Int)] ++ b) = eat v ([(c0 : Int), (c1 : Int), (c2 : Int), (c3 : Int)] ++ b) ↔ y = 0 := by
  have lt : ∀ p q : Nat, (p % 256) ^^^ (q % 256) < 256 := fun p q => by
    have := Nat.xor_lt_two_pow (n := 8) (show p % 256 < 2 ^ 8 by omega) (show q % 256 < 2 ^ 8 by omega)
    simpa using this
  rw [eat_append, eat_append, eat_four _ _ _ _ _ (by omega) (by omega) (by omega), eat_four _ _ _ _ _ (by rw [h1]; exact lt _ _) (by rw [h2]; exact lt _ _) (by rw [h3]; exact lt _ _), h0, h1, h2, h3, word_xor, word_of, word_of]
  constructor
  · intro h
    have h1 := steps_inj 32 (eat_inj b h)
    have h2 : BitVec.ofNat 32 y = 0#32 := by
      have := congrArg (fun z => BitVec.ofNat 32 x ^^^ (v ^^^ z)) h1
      simpa [← BitVec.xor_assoc] using (by
        have h3 := congrArg (fun z => (v ^^^ BitVec.ofNat 32 x) ^^^ z) h1
        simp only [BitVec.xor_self] at h3
        rw [← BitVec.xor_assoc v, ← BitVec.xor_assoc (v ^^^ BitVec.ofNat 32 x), BitVec.xor_self, BitVec.zero_xor] at h3
        exact h3.symm : BitVec.ofNat 32 y = 0#32)
    have h3 := congrArg BitVec.toNat h2
    rw [BitVec.toNat_ofNat, Nat.mod_eq_of_lt hy] at h3
    exact h3
  · intro h
    rw [h]
    simp
end Crc
namespace Go.Proofs.Ytiahbcaoikoogaa.PCrc
open Go Go.RowKit Go.Proofs.Ytiahbcaoikoogaa.All Go.Proofs.YtiahbcaoikoogaaW.PrintWords Go.Proofs.YtiahbcaoikoogaaW.PrintLast
theorem xor_ofInt (a : BitVec 32) (y : Int) : Go.bits .xor .u32 (a.toNat : Int) y = ((a ^^^ BitVec.ofInt 32 y).toNat : Int) := by
  show IntKind.u32.wrap (((BitVec.ofInt 32 (a.toNat : Int)) ^^^ (BitVec.ofInt 32 y)).toNat : Int) = _
  rw [Ib.wrap_u32, BitVec.ofInt_natCast, BitVec.ofNat_toNat, BitVec.setWidth_eq]
  have := (a ^^^ BitVec.ofInt 32 y).isLt
  omega
theorem xor_bv (a b : BitVec 32) : Go.bits .xor .u32 (a.toNat : Int) (b.toNat : Int) = ((a ^^^ b).toNat : Int) := by
  rw [xor_ofInt, BitVec.ofInt_natCast, BitVec.ofNat_toNat, BitVec.setWidth_eq]
theorem ofInt_mod (y : Int) : BitVec.ofInt 32 (y % 4294967296) = BitVec.ofInt 32 y := by
  apply BitVec.eq_of_toNat_eq
  rw [BitVec.toNat_ofInt, BitVec.toNat_ofInt]
  congr 1
  omega
theorem toNat_half (a : BitVec 32) : (a.toNat : Int) / (2 : Int) = (((a >>> 1).toNat : Nat) : Int) := by
  rw [BitVec.toNat_ushiftRight, Nat.shiftRight_eq_div_pow]; omega
theorem bit0 (a : BitVec 32) : a.getLsbD 0 = decide (a.toNat % 2 = 1) := by
  rw [BitVec.getLsbD, Nat.testBit_zero]
theorem step_impl (a : BitVec 32) : Go.bits .xor .u32 ((a.toNat : Int) / 2) (Go.bits .and .u32 ((-(Go.bits .and .u32 (a.toNat : Int) 1)) % 4294967296) 3988292384) = ((Crc.step a).toNat : Int) := by
  have h1 : Go.bits .and .u32 (a.toNat : Int) 1 = (a.toNat : Int) % 2 := by
    show IntKind.u32.wrap (((BitVec.ofInt 32 (a.toNat : Int)) &&& (BitVec.ofInt 32 1)).toNat : Int) = _
    rw [Ib.wrap_u32, BitVec.ofInt_natCast, BitVec.ofNat_toNat, BitVec.setWidth_eq, show BitVec.ofInt 32 1 = 1#32 from by decide, BitVec.toNat_and, show (1#32).toNat = 2 ^ 1 - 1 from rfl, Nat.and_two_pow_sub_one_eq_mod]
    omega
  rw [h1, toNat_half]
  unfold Crc.step
  rw [bit0]
  by_cases h : a.toNat % 2 = 1
  · rw [show (a.toNat : Int) % 2 = 1 from by omega, show Go.bits .and .u32 ((-(1 : Int)) % 4294967296) 3988292384 = ((3988292384#32).toNat : Int) from by decide, xor_bv]
    simp [h]
  · rw [show (a.toNat : Int) % 2 = 0 from by omega, show Go.bits .and .u32 ((-(0 : Int)) % 4294967296) 3988292384 = ((0#32).toNat : Int) from by decide, xor_bv]
    simp [h]
theorem sum_l1 (xs : List Int) (x8 : Int) (r : Int) : ∀ (j : Nat) (a : BitVec 32), j ≤ 8 → Ev (fun k => crc_Sum.l0 k ((Crc.steps j a).toNat : Int) xs (xs.length : Int) (wrap64 (x8 + 1))) r →
    Ev (fun k => crc_Sum.l1 k (a.toNat : Int) xs (xs.length : Int) x8 ((8 - j : Nat) : Int)) r := by
  intro j
  induction j with
  | zero => intro a _ h; exact Ev.step (fun k => by simp only [crc_Sum.l1]; rw [if_neg (by omega)]; rfl) h
  | succ j ih =>
    intro a hj h
    refine Ev.step (fun k => ?_) (ih (Crc.step a) (by omega) h)
    simp only [crc_Sum.l1]
    rw [if_pos (by omega), step_impl]
    congr 1
    unfold wrap64; omega
theorem sum_l0 (xs : List Int) (hl : xs.length ≤ 140737488355328) : ∀ (d i : Nat) (a : BitVec 32), i + d = xs.length → Ev (fun k => crc_Sum.l0 k (a.toNat : Int) xs (xs.length : Int) (i : Int)) ((~~~ (Crc.eat a (xs.drop i))).toNat : Int) := by
  intro d
  induction d with
  | zero =>
    intro i a hi
    refine Ev.step (fun k => ?_) (Ev.now _)
    simp only [crc_Sum.l0]
    rw [if_neg (by omega), List.drop_eq_nil_of_le (by omega)]
    rw [show (4294967295 : Int) = ((BitVec.allOnes 32).toNat : Int) from by decide, xor_bv, BitVec.allOnes_xor]
    rfl
  | succ d ih =>
    intro i a hi
    have hlt : i < xs.length := by omega
    have hd : xs.drop i = xs[i] :: xs.drop (i + 1) := List.drop_eq_getElem_cons hlt
    have hrd : rd xs (i : Int) = xs[i] := by simp [rd, List.getD_eq_getElem?_getD, hlt]
    have := ih (i + 1) (Crc.steps 8 (a ^^^ BitVec.ofInt 32 xs[i])) (by omega)
    rw [hd]
    refine Ev.step (fun k => ?_) (sum_l1 xs (i : Int) _ 8 (a ^^^ BitVec.ofInt 32 xs[i]) (by omega) ?_)
    · simp only [crc_Sum.l0]
      rw [if_pos (by omega), if_pos (by omega), if_pos (by omega), hrd, xor_ofInt, ofInt_mod]
      rfl
    · rw [show wrap64 ((i : Int) + 1) = ((i + 1 : Nat) : Int) from by unfold wrap64; omega]
      exact this
theorem sum_is (xs : List Int) (hl : xs.length ≤ 140737488355328) : Ev (fun k => crc_Sum.f k xs) ((~~~ (Crc.eat (BitVec.allOnes 32) xs)).toNat : Int) :=
  sum_l0 xs hl xs.length 0 (BitVec.allOnes 32) (by omega)
theorem step_ref (a : BitVec 32) : (if (Int.tmod (a.toNat : Int) 2) = 1 then Go.bits .xor .u32 ((Int.tdiv (a.toNat : Int) 2) % 4294967296) 3988292384 else (Int.tdiv (a.toNat : Int) 2) % 4294967296) = ((Crc.step a).toNat : Int) := by
  have ha := a.isLt
  rw [Int.tmod_eq_emod_of_nonneg (by omega), Int.tdiv_eq_ediv_of_nonneg (by omega), show ((a.toNat : Int) / 2) % 4294967296 = (a.toNat : Int) / 2 from by omega, toNat_half]
  unfold Crc.step
  rw [bit0]
  by_cases h : a.toNat % 2 = 1
  · rw [if_pos (by omega), show (3988292384 : Int) = ((3988292384#32).toNat : Int) from by decide, xor_bv]
    simp [h]
  · rw [if_neg (by omega)]
    simp [h]
theorem ref_l1 (xs : List Int) (x4 : Int) (r : Int) : ∀ (j : Nat) (a : BitVec 32), j ≤ 8 → Ev (fun k => gaiterref09_Sum.l0 k xs ((Crc.steps j a).toNat : Int) (wrap64 (x4 + 1))) r →
    Ev (fun k => gaiterref09_Sum.l1 k xs (a.toNat : Int) x4 ((8 - j : Nat) : Int)) r := by
  intro j
  induction j with
  | zero => intro a _ h; exact Ev.step (fun k => by simp only [gaiterref09_Sum.l1]; rw [if_neg (by omega)]; rfl) h
  | succ j ih =>
    intro a hj h
    refine Ev.step (fun k => ?_) (ih (Crc.step a) (by omega) h)
    simp only [gaiterref09_Sum.l1]
    rw [if_pos (by omega), ← step_ref, show wrap64 (((8 - (j + 1) : Nat) : Int) + 1) = ((8 - j : Nat) : Int) from by unfold wrap64; omega]
    split <;> rfl
theorem ref_l0 (xs : List Int) (hl : xs.length ≤ 140737488355328) : ∀ (d i : Nat) (a : BitVec 32), i + d = xs.length → Ev (fun k => gaiterref09_Sum.l0 k xs (a.toNat : Int) (i : Int)) ((~~~ (Crc.eat a (xs.drop i))).toNat : Int) := by
  intro d
  induction d with
  | zero =>
    intro i a hi
    refine Ev.step (fun k => ?_) (Ev.now _)
    simp only [gaiterref09_Sum.l0]
    rw [if_neg (by omega), List.drop_eq_nil_of_le (by omega)]
    have ha := a.isLt
    rw [show Crc.eat a [] = a from rfl, BitVec.toNat_not]
    congr 1
    omega
  | succ d ih =>
    intro i a hi
    have hlt : i < xs.length := by omega
    have hd : xs.drop i = xs[i] :: xs.drop (i + 1) := List.drop_eq_getElem_cons hlt
    have hrd : rd xs (i : Int) = xs[i] := by simp [rd, List.getD_eq_getElem?_getD, hlt]
    have := ih (i + 1) (Crc.steps 8 (a ^^^ BitVec.ofInt 32 xs[i])) (by omega)
    rw [hd]
    refine Ev.step (fun k => ?_) (ref_l1 xs (i : Int) _ 8 (a ^^^ BitVec.ofInt 32 xs[i]) (by omega) ?_)
    · simp only [gaiterref09_Sum.l0]
      rw [if_pos (by omega), if_pos (by omega), hrd, xor_ofInt, ofInt_mod]
      rfl
    · rw [show wrap64 ((i : Int) + 1) = ((i + 1 : Nat) : Int) from by unfold wrap64; omega]
      exact this
theorem ref_is (xs : List Int) (hl : xs.length ≤ 140737488355328) : Ev (fun k => gaiterref09_Sum.f k xs) ((~~~ (Crc.eat (BitVec.allOnes 32) xs)).toNat : Int) :=
  ref_l0 xs hl xs.length 0 (BitVec.allOnes 32) (by omega)
end Go.Proofs.Ytiahbcaoikoogaa.PCrc
namespace Go.Proofs.Ytiahbcaoikoogaa.PUvar
open Go Go.RowKit Go.Proofs.Ytiahbcaoikoogaa Go.Proofs.Ytiahbcaoikoogaa.All Go.Proofs.YtiahbcaoikoogaaW.PrintWords Go.Proofs.YtiahbcaoikoogaaW.PrintLast
theorem w64 (n : Int) (h : -9223372036854775808 ≤ n ∧ n < 9223372036854775808) : wrap64 n = n := by unfold wrap64; omega
theorem wr_succ (i : Nat) (h : i < 140737488355328) : wrap64 ((i : Int) + 1) = ((i + 1 : Nat) : Int) := by rw [w64 _ (by omega)]; omega
theorem pow_pos (n : Nat) : (0 : Int) < 128 ^ n := Int.pow_pos (by decide)
theorem pow_le {i n : Nat} (h : i ≤ n) : (128 : Int) ^ i ≤ 128 ^ n := by
  rw [show n = i + (n - i) from by omega, Int.pow_add]
  have h1 := pow_pos i; have h2 := pow_pos (n - i)
  have := Int.mul_le_mul_of_nonneg_left (show (1 : Int) ≤ 128 ^ (n - i) by omega) (Int.le_of_lt h1)
  omega
theorem pow_9 {n : Nat} (h : n ≤ 9) : (128 : Int) ^ n ≤ 9223372036854775808 := by
  have := pow_le h
  rwa [show (128 : Int) ^ 9 = 9223372036854775808 from by decide] at this
def uvd : Nat → Int → List Int
  | 0, v => [v]
  | f + 1, v => if v ≥ 128 then (v % 128 + 128) :: uvd f (v / 128) else [v]
def uv (v : Int) : List Int := uvd 9 v
theorem or_128 (c : Int) (hc : 0 ≤ c ∧ c < 256) : Go.bits .or .u8 c 128 = c % 128 + 128 := by
  have h : ∀ c : Fin 256, Go.bits .or .u8 ((c.val : Nat) : Int) 128 = ((c.val : Nat) : Int) % 128 + 128 := by decide +kernel
  have := h ⟨c.toNat, by omega⟩
  rw [show ((c.toNat : Nat) : Int) = c from by omega] at this
  exact this
theorem and_127 (c : Int) (hc : 0 ≤ c ∧ c < 256) : Go.bits .and .u8 c 127 = c % 128 := by
  have h : ∀ c : Fin 256, Go.bits .and .u8 ((c.val : Nat) : Int) 127 = ((c.val : Nat) : Int) % 128 := by decide +kernel
  have := h ⟨c.toNat, by omega⟩
  rw [show ((c.toNat : Nat) : Int) = c from by omega] at this
  exact this
theorem Put_l0 : ∀ (f : Nat) (v : Int) (acc : List Int), 0 ≤ v → v < 128 ^ (f + 1) → acc.length + f < 140737488355328 → Ev (fun k => uvar_Put.l0 k v acc) (acc ++ uvd f v) := by
  intro f
  induction f with
  | zero =>
    intro v acc h0 hv hl
    have h1 : v < 128 := hv
    have hno : ¬ v ≥ 128 := by omega
    have hl' : acc.length < 140737488355328 := by omega
    refine Ev.step (fun k => by rw [uvar_Put.l0]) ?_
    simp only [if_neg hno, if_pos hl', show v % 256 = v from by omega]
    exact Ev.now _
  | succ f ih =>
    intro v acc h0 hv hl
    have hl' : acc.length < 140737488355328 := by omega
    refine Ev.step (fun k => by rw [uvar_Put.l0]) ?_
    by_cases c : v ≥ 128
    · have hd : v / 128 < 128 ^ (f + 1) := Int.ediv_lt_of_lt_mul (by decide) (by rw [← Int.pow_succ]; exact hv)
      have := ih (v / 128) (acc ++ [v % 128 + 128]) (by omega) hd (by rw [List.length_append, List.length_singleton]; omega)
      simp only [if_pos c, if_pos hl']
      rw [or_128 _ (by omega), show v % 256 % 128 = v % 128 from by omega]
      rw [List.append_assoc] at this
      simp only [uvd, if_pos c]
      exact this
    · simp only [if_neg c, if_pos hl', uvd, show v % 256 = v from by omega]
      exact Ev.now _
theorem Put_is (v : Int) (hv : 0 ≤ v ∧ v < 18446744073709551616) : Ev (fun k => uvar_Put.f k v) (uv v) := by
  have h : v < 128 ^ (9 + 1) := by rw [show (128 : Int) ^ (9 + 1) = 1180591620717411303424 from by decide]; omega
  exact Put_l0 9 v [] hv.1 h (by simp)
def val (ys : List Int) : Nat → Int
  | 0 => 0
  | n + 1 => val ys n + rd ys (n : Int) % 128 * 128 ^ n
structure Top (ys : List Int) (n : Nat) : Prop where
  ten : n ≤ 10
  len : n ≤ ys.length
  big : ∀ j, j < n → 128 ≤ rd ys (j : Int)
  stop : n = 10 ∨ n = ys.length ∨ rd ys (n : Int) < 128
theorem top_is (ys : List Int) : ∀ (d i : Nat), i + d = 10 → i ≤ ys.length → (∀ j, j < i → 128 ≤ rd ys (j : Int)) → ∃ n, Top ys n := by
  intro d
  induction d with
  | zero => intro i hi hl h; exact ⟨i, by omega, hl, h, .inl (by omega)⟩
  | succ d ih =>
    intro i hi hl h
    by_cases c : i = ys.length
    · exact ⟨i, by omega, hl, h, .inr (.inl c)⟩
    by_cases c2 : rd ys (i : Int) < 128
    · exact ⟨i, by omega, hl, h, .inr (.inr c2)⟩
    · refine ih (i + 1) (by omega) (by omega) (fun j hj => ?_)
      by_cases e : j = i
      · rw [e]; omega
      · exact h j (by omega)
theorem top (ys : List Int) : ∃ n, Top ys n := top_is ys 10 0 (by omega) (by omega) (fun j hj => by omega)
theorem rd_byte {ys : List Int} (hy : Bs.Bytes ys) (i : Nat) : 0 ≤ rd ys (i : Int) ∧ rd ys (i : Int) < 256 := by
  unfold rd
  rw [Int.toNat_natCast, List.getD_eq_getElem?_getD]
  by_cases h : i < ys.length
  · rw [List.getElem?_eq_getElem h]; exact hy _ (List.getElem_mem h)
  · rw [List.getElem?_eq_none (by omega)]; decide
theorem val_range {ys : List Int} (hy : Bs.Bytes ys) : ∀ n, 0 ≤ val ys n ∧ val ys n < 128 ^ n := by
  intro n
  induction n with
  | zero => exact ⟨by simp [val], by simp [val]⟩
  | succ n ih =>
    have hc := rd_byte hy n
    have hp := pow_pos n
    have h1 : 0 ≤ rd ys (n : Int) % 128 ∧ rd ys (n : Int) % 128 ≤ 127 := by omega
    have h2 := Int.mul_nonneg h1.1 (Int.le_of_lt hp)
    have h3 := Int.mul_le_mul_of_nonneg_right h1.2 (Int.le_of_lt hp)
    simp only [val]
    rw [Int.pow_succ]
    omega
theorem step_is (v c : Int) (i : Nat) (hi : i ≤ 9) (hv : 0 ≤ v ∧ v < 128 ^ i) (hc : 0 ≤ c ∧ c < 256) (h9 : i = 9 → c ≤ 1) :
    Go.bits .or .u64 v (shl .u64 (IntKind.u64.wrap (Go.bits .and .u8 c 127)) (wrap64 (7 * (i : Int)))) = v + c % 128 * 128 ^ i := by
  have hp := pow_pos i
  have h9' := pow_9 hi
  have h1 : 0 ≤ c % 128 ∧ c % 128 ≤ 127 := by omega
  have h2 := Int.mul_nonneg h1.1 (Int.le_of_lt hp)
  have h3 : c % 128 * 128 ^ i ≤ 9223372036854775808 := by
    by_cases e : i = 9
    · have h4 := Int.mul_le_mul_of_nonneg_right (show c % 128 ≤ 1 by have := h9 e; omega) (Int.le_of_lt hp)
      omega
    · have h4 := Int.mul_le_mul_of_nonneg_right h1.2 (Int.le_of_lt hp)
      have h5 := pow_le (show i ≤ 8 by omega)
      rw [show (128 : Int) ^ 8 = 72057594037927936 from by decide] at h5
      omega
  rw [and_127 c hc, Ib.wrap_u64, show c % 128 % 18446744073709551616 = c % 128 from by omega, w64 _ (by omega)]
  have h6 : shl .u64 (c % 128) (7 * (i : Int)) = c % 128 * 128 ^ i := by
    unfold shl
    rw [show (7 * (i : Int)).toNat = 7 * i from by omega, show IntKind.u64.bits = 64 from rfl, Nat.min_eq_left (by omega), Int.pow_mul, show (2 : Int) ^ 7 = 128 from by decide, Ib.wrap_u64]
    exact Int.emod_eq_of_lt h2 (by omega)
  rw [h6, Ib.or_u64 _ _ (by omega) (by omega)]
  obtain ⟨a, ha⟩ := Int.eq_ofNat_of_zero_le h1.1
  obtain ⟨b, rfl⟩ := Int.eq_ofNat_of_zero_le hv.1
  rw [ha]
  have h7 : ((a : Int) * 128 ^ i) = ((2 ^ (7 * i) * a : Nat) : Int) := by
    push_cast
    rw [Int.pow_mul, show (2 : Int) ^ 7 = 128 from by decide, Int.mul_comm]
  have h8 : b < 2 ^ (7 * i) := by
    have := hv.2
    rw [show (128 : Int) ^ i = ((2 ^ (7 * i) : Nat) : Int) from by push_cast; rw [Int.pow_mul]; rfl] at this
    exact Int.ofNat_lt.1 this
  rw [h7, Int.toNat_natCast, Int.toNat_natCast, Nat.or_comm, ← Nat.two_pow_add_eq_or_of_lt h8]
  push_cast
  omega
def gspec (ys : List Int) (n : Nat) : Int × Int × Int :=
  if n = ys.length ∧ n < 10 then (0, 0, 2)
  else if n = 10 ∨ (n = 9 ∧ rd ys 9 > 1) then (0, 0, 3)
  else if 0 < n ∧ rd ys (n : Int) = 0 then (0, 0, 3)
  else (val ys (n + 1), ((n + 1 : Nat) : Int), 0)
def er (c : Int) : Option Int := if c = 0 then none else some c
def gimp (g : Int × Int × Int) : Int × Int × Option Int := (g.1, g.2.1, er g.2.2)
theorem Get_l0 (ys : List Int) (hy : Bs.Bytes ys) (hl : ys.length < 140737488355328) (n : Nat) (hT : Top ys n) : ∀ (d i : Nat), i + d = n → i ≤ 9 →
    Ev (fun k => uvar_Get.l0 k (val ys i) ys (ys.length : Int) (i : Int)) (gimp (gspec ys n)) := by
  intro d
  induction d with
  | zero =>
    intro i hi h9
    obtain rfl : i = n := by omega
    have hc := rd_byte hy i
    have hv := val_range hy i
    have hst := hT.stop
    have hln := hT.len
    by_cases c1 : i = ys.length
    · have hno : ¬ ((i : Int) < (ys.length : Int)) := by omega
      refine Ev.step (fun k => by rw [uvar_Get.l0]) ?_
      simp only [if_neg hno]
      rw [gspec, if_pos ⟨c1, by omega⟩]
      exact Ev.now _
    have hin : (i : Int) < (ys.length : Int) := by omega
    have hsm : rd ys (i : Int) < 128 := by omega
    have h7 : 0 ≤ wrap64 (7 * (i : Int)) := by rw [w64 _ (by omega)]; omega
    have hws := wr_succ i (by omega)
    have key : (i = 9 → rd ys (i : Int) ≤ 1) → Ev (fun k => uvar_Get.j2 k (val ys i) (i : Int) (rd ys (i : Int)) ys (ys.length : Int) (i : Int) false) (gimp (gspec ys i)) := by
      intro h1
      have hs := step_is (val ys i) _ i h9 hv hc h1
      have hg : gspec ys i = if 0 < i ∧ rd ys (i : Int) = 0 then (0, 0, 3) else (val ys (i + 1), ((i + 1 : Nat) : Int), 0) := by
        rw [gspec, if_neg (by omega), if_neg]
        rintro (h | ⟨h, h'⟩)
        · omega
        · subst h
          have := h1 rfl
          exact absurd h' (by have e : rd ys ((9 : Nat) : Int) = rd ys 9 := rfl; omega)
      rw [hg]
      refine Ev.step (fun k => by rw [uvar_Get.j2]) ?_
      simp only [Bool.false_eq_true, if_false, if_pos h7, if_pos hsm, hs, hws]
      by_cases c2 : (i : Int) > 0
      · have c2' : 0 < i := by omega
        simp only [if_pos c2]
        by_cases c3 : rd ys (i : Int) = 0
        · simp only [if_pos c3]
          rw [if_pos ⟨c2', c3⟩]
          exact Ev.now _
        · simp only [if_neg c3]
          rw [if_neg (fun h => c3 h.2)]
          exact Ev.now _
      · simp only [if_neg c2]
        rw [if_neg (fun h => c2 (by omega))]
        exact Ev.now _
    refine Ev.step (fun k => by rw [uvar_Get.l0]) ?_
    simp only [if_pos hin, if_pos (Int.natCast_nonneg i)]
    by_cases c2 : (i : Int) = 9
    · have c2' : i = 9 := by omega
      simp only [if_pos c2]
      by_cases c3 : rd ys (i : Int) > 1
      · rw [decide_eq_true c3]
        refine Ev.step (fun k => by rw [uvar_Get.j2]) ?_
        simp only [if_true]
        rw [gspec, if_neg (by omega), if_pos (.inr ⟨c2', by rw [c2] at c3; exact c3⟩)]
        exact Ev.now _
      · rw [decide_eq_false c3]
        exact key (fun _ => by omega)
    · simp only [if_neg c2]
      exact key (fun h => absurd h (by omega))
  | succ d ih =>
    intro i hi h9
    have hc := rd_byte hy i
    have hv := val_range hy i
    have hln := hT.len
    have hten := hT.ten
    have hbg := hT.big i (by omega)
    have hin : (i : Int) < (ys.length : Int) := by omega
    have h7 : 0 ≤ wrap64 (7 * (i : Int)) := by rw [w64 _ (by omega)]; omega
    have hsm : ¬ rd ys (i : Int) < 128 := by omega
    have hws := wr_succ i (by omega)
    refine Ev.step (fun k => by rw [uvar_Get.l0]) ?_
    simp only [if_pos hin, if_pos (Int.natCast_nonneg i)]
    by_cases c2 : (i : Int) = 9
    · have c3 : rd ys (i : Int) > 1 := by omega
      simp only [if_pos c2]
      rw [decide_eq_true c3]
      refine Ev.step (fun k => by rw [uvar_Get.j2]) ?_
      simp only [if_true]
      rw [gspec, if_neg (by omega), if_pos (.inl (by omega))]
      exact Ev.now _
    · have hid : i + 1 + d = n := by omega
      have hi9 : i + 1 ≤ 9 := by omega
      have hs := step_is (val ys i) _ i h9 hv hc (fun h => absurd h (by omega))
      have hih := ih (i + 1) hid hi9
      simp only [if_neg c2]
      refine Ev.step (fun k => by rw [uvar_Get.j2]) ?_
      simp only [Bool.false_eq_true, if_false, if_pos h7, if_neg hsm, hs, hws]
      exact hih
theorem Get_is (xs : List Int) (hx : Bs.Bytes xs) (hl : xs.length < 140737488355328) (a : Int) : 
    Ev (fun k => uvar_Get.f k xs a) (if a < 0 ∨ a > (xs.length : Int) then (0, 0, some 2) else gimp (gspec (xs.drop a.toNat) (Classical.choose (top (xs.drop a.toNat))))) := by
  unfold uvar_Get.f
  by_cases c1 : a < 0
  · simp only [if_pos c1]
    rw [if_pos (.inl c1)]
    exact Ev.step (fun k => by rw [uvar_Get.j0]) (by simp only [if_true]; exact Ev.now _)
  by_cases c2 : a > (xs.length : Int)
  · simp only [if_neg c1]
    rw [if_pos (.inr c2), decide_eq_true c2]
    exact Ev.step (fun k => by rw [uvar_Get.j0]) (by simp only [if_true]; exact Ev.now _)
  rw [if_neg (by omega), decide_eq_false c2]
  simp only [if_neg c1]
  have h0 : 0 ≤ a := by omega
  have h1 : a ≤ (xs.length : Int) := by omega
  refine Ev.step (fun k => by rw [uvar_Get.j0]) ?_
  simp only [Bool.false_eq_true, if_false, if_pos h0, if_pos h1]
  exact Get_l0 _ (hx.drop _) (by rw [List.length_drop]; omega) _ (Classical.choose_spec (top (xs.drop a.toNat))) _ 0 (Nat.zero_add _) (by omega)
theorem RGet_l1 (ys : List Int) (hy : Bs.Bytes ys) (n : Nat) (hn : n ≤ 9) (hlen : n < ys.length) (hV : val ys (n + 1) < 18446744073709551616) : ∀ (j : Nat) (w : Int), j ≤ n + 1 → 0 ≤ w → w * 128 ^ j + val ys j = val ys (n + 1) →
    Ev (fun k => gaiterref01_GetUvar.l1 k ys (n : Int) w ((j : Int) - 1)) (val ys (n + 1), ((n + 1 : Nat) : Int), 0) := by
  intro j
  induction j with
  | zero =>
    intro w hj h0 hw
    have hws := wr_succ n (by omega)
    have hno : ¬ (((0 : Nat) : Int) - 1 ≥ 0) := by omega
    refine Ev.step (fun k => by rw [gaiterref01_GetUvar.l1]) ?_
    simp only [if_neg hno, hws]
    rw [show w = val ys (n + 1) from by simp [val] at hw; exact hw]
    exact Ev.now _
  | succ j ih =>
    intro w hj h0 hw
    have hc := rd_byte hy j
    have hp := pow_pos j
    have e1 : ((j + 1 : Nat) : Int) - 1 = (j : Int) := by omega
    have e2 : wrap64 ((j : Int) - 1) = (j : Int) - 1 := w64 _ (by omega)
    have hin : (j : Int) < (ys.length : Int) := by omega
    have hge : (j : Int) ≥ 0 := Int.natCast_nonneg j
    have hm : 0 ≤ rd ys (j : Int) % 128 := by omega
    have hw' : (128 * w + rd ys (j : Int) % 128) * 128 ^ j + val ys j = val ys (n + 1) := by
      rw [← hw]
      simp only [val]
      rw [Int.pow_succ, Int.add_mul, Int.mul_comm 128 w, Int.mul_assoc w 128, Int.mul_comm 128 (128 ^ j)]
      omega
    have hvr := val_range hy j
    have hq0 : 0 ≤ 128 * w + rd ys (j : Int) % 128 := by omega
    have hq : 128 * w + rd ys (j : Int) % 128 < 18446744073709551616 := by
      have := Int.mul_le_mul_of_nonneg_left (show (1 : Int) ≤ 128 ^ j by omega) hq0
      omega
    have hih := ih (128 * w + rd ys (j : Int) % 128) (by omega) hq0 hw'
    refine Ev.step (fun k => by rw [gaiterref01_GetUvar.l1]) ?_
    simp only [e1, if_pos hge, if_pos hin, e2]
    rw [Int.tmod_eq_emod_of_nonneg hc.1, Ib.wrap_u64, Ib.wrap_u64, Ib.wrap_u64]
    rw [show (128 * w % 18446744073709551616 + rd ys (j : Int) % 128 % 18446744073709551616) % 18446744073709551616 = 128 * w + rd ys (j : Int) % 128 from by omega]
    exact hih
theorem val_small {ys : List Int} (hy : Bs.Bytes ys) (n : Nat) (hn : n ≤ 9) (h : n = 9 → rd ys 9 ≤ 1) : val ys (n + 1) < 18446744073709551616 := by
  by_cases e : n = 9
  · subst e
    have h1 := (val_range hy 9).2
    have h2 := h rfl
    have h3 := rd_byte hy 9
    have h4 : rd ys ((9 : Nat) : Int) = rd ys 9 := rfl
    simp only [val] at h1 ⊢
    rw [show (128 : Int) ^ 9 = 9223372036854775808 from by decide] at h1 ⊢
    rw [h4] at h3 ⊢
    omega
  · have h1 := (val_range hy (n + 1)).2
    have h2 := pow_9 (show n + 1 ≤ 9 by omega)
    omega
theorem RGet_j2 (ys : List Int) (hy : Bs.Bytes ys) (hl : ys.length < 140737488355328) (n : Nat) (hT : Top ys n) : Ev (fun k => gaiterref01_GetUvar.j2 k ys (n : Int)) (gspec ys n) := by
  have hst := hT.stop
  have hln := hT.len
  have hten := hT.ten
  have r9 : rd ys ((9 : Nat) : Int) = rd ys 9 := rfl
  have hc9 := rd_byte hy 9
  rw [r9] at hc9
  -- from j4 on
  have k4 : n ≤ 9 → n < ys.length → (n = 9 → rd ys 9 ≤ 1) → Ev (fun k => gaiterref01_GetUvar.j4 k ys (n : Int)) (gspec ys n) := by
    intro h9 hlt h1
    have hV := val_small hy n h9 h1
    have hg : gspec ys n = if 0 < n ∧ rd ys (n : Int) = 0 then (0, 0, 3) else (val ys (n + 1), ((n + 1 : Nat) : Int), 0) := by
      rw [gspec, if_neg (by omega), if_neg]
      rintro (h | ⟨h, h'⟩)
      · omega
      · have := h1 h; omega
    rw [hg]
    have hend : Ev (fun k => gaiterref01_GetUvar.j5 k ys (n : Int) false) (val ys (n + 1), ((n + 1 : Nat) : Int), 0) := by
      have := RGet_l1 ys hy n h9 hlt hV (n + 1) 0 (Nat.le_refl _) (by omega) (by rw [Int.zero_mul, Int.zero_add])
      rw [show ((n + 1 : Nat) : Int) - 1 = (n : Int) from by omega] at this
      refine Ev.step (fun k => by rw [gaiterref01_GetUvar.j5]) ?_
      simp only [Bool.false_eq_true, if_false]
      exact this
    refine Ev.step (fun k => by rw [gaiterref01_GetUvar.j4]) ?_
    have hin : (n : Int) < (ys.length : Int) := by omega
    by_cases c : (n : Int) > 0
    · have c' : 0 < n := by omega
      simp only [if_pos c, if_pos (Int.natCast_nonneg n), if_pos hin]
      by_cases c3 : rd ys (n : Int) = 0
      · rw [if_pos ⟨c', c3⟩, show (rd ys (n : Int) == 0) = true from beq_iff_eq.2 c3]
        refine Ev.step (fun k => by rw [gaiterref01_GetUvar.j5]) ?_
        simp only [if_true]
        exact Ev.now _
      · rw [if_neg (fun h => c3 h.2), show (rd ys (n : Int) == 0) = false from beq_eq_false_iff_ne.2 c3]
        exact hend
    · simp only [if_neg c]
      rw [if_neg (fun h => c (by omega))]
      exact hend
  have k3 : ¬ (n < 9 ∧ n = ys.length) → Ev (fun k => gaiterref01_GetUvar.j3 k ys (n : Int) false) (gspec ys n) := by
    intro hno
    refine Ev.step (fun k => by rw [gaiterref01_GetUvar.j3]) ?_
    simp only [Bool.false_eq_true, if_false]
    by_cases c : (n : Int) ≥ 9
    · simp only [if_pos c]
      by_cases c2 : (ys.length : Int) < 10
      · simp only [if_pos c2]
        rw [gspec, if_pos (by omega)]
        exact Ev.now _
      · have c3 : (9 : Int) < (ys.length : Int) := by omega
        simp only [if_neg c2, if_pos c3]
        by_cases c4 : rd ys 9 > 1
        · simp only [if_pos c4]
          rw [gspec, if_neg (by omega), if_pos]
          · exact Ev.now _
          · by_cases e : n = 10
            · exact .inl e
            · exact .inr ⟨by omega, c4⟩
        · simp only [if_neg c4]
          have hn10 : n ≠ 10 := by
            intro e
            have := hT.big 9 (by omega)
            omega
          exact k4 (by omega) (by omega) (fun _ => by omega)
    · simp only [if_neg c]
      exact k4 (by omega) (by omega) (fun h => absurd h (by omega))
  refine Ev.step (fun k => by rw [gaiterref01_GetUvar.j2]) ?_
  by_cases c : (n : Int) < 9
  · simp only [if_pos c]
    by_cases c2 : n = ys.length
    · rw [show ((n : Int) == (ys.length : Int)) = true from beq_iff_eq.2 (by omega)]
      refine Ev.step (fun k => by rw [gaiterref01_GetUvar.j3]) ?_
      simp only [if_true]
      rw [gspec, if_pos (by omega)]
      exact Ev.now _
    · rw [show ((n : Int) == (ys.length : Int)) = false from beq_eq_false_iff_ne.2 (by omega)]
      exact k3 (by omega)
  · simp only [if_neg c]
    exact k3 (by omega)
theorem RGet_l0 (ys : List Int) (hy : Bs.Bytes ys) (hl : ys.length < 140737488355328) (n : Nat) (hT : Top ys n) : ∀ (d i : Nat), i + d = n → Ev (fun k => gaiterref01_GetUvar.l0 k ys (i : Int)) (gspec ys n) := by
  have hst := hT.stop
  have hln := hT.len
  have hten := hT.ten
  intro d
  induction d with
  | zero =>
    intro i hi
    obtain rfl : i = n := by omega
    have hj := RGet_j2 ys hy hl i hT
    refine Ev.step (fun k => by rw [gaiterref01_GetUvar.l0]) ?_
    by_cases c1 : (i : Int) < (ys.length : Int)
    · simp only [if_pos c1]
      by_cases c2 : (i : Int) < 10
      · have c3 : ¬ rd ys (i : Int) ≥ 128 := by omega
        simp only [if_pos c2, if_pos (Int.natCast_nonneg i), if_neg c3]
        exact hj
      · simp only [if_neg c2]
        exact hj
    · simp only [if_neg c1]
      exact hj
  | succ d ih =>
    intro i hi
    have hbg := hT.big i (by omega)
    have c1 : (i : Int) < (ys.length : Int) := by omega
    have c2 : (i : Int) < 10 := by omega
    have c3 : rd ys (i : Int) ≥ 128 := hbg
    have hws := wr_succ i (by omega)
    have hih := ih (i + 1) (by omega)
    refine Ev.step (fun k => by rw [gaiterref01_GetUvar.l0]) ?_
    simp only [if_pos c1, if_pos c2, if_pos (Int.natCast_nonneg i), if_pos c3, hws]
    exact hih
theorem RGet_is (xs : List Int) (hx : Bs.Bytes xs) (hl : xs.length < 140737488355328) (a : Int) : 
    Ev (fun k => gaiterref01_GetUvar.f k xs a) (if a < 0 ∨ a > (xs.length : Int) then (0, 0, 2) else gspec (xs.drop a.toNat) (Classical.choose (top (xs.drop a.toNat)))) := by
  unfold gaiterref01_GetUvar.f
  by_cases c1 : a < 0
  · simp only [if_pos c1]
    rw [if_pos (.inl c1)]
    exact Ev.step (fun k => by rw [gaiterref01_GetUvar.j0]) (by simp only [if_true]; exact Ev.now _)
  by_cases c2 : a > (xs.length : Int)
  · simp only [if_neg c1]
    rw [if_pos (.inr c2), decide_eq_true c2]
    exact Ev.step (fun k => by rw [gaiterref01_GetUvar.j0]) (by simp only [if_true]; exact Ev.now _)
  rw [if_neg (by omega), decide_eq_false c2]
  simp only [if_neg c1]
  have h0 : 0 ≤ a := by omega
  have h1 : a ≤ (xs.length : Int) := by omega
  refine Ev.step (fun k => by rw [gaiterref01_GetUvar.j0]) ?_
  simp only [Bool.false_eq_true, if_false, if_pos h0, if_pos h1]
  exact RGet_l0 _ (hx.drop _) (by rw [List.length_drop]; omega) _ (Classical.choose_spec (top (xs.drop a.toNat))) _ 0 (Nat.zero_add _)
end Go.Proofs.Ytiahbcaoikoogaa.PUvar
namespace Go.Proofs.Ytiahbcaoikoogaa.PUvar
open Go Go.RowKit Go.Proofs.Ytiahbcaoikoogaa Go.Proofs.Ytiahbcaoikoogaa.All Go.Proofs.YtiahbcaoikoogaaW.PrintWords Go.Proofs.YtiahbcaoikoogaaW.PrintLast
theorem rd_succ (c : Int) (t : List Int) (n : Nat) : rd (c :: t) ((n + 1 : Nat) : Int) = rd t (n : Int) := by simp [rd]
theorem rd_zero (c : Int) (t : List Int) : rd (c :: t) ((0 : Nat) : Int) = c := by simp [rd]
theorem rd_left (L M : List Int) (n : Nat) (h : n < L.length) : rd (L ++ M) (n : Int) = rd L (n : Int) := by
  simp [rd, List.getD_eq_getElem?_getD, List.getElem?_append_left h]
theorem rd_take (L : List Int) (n m : Nat) (h : n < m) : rd (L.take m) (n : Int) = rd L (n : Int) := by
  simp [rd, List.getD_eq_getElem?_getD, h]
theorem val_cons (c : Int) (t : List Int) : ∀ n, val (c :: t) (n + 1) = c % 128 + 128 * val t n := by
  intro n
  induction n with
  | zero => simp only [val]; rw [rd_zero]; simp
  | succ n ih =>
    rw [val, ih, rd_succ, val, Int.pow_succ, Int.mul_add, ← Int.mul_assoc, Int.mul_comm _ 128, Int.add_assoc]
theorem val_left (L M : List Int) : ∀ n, n ≤ L.length → val (L ++ M) n = val L n := by
  intro n
  induction n with
  | zero => intro _; rfl
  | succ n ih => intro h; simp only [val]; rw [ih (by omega), rd_left L M n (by omega)]
theorem top_one {ys : List Int} {n m : Nat} (hn : Top ys n) (hm : Top ys m) : n = m := by
  have a : ∀ {n m : Nat}, Top ys n → Top ys m → n ≤ m := by
    intro n m hn hm
    refine Decidable.byContradiction fun h => ?_
    have h1 := hn.big m (by omega)
    have h2 := hm.stop
    have h3 := hn.ten
    have h4 := hn.len
    omega
  exact Nat.le_antisymm (a hn hm) (a hm hn)
theorem gspec_of {ys : List Int} {n : Nat} (h : Top ys n) : gspec ys (Classical.choose (top ys)) = gspec ys n := by
  rw [top_one (Classical.choose_spec (top ys)) h]
theorem uvd_is : ∀ (f : Nat) (v : Int), 0 ≤ v → v < 128 ^ (f + 1) → ∃ n, n ≤ f ∧ (uvd f v).length = n + 1 ∧ (∀ j, j < n → 128 ≤ rd (uvd f v) (j : Int)) ∧ rd (uvd f v) (n : Int) < 128 ∧ (0 < n → rd (uvd f v) (n : Int) ≠ 0) ∧ val (uvd f v) (n + 1) = v ∧ Bs.Bytes (uvd f v) := by
  intro f
  induction f with
  | zero =>
    intro v h0 hv
    have h1 : v < 128 := hv
    refine ⟨0, Nat.le_refl _, rfl, fun j hj => absurd hj (by omega), ?_, fun h => absurd h (by omega), ?_, ?_⟩
    · simp only [uvd]; rw [rd_zero]; exact h1
    · simp only [uvd]; rw [val_cons]; simp only [val]; omega
    · exact Bs.Bytes.cons (by omega) Bs.Bytes.nil
  | succ f ih =>
    intro v h0 hv
    by_cases c : v ≥ 128
    · have hd : v / 128 < 128 ^ (f + 1) := Int.ediv_lt_of_lt_mul (by decide) (by rw [← Int.pow_succ]; exact hv)
      obtain ⟨n, h1, h2, h3, h4, h5, h6, h7⟩ := ih (v / 128) (by omega) hd
      simp only [uvd, if_pos c]
      refine ⟨n + 1, by omega, by rw [List.length_cons, h2], ?_, ?_, ?_, ?_, ?_⟩
      · intro j hj
        cases j with
        | zero => rw [rd_zero]; omega
        | succ j => rw [rd_succ]; exact h3 j (by omega)
      · rw [rd_succ]; exact h4
      · intro _
        rw [rd_succ]
        by_cases e : 0 < n
        · exact h5 e
        · obtain rfl : n = 0 := by omega
          intro hz
          simp only [val] at h6
          rw [hz] at h6
          simp at h6
          omega
      · rw [val_cons, h6]; omega
      · exact Bs.Bytes.cons (by omega) h7
    · simp only [uvd, if_neg c]
      refine ⟨0, Nat.zero_le _, rfl, fun j hj => absurd hj (by omega), ?_, fun h => absurd h (by omega), ?_, ?_⟩
      · rw [rd_zero]; omega
      · rw [val_cons]; simp only [val]; omega
      · exact Bs.Bytes.cons (by omega) Bs.Bytes.nil
theorem uv_is (v : Int) (hv : 0 ≤ v ∧ v < 18446744073709551616) : ∃ n, n ≤ 9 ∧ (uv v).length = n + 1 ∧ (∀ j, j < n → 128 ≤ rd (uv v) (j : Int)) ∧ rd (uv v) (n : Int) < 128 ∧ (0 < n → rd (uv v) (n : Int) ≠ 0) ∧ val (uv v) (n + 1) = v ∧ Bs.Bytes (uv v) :=
  uvd_is 9 v hv.1 (by rw [show (128 : Int) ^ (9 + 1) = 1180591620717411303424 from by decide]; omega)
theorem get_back (v : Int) (hv : 0 ≤ v ∧ v < 18446744073709551616) (post : List Int) : gspec (uv v ++ post) (Classical.choose (top (uv v ++ post))) = (v, ((uv v).length : Int), 0) := by
  obtain ⟨n, h1, h2, h3, h4, h5, h6, h7⟩ := uv_is v hv
  generalize uv v = L at h2 h3 h4 h5 h6 h7
  have hn : n < L.length := by omega
  have hr : rd (L ++ post) (n : Int) = rd L (n : Int) := rd_left L post n hn
  have hll : (L ++ post).length = L.length + post.length := List.length_append
  have hT : Top (L ++ post) n := ⟨by omega, by omega, fun j hj => by rw [rd_left L post j (by omega)]; exact h3 j hj, .inr (.inr (by rw [hr]; exact h4))⟩
  rw [gspec_of hT, gspec, if_neg (by omega), if_neg, if_neg, val_left L post (n + 1) (by omega), h6, h2]
  · rintro ⟨h, h'⟩
    rw [hr] at h'
    exact h5 h h'
  · rintro (h | ⟨h, h'⟩)
    · omega
    · subst h
      have e : rd (L ++ post) ((9 : Nat) : Int) = rd (L ++ post) 9 := rfl
      rw [← e, hr] at h'
      simp only [val] at h6
      have hp := (val_range h7 9).1
      simp only [val] at hp
      rw [show (128 : Int) ^ 9 = 9223372036854775808 from by decide] at h6
      omega
theorem get_short (v : Int) (hv : 0 ≤ v ∧ v < 18446744073709551616) (m : Nat) (hm : m < (uv v).length) : gspec ((uv v).take m) (Classical.choose (top ((uv v).take m))) = (0, 0, 2) := by
  obtain ⟨n, h1, h2, h3, h4, h5, h6, h7⟩ := uv_is v hv
  have hl : ((uv v).take m).length = m := by rw [List.length_take]; omega
  have hT : Top ((uv v).take m) m := ⟨by omega, by omega, fun j hj => by rw [rd_take _ j m hj]; exact h3 j (by omega), .inr (.inl hl.symm)⟩
  rw [gspec_of hT, gspec, if_pos ⟨hl.symm, by omega⟩]
theorem canon : ∀ (n f : Nat) (ys : List Int), n ≤ f → Bs.Bytes ys → n < ys.length → (∀ j, j < n → 128 ≤ rd ys (j : Int)) → rd ys (n : Int) < 128 → (0 < n → rd ys (n : Int) ≠ 0) → uvd f (val ys (n + 1)) = ys.take (n + 1) := by
  intro n
  induction n with
  | zero =>
    intro f ys hf hy hl hb hs hz
    obtain ⟨c, t, rfl⟩ : ∃ c t, ys = c :: t := by cases ys with
      | nil => simp at hl
      | cons c t => exact ⟨c, t, rfl⟩
    have hc := hy c (List.mem_cons_self ..)
    rw [rd_zero] at hs
    rw [val_cons]
    simp only [val]
    rw [show c % 128 + 128 * 0 = c from by omega]
    cases f with
    | zero => rfl
    | succ f => simp only [uvd]; rw [if_neg (by omega)]; rfl
  | succ n ih =>
    intro f ys hf hy hl hb hs hz
    obtain ⟨c, t, rfl⟩ : ∃ c t, ys = c :: t := by cases ys with
      | nil => simp at hl
      | cons c t => exact ⟨c, t, rfl⟩
    have hc := hy c (List.mem_cons_self ..)
    have hyt : Bs.Bytes t := fun x hx => hy x (List.mem_cons_of_mem _ hx)
    have hb0 := hb 0 (by omega)
    rw [rd_zero] at hb0
    rw [rd_succ] at hs hz
    have hz' := hz (by omega)
    have hr := rd_byte hyt n
    have hv := val_range hyt n
    have hp := PUvar.pow_pos n
    obtain ⟨f, rfl⟩ : ∃ g, f = g + 1 := ⟨f - 1, by omega⟩
    have hih := ih f t (by omega) hyt (by simp only [List.length_cons] at hl; omega) (fun j hj => by have := hb (j + 1) (by omega); rwa [rd_succ] at this) hs (fun _ => hz')
    have h1 : 1 ≤ val t (n + 1) := by
      simp only [val]
      have := Int.mul_le_mul_of_nonneg_right (show 1 ≤ rd t (n : Int) % 128 by omega) (Int.le_of_lt hp)
      omega
    rw [val_cons]
    generalize val t (n + 1) = w at h1 hih
    simp only [uvd]
    rw [if_pos (by omega), show (c % 128 + 128 * w) % 128 + 128 = c from by omega, show (c % 128 + 128 * w) / 128 = w from by omega, hih]
    rfl
theorem get_canon (ys : List Int) (hy : Bs.Bytes ys) (h : (gspec ys (Classical.choose (top ys))).2.2 = 0) :
    0 ≤ (gspec ys (Classical.choose (top ys))).1 ∧ (gspec ys (Classical.choose (top ys))).1 < 18446744073709551616 ∧ 0 ≤ (gspec ys (Classical.choose (top ys))).2.1 ∧ (gspec ys (Classical.choose (top ys))).2.1 ≤ (ys.length : Int) ∧ uv (gspec ys (Classical.choose (top ys))).1 = ys.take (gspec ys (Classical.choose (top ys))).2.1.toNat := by
  have hT := Classical.choose_spec (top ys)
  generalize Classical.choose (top ys) = n at hT h
  have h1 := hT.ten
  have h2 := hT.len
  have h3 := hT.stop
  unfold gspec at h ⊢
  by_cases c1 : n = ys.length ∧ n < 10
  · rw [if_pos c1] at h; simp at h
  by_cases c2 : n = 10 ∨ (n = 9 ∧ rd ys 9 > 1)
  · rw [if_neg c1, if_pos c2] at h; simp at h
  by_cases c3 : 0 < n ∧ rd ys (n : Int) = 0
  · rw [if_neg c1, if_neg c2, if_pos c3] at h; simp at h
  rw [if_neg c1, if_neg c2, if_neg c3]
  have hr := val_range hy (n + 1)
  have hs := val_small hy n (by omega) (fun e => by omega)
  refine ⟨hr.1, hs, Int.natCast_nonneg _, by simp only; omega, ?_⟩
  simp only [Int.toNat_natCast]
  exact canon n 9 ys (by omega) hy (by omega) hT.big (by omega) (fun h0 hz => c3 ⟨h0, hz⟩)
end Go.Proofs.Ytiahbcaoikoogaa.PUvar
namespace Go.Proofs.Ytiahbcaoikoogaa.PIdx
open Go Go.RowKit Go.Proofs.Ytiahbcaoikoogaa Go.Proofs.Ytiahbcaoikoogaa.All Go.Proofs.YtiahbcaoikoogaaW.PrintWords Go.Proofs.YtiahbcaoikoogaaW.PrintLast
open PUvar
theorem shr_u64 (x : Int) (s : Nat) (h : s ≤ 64) : shr .u64 x (s : Int) = x / 2 ^ s := by
  unfold shr
  rw [Int.toNat_natCast, show IntKind.u64.bits = 64 from rfl, Nat.min_eq_left h]
theorem two_pos (s : Nat) : (0 : Int) < 2 ^ s := Int.pow_pos (by decide)
def bg : Nat → Int → List Int
  | 0, _ => []
  | n + 1, v => (v / 2 ^ (8 * n) % 256) :: bg n v
theorem bg_length : ∀ n v, (bg n v).length = n
  | 0, _ => rfl
  | n + 1, v => by simp [bg, bg_length n v]
theorem bg_bytes : ∀ n v, Bs.Bytes (bg n v)
  | 0, _ => Bs.Bytes.nil
  | n + 1, v => Bs.Bytes.cons (by omega) (bg_bytes n v)
theorem number_l0 : ∀ (n : Nat) (v : Int) (acc : List Int), n ≤ 8 → acc.length + n < 140737488355328 → Ev (fun k => index_number.l0 k acc v ((n : Int) - 1)) (acc ++ bg n v) := by
  intro n
  induction n with
  | zero =>
    intro v acc hn hl
    refine Ev.step (fun k => by rw [index_number.l0]) ?_
    simp only [if_neg (show ¬ ((0 : Nat) : Int) - 1 ≥ 0 by omega), bg, List.append_nil]
    exact Ev.now _
  | succ n ih =>
    intro v acc hn hl
    have e : ((n + 1 : Nat) : Int) - 1 = (n : Int) := by omega
    have e8 : wrap64 (8 * (n : Int)) = ((8 * n : Nat) : Int) := by rw [w64 _ (by omega)]; omega
    have e1 : wrap64 ((n : Int) - 1) = (n : Int) - 1 := w64 _ (by omega)
    have hs := shr_u64 v (8 * n) (by omega)
    have hl' : acc.length < 140737488355328 := by omega
    have hi := ih v (acc ++ [v / 2 ^ (8 * n) % 256]) (by omega) (by rw [List.length_append, List.length_singleton]; omega)
    rw [List.append_assoc] at hi
    rw [e]
    refine Ev.step (fun k => by rw [index_number.l0]) ?_
    simp only [if_pos (show (n : Int) ≥ 0 from Int.natCast_nonneg n), e8, e1, if_pos (Int.natCast_nonneg (8 * n)), if_pos hl', hs]
    exact hi
theorem number_is (n : Nat) (v : Int) (acc : List Int) (hn : n ≤ 8) (hl : acc.length + n < 140737488355328) : Ev (fun k => index_number.f k acc v (n : Int)) (acc ++ bg n v) := by
  have e1 : wrap64 ((n : Int) - 1) = (n : Int) - 1 := w64 _ (by omega)
  unfold index_number.f
  rw [e1]
  exact number_l0 n v acc hn hl
theorem set_mid {α : Type} (c x : α) (L : List α) : ∀ (A : List α), (A ++ x :: L).set A.length c = A ++ c :: L
  | [] => rfl
  | a :: A => by simp [set_mid c x L A]
theorem rep_succ (d : Nat) (L : List Int) : List.replicate (d + 1) (0 : Int) ++ L = List.replicate d 0 ++ 0 :: L := by
  rw [List.replicate_succ', List.append_assoc]; rfl
theorem big_l0 (v : Int) (hv : 0 ≤ v ∧ v < 18446744073709551616) : ∀ (d j : Nat), d + j ≤ 8 → Ev (fun k => gaiterref09_big.l0 k (v / 2 ^ (8 * j)) (List.replicate d 0 ++ bg j v) ((d : Int) - 1)) (bg (d + j) v) := by
  intro d
  induction d with
  | zero =>
    intro j hj
    refine Ev.step (fun k => by rw [gaiterref09_big.l0]) ?_
    simp only [if_neg (show ¬ ((0 : Nat) : Int) - 1 ≥ 0 by omega), List.replicate_zero, List.nil_append, Nat.zero_add]
    exact Ev.now _
  | succ d ih =>
    intro j hj
    have e : ((d + 1 : Nat) : Int) - 1 = (d : Int) := by omega
    have e1 : wrap64 ((d : Int) - 1) = (d : Int) - 1 := w64 _ (by omega)
    have hp := two_pos (8 * j)
    have h0 : 0 ≤ v / 2 ^ (8 * j) := Int.ediv_nonneg hv.1 (Int.le_of_lt hp)
    have h1 : v / 2 ^ (8 * j) ≤ v := Int.ediv_le_self _ hv.1
    have h2 : Int.tmod (v / 2 ^ (8 * j)) 256 % 256 = v / 2 ^ (8 * j) % 256 := by rw [Int.tmod_eq_emod_of_nonneg h0]; omega
    have h3 : IntKind.u64.wrap (Int.tdiv (v / 2 ^ (8 * j)) 256) = v / 2 ^ (8 * (j + 1)) := by
      rw [Int.tdiv_eq_ediv_of_nonneg h0, Ib.wrap_u64, show 8 * (j + 1) = 8 * j + 8 from by omega, Int.pow_add, ← Int.ediv_ediv_of_nonneg (Int.le_of_lt hp)]
      rw [show (2 : Int) ^ 8 = 256 from by decide]
      omega
    have hlen : (List.replicate (d + 1) (0 : Int) ++ bg j v).length = d + 1 + j := by rw [List.length_append, List.length_replicate, bg_length]
    have h4 : (List.replicate (d + 1) (0 : Int) ++ bg j v).set d (v / 2 ^ (8 * j) % 256) = List.replicate d 0 ++ bg (j + 1) v := by
      have := set_mid (v / 2 ^ (8 * j) % 256) 0 (bg j v) (List.replicate d (0 : Int))
      rw [List.length_replicate] at this
      rw [rep_succ, this]; rfl
    have hi := ih (j + 1) (by omega)
    rw [show d + (j + 1) = d + 1 + j from by omega] at hi
    rw [e]
    have hlt : (d : Int) < ((List.replicate (d + 1) (0 : Int) ++ bg j v).length : Int) := by rw [hlen]; omega
    refine Ev.step (fun k => by rw [gaiterref09_big.l0]) ?_
    simp only [if_pos (show (d : Int) ≥ 0 from Int.natCast_nonneg d), if_pos (Int.natCast_nonneg d), if_pos hlt, h2, h3, e1, Int.toNat_natCast, h4]
    exact hi
theorem big_is (v : Int) (hv : 0 ≤ v ∧ v < 18446744073709551616) (n : Nat) (hn : n ≤ 8) : Ev (fun k => gaiterref09_big.f k v (n : Int)) (bg n v) := by
  have e1 : wrap64 ((n : Int) - 1) = (n : Int) - 1 := w64 _ (by omega)
  have h := big_l0 v hv n 0 (by omega)
  simp only [bg, List.append_nil, Nat.mul_zero, Int.pow_zero, Int.ediv_one, Nat.add_zero] at h
  unfold gaiterref09_big.f
  simp only [if_pos (Int.natCast_nonneg n), Int.toNat_natCast, if_pos (show n ≤ 281474976710656 by omega), e1]
  exact h
def nb (l : List Int) : Int := l.foldl (fun v c => v * 256 + c) 0
theorem nb_snoc (l : List Int) (c : Int) : nb (l ++ [c]) = nb l * 256 + c := by simp [nb]
theorem nb_range {l : List Int} (h : Bs.Bytes l) : ∀ n, n ≤ l.length → 0 ≤ nb (l.take n) ∧ nb (l.take n) < 2 ^ (8 * n) := by
  intro n
  induction n with
  | zero => intro _; simp [nb]
  | succ n ih =>
    intro hn
    have hi := ih (by omega)
    have hc := h _ (List.getElem_mem (show n < l.length by omega))
    rw [List.take_succ_eq_append_getElem (by omega), nb_snoc, show 8 * (n + 1) = 8 * n + 8 from by omega, Int.pow_add, show (2 : Int) ^ 8 = 256 from by decide]
    omega
theorem pow_le8 {n : Nat} (h : n ≤ 8) : (2 : Int) ^ (8 * n) ≤ 18446744073709551616 := by
  have h1 : ∀ n : Fin 9, (2 : Int) ^ (8 * n.val) ≤ 18446744073709551616 := by decide
  exact h1 ⟨n, by omega⟩
theorem or_low (v c : Int) (hv : 0 ≤ v ∧ v * 256 < 18446744073709551616) (hc : 0 ≤ c ∧ c < 256) : Go.bits .or .u64 (v * 256) c = v * 256 + c := by
  rw [Ib.or_u64 _ _ (by omega) (by omega)]
  have h := Nat.two_pow_add_eq_or_of_lt (i := 8) (b := c.toNat) (show c.toNat < 2 ^ 8 by omega) v.toNat
  rw [show (v * 256).toNat = 2 ^ 8 * v.toNat from by omega, ← h]
  omega
theorem rd_get (l : List Int) (n : Nat) (h : n < l.length) : rd l (n : Int) = l[n] := by
  unfold rd
  rw [Int.toNat_natCast, List.getD_eq_getElem?_getD, List.getElem?_eq_getElem h]; rfl
theorem nb_step {l : List Int} (h : Bs.Bytes l) (hl : l.length ≤ 8) (n : Nat) (hn : n < l.length) :
    nb (l.take (n + 1)) = nb (l.take n) * 256 + rd l (n : Int) ∧ 0 ≤ nb (l.take n) ∧ nb (l.take n) * 256 < 18446744073709551616 ∧ nb (l.take n) * 256 + rd l (n : Int) < 18446744073709551616 ∧ 0 ≤ rd l (n : Int) ∧ rd l (n : Int) < 256 := by
  have h1 := nb_range h n (by omega)
  have h2 := nb_range h (n + 1) (by omega)
  have h3 := pow_le8 (show n + 1 ≤ 8 by omega)
  have hc := h _ (List.getElem_mem hn)
  have h4 : nb (l.take (n + 1)) = nb (l.take n) * 256 + l[n] := by rw [List.take_succ_eq_append_getElem hn, nb_snoc]
  rw [rd_get l n hn]
  refine ⟨h4, h1.1, ?_, ?_, hc⟩ <;> omega
theorem rnumber_l0 {l : List Int} (h : Bs.Bytes l) (hl : l.length ≤ 8) : ∀ (d n : Nat), n + d = l.length → Ev (fun k => gaiterref09_number.l0 k l (nb (l.take n)) (n : Int)) (nb l) := by
  intro d
  induction d with
  | zero =>
    intro n hn
    refine Ev.step (fun k => by rw [gaiterref09_number.l0]) ?_
    simp only [if_neg (show ¬ (n : Int) < (l.length : Int) by omega)]
    rw [List.take_of_length_le (by omega)]
    exact Ev.now _
  | succ d ih =>
    intro n hn
    obtain ⟨h1, h2, h3, h4, h5, h6⟩ := nb_step h hl n (by omega)
    have hi := ih (n + 1) (by omega)
    have e : IntKind.u64.wrap (IntKind.u64.wrap (256 * nb (l.take n)) + IntKind.u64.wrap (rd l (n : Int))) = nb (l.take (n + 1)) := by
      rw [h1, Ib.wrap_u64, Ib.wrap_u64, Ib.wrap_u64]; omega
    have hw := wr_succ n (by omega)
    refine Ev.step (fun k => by rw [gaiterref09_number.l0]) ?_
    simp only [if_pos (show (n : Int) < (l.length : Int) by omega), if_pos (Int.natCast_nonneg n), e, hw]
    exact hi
theorem rnumber_is {l : List Int} (h : Bs.Bytes l) (hl : l.length ≤ 8) : Ev (fun k => gaiterref09_number.f k l) (nb l) := rnumber_l0 h hl l.length 0 (by omega)
theorem fixed_l0 (b ys : List Int) (hy : Bs.Bytes ys) (hl : ys.length ≤ 8) (at_ x1 : Int) : ∀ (d n : Nat), n + d = ys.length → Ev (fun k => index_reader_fixed.l0 k x1 (nb (ys.take n)) ys (ys.length : Int) (n : Int) b at_ none) (nb ys, b, wrap64 (at_ + x1), none) := by
  intro d
  induction d with
  | zero =>
    intro n hn
    refine Ev.step (fun k => by rw [index_reader_fixed.l0]) ?_
    simp only [if_neg (show ¬ (n : Int) < (ys.length : Int) by omega)]
    rw [List.take_of_length_le (by omega)]
    exact Ev.now _
  | succ d ih =>
    intro n hn
    obtain ⟨h1, h2, h3, h4, h5, h6⟩ := nb_step hy hl n (by omega)
    have hi := ih (n + 1) (by omega)
    have e : Go.bits .or .u64 (IntKind.u64.wrap (nb (ys.take n) * 256)) (IntKind.u64.wrap (rd ys (n : Int))) = nb (ys.take (n + 1)) := by
      rw [h1, Ib.wrap_u64, Ib.wrap_u64, show nb (ys.take n) * 256 % 18446744073709551616 = nb (ys.take n) * 256 from by omega, show rd ys (n : Int) % 18446744073709551616 = rd ys (n : Int) from by omega]
      exact or_low _ _ ⟨h2, h3⟩ ⟨h5, h6⟩
    have hw := wr_succ n (by omega)
    have hlt : (n : Int) < (ys.length : Int) := by omega
    refine Ev.step (fun k => by rw [index_reader_fixed.l0]) ?_
    simp only [if_pos hlt, if_pos (Int.natCast_nonneg n), e, hw]
    exact hi
theorem fixed_ok (b : List Int) (hb : Bs.Bytes b) (hl : b.length < 140737488355328) (p n : Nat) (hn : n ≤ 8) (h : p + n ≤ b.length) : Ev (fun k => index_reader_fixed.f k b (p : Int) none (n : Int)) (nb ((b.drop p).take n), b, ((p + n : Nat) : Int), none) := by
  have e1 : wrap64 ((b.length : Int) - (p : Int)) = (b.length : Int) - (p : Int) := w64 _ (by omega)
  have e2 : wrap64 ((p : Int) + (n : Int)) = ((p + n : Nat) : Int) := by rw [w64 _ (by omega)]; omega
  have e3 : (b.take (p + n)).drop p = (b.drop p).take n := by rw [List.drop_take, show p + n - p = n from by omega]
  have hyl : ((b.drop p).take n).length = n := by rw [List.length_take, List.length_drop]; omega
  have hd : decide ((b.length : Int) - (p : Int) < (n : Int)) = false := decide_eq_false (by omega)
  have hF := fixed_l0 b ((b.drop p).take n) ((hb.drop p).take n) (by omega) (p : Int) (n : Int) n 0 (by omega)
  rw [e2] at hF
  unfold index_reader_fixed.f
  simp only [Option.isNone_none, if_true, e1, hd]
  refine Ev.step (fun k => by rw [index_reader_fixed.j0]) ?_
  simp only [Bool.false_eq_true, if_false]
  refine Ev.step (fun k => by rw [index_reader_fixed.j1]) ?_
  simp only [Option.isNone_none, if_true, if_pos (Int.natCast_nonneg p), e2, if_pos (show (p : Int) ≤ ((p + n : Nat) : Int) by omega), if_pos (show ((p + n : Nat) : Int) ≤ (b.length : Int) by omega), Int.toNat_natCast, e3]
  exact hF
theorem fixed_short (b : List Int) (hl : b.length < 140737488355328) (p n : Nat) (hn : n ≤ 8) (hp : p ≤ b.length) (h : b.length < p + n) : Ev (fun k => index_reader_fixed.f k b (p : Int) none (n : Int)) (0, b, (p : Int), some 2) := by
  have e1 : wrap64 ((b.length : Int) - (p : Int)) = (b.length : Int) - (p : Int) := w64 _ (by omega)
  have hd : decide ((b.length : Int) - (p : Int) < (n : Int)) = true := decide_eq_true (by omega)
  unfold index_reader_fixed.f
  simp only [Option.isNone_none, if_true, e1, hd]
  refine Ev.step (fun k => by rw [index_reader_fixed.j0]) ?_
  simp only [if_true]
  refine Ev.step (fun k => by rw [index_reader_fixed.j1]) ?_
  exact Ev.now _
theorem fixed_bad (b : List Int) (p n e : Int) : Ev (fun k => index_reader_fixed.f k b p (some e) n) (0, b, p, some e) := by
  unfold index_reader_fixed.f
  refine Ev.step (g := fun k => _) (f := fun k => index_reader_fixed.j1 k n b p (some e)) (fun k => ?_) ?_
  · show index_reader_fixed.j0 (k + 1) n false b p (some e) = _
    rw [index_reader_fixed.j0]; rfl
  refine Ev.step (fun k => by rw [index_reader_fixed.j1]) ?_
  exact Ev.now _
noncomputable def gu (ys : List Int) : Int × Int × Int := gspec ys (Classical.choose (top ys))
theorem gu_ok {ys : List Int} (hy : Bs.Bytes ys) (h : (gu ys).2.2 = 0) : 0 ≤ (gu ys).1 ∧ (gu ys).1 < 18446744073709551616 ∧ 0 ≤ (gu ys).2.1 ∧ (gu ys).2.1 ≤ (ys.length : Int) ∧ uv (gu ys).1 = ys.take (gu ys).2.1.toNat := get_canon ys hy h
theorem gu_bad (ys : List Int) (h : (gu ys).2.2 ≠ 0) : (gu ys).1 = 0 ∧ (gu ys).2.1 = 0 := by
  unfold gu gspec at h ⊢
  split
  · exact ⟨rfl, rfl⟩
  · split
    · exact ⟨rfl, rfl⟩
    · split
      · exact ⟨rfl, rfl⟩
      · rename_i c1 c2 c3
        rw [if_neg c1, if_neg c2, if_neg c3] at h
        exact absurd rfl h
theorem some_is (b : List Int) (hb : Bs.Bytes b) (hl : b.length < 140737488355328) (p : Nat) (hp : p ≤ b.length) : Ev (fun k => index_reader_some.f k b (p : Int) none) ((gu (b.drop p)).1, b, wrap64 ((p : Int) + (gu (b.drop p)).2.1), er (gu (b.drop p)).2.2) := by
  have h := Get_is b hb hl (p : Int)
  rw [if_neg (by omega), Int.toNat_natCast] at h
  unfold index_reader_some.f
  simp only [Option.isNone_none, if_true]
  exact Ev.bind h (Ev.now _)
theorem some_ok (b : List Int) (hb : Bs.Bytes b) (hl : b.length < 140737488355328) (p : Nat) (hp : p ≤ b.length) (h : (gu (b.drop p)).2.2 = 0) : Ev (fun k => index_reader_some.f k b (p : Int) none) ((gu (b.drop p)).1, b, ((p + (gu (b.drop p)).2.1.toNat : Nat) : Int), none) := by
  have h1 := some_is b hb hl p hp
  have h2 := gu_ok (hb.drop p) h
  rw [List.length_drop] at h2
  rw [h, w64 _ (by omega), show (p : Int) + (gu (b.drop p)).2.1 = ((p + (gu (b.drop p)).2.1.toNat : Nat) : Int) from by omega] at h1
  exact h1
theorem some_err (b : List Int) (hb : Bs.Bytes b) (hl : b.length < 140737488355328) (p : Nat) (hp : p ≤ b.length) (h : (gu (b.drop p)).2.2 ≠ 0) : Ev (fun k => index_reader_some.f k b (p : Int) none) (0, b, (p : Int), some (gu (b.drop p)).2.2) := by
  have h1 := some_is b hb hl p hp
  have h2 := gu_bad _ h
  have h3 : wrap64 ((p : Int) + 0) = (p : Int) := by rw [w64 _ (by omega)]; omega
  rw [h2.1, h2.2, h3, er, if_neg h] at h1
  exact h1
theorem some_bad (b : List Int) (p e : Int) : Ev (fun k => index_reader_some.f k b p (some e)) (0, b, p, some e) := by
  unfold index_reader_some.f
  exact Ev.now _
theorem rget_is (b : List Int) (hb : Bs.Bytes b) (hl : b.length < 140737488355328) (p : Nat) (hp : p ≤ b.length) : Ev (fun k => gaiterref01_GetUvar.f k b (p : Int)) (gu (b.drop p)) := by
  have h := RGet_is b hb hl (p : Int)
  rw [if_neg (by omega), Int.toNat_natCast] at h
  exact h
end Go.Proofs.Ytiahbcaoikoogaa.PIdx
namespace Go.Proofs.Ytiahbcaoikoogaa.PIdx
open Go Go.RowKit Go.Proofs.Ytiahbcaoikoogaa Go.Proofs.Ytiahbcaoikoogaa.All Go.Proofs.YtiahbcaoikoogaaW.PrintWords Go.Proofs.YtiahbcaoikoogaaW.PrintLast
open PUvar
def cE (x : S72) : S79 := ⟨x.f0, x.f1, x.f2, x.f3⟩
theorem rd72 (l : List S72) (i : Nat) (h : i < l.length) : rd_T72 l (i : Int) = l[i] := by
  unfold rd_T72
  rw [Int.toNat_natCast, List.getD_eq_getElem?_getD, List.getElem?_eq_getElem h]; rfl
theorem rd79 (l : List S79) (i : Nat) (h : i < l.length) : rd_T79 l (i : Int) = l[i] := by
  unfold rd_T79
  rw [Int.toNat_natCast, List.getD_eq_getElem?_getD, List.getElem?_eq_getElem h]; rfl
theorem rd_map (l : List S72) (i : Nat) (h : i < l.length) : rd_T79 (l.map cE) (i : Int) = cE (rd_T72 l (i : Int)) := by
  rw [rd79 _ i (by rw [List.length_map]; exact h), rd72 l i h, List.getElem_map]
def badE (x : S72) : Bool := decide (x.f2 < 1) || (decide (x.f2 > 65535) || (decide (x.f3 < 4) || (decide (x.f3 > 2147483647) || decide (x.f1 < x.f0))))
def chk (l : List S72) : Nat → Nat → Bool
  | 0, _ => true
  | d + 1, i => if badE (rd_T72 l (i : Int)) = true then false else if 0 < i ∧ (rd_T72 l (i : Int)).f0 ≤ (rd_T72 l ((i - 1 : Nat) : Int)).f1 then false else chk l d (i + 1)
def M (kind : Int) (l : List S72) : Bool := if (kind = 1 ∨ kind = 2) ∧ l.length ≤ 65535 then chk l l.length 0 else false
theorem chain {α : Type} (x : S72) (a b : α) : (if x.f2 < 1 then a else if x.f2 > 65535 then a else if x.f3 < 4 then a else if x.f3 > 2147483647 then a else if x.f1 < x.f0 then a else b) = if badE x = true then a else b := by
  unfold badE
  by_cases c1 : x.f2 < 1
  · simp [c1]
  by_cases c2 : x.f2 > 65535
  · simp [c1, c2]
  by_cases c3 : x.f3 < 4
  · simp [c1, c2, c3]
  by_cases c4 : x.f3 > 2147483647
  · simp [c1, c2, c3, c4]
  by_cases c5 : x.f1 < x.f0
  · simp [c1, c2, c3, c4, c5]
  · simp [c1, c2, c3, c4, c5]
theorem may_l0 (l : List S72) (kind : Int) (hl : l.length ≤ 65535) : ∀ (d i : Nat), i + d = l.length → Ev (fun k => index_may.l0 k l (l.length : Int) (i : Int) kind l) (chk l d i) := by
  intro d
  induction d with
  | zero =>
    intro i hi
    refine Ev.step (fun k => by rw [index_may.l0, if_neg (show ¬ (i : Int) < (l.length : Int) by omega)]) ?_
    exact Ev.now _
  | succ d ih =>
    intro i hi
    have h1 : (i : Int) < (l.length : Int) := by omega
    have hw := wr_succ i (by omega)
    have hI := ih (i + 1) (by omega)
    refine Ev.step (fun k => by rw [index_may.l0, if_pos h1, if_pos (Int.natCast_nonneg i), if_pos h1, chain]) ?_
    by_cases cb : badE (rd_T72 l (i : Int)) = true
    · simp only [if_pos cb, chk]; exact Ev.now _
    by_cases c0 : i = 0
    · subst c0
      simp only [if_neg cb, chk, if_neg (show ¬ ((0 : Nat) : Int) > 0 by omega), if_neg (show ¬ (0 < 0 ∧ (rd_T72 l ((0 : Nat) : Int)).f0 ≤ (rd_T72 l ((0 - 1 : Nat) : Int)).f1) from fun h => absurd h.1 (by omega)), hw]
      exact hI
    · have hp : wrap64 ((i : Int) - 1) = ((i - 1 : Nat) : Int) := by rw [w64 _ (by omega)]; omega
      have h2 : ((i - 1 : Nat) : Int) < (l.length : Int) := by omega
      by_cases co : (rd_T72 l (i : Int)).f0 ≤ (rd_T72 l ((i - 1 : Nat) : Int)).f1
      · simp only [if_neg cb, if_pos (show (i : Int) > 0 by omega), hp, if_pos (Int.natCast_nonneg (i - 1)), if_pos h2, if_pos co, chk, if_pos (show 0 < i ∧ (rd_T72 l (i : Int)).f0 ≤ (rd_T72 l ((i - 1 : Nat) : Int)).f1 from ⟨by omega, co⟩)]
        exact Ev.now _
      · simp only [if_neg cb, if_pos (show (i : Int) > 0 by omega), hp, if_pos (Int.natCast_nonneg (i - 1)), if_pos h2, if_neg co, chk, if_neg (show ¬ (0 < i ∧ (rd_T72 l (i : Int)).f0 ≤ (rd_T72 l ((i - 1 : Nat) : Int)).f1) from fun h => co h.2), hw]
        exact hI
theorem may_is (kind : Int) (l : List S72) (hl : l.length < 140737488355328) : Ev (fun k => index_may.f k kind l) (M kind l) := by
  have hbad : Ev (fun k => index_may.j0 k true kind l) false := Ev.step (fun k => by rw [index_may.j0, if_pos rfl]) (Ev.now _)
  have hin : Ev (fun k => index_may.j0 k (decide ((l.length : Int) > 65535)) kind l) (if l.length ≤ 65535 then chk l l.length 0 else false) := by
    by_cases c : l.length ≤ 65535
    · rw [decide_eq_false (show ¬ (l.length : Int) > 65535 by omega), if_pos c]
      exact Ev.step (f := fun k => index_may.l0 k l (l.length : Int) ((0 : Nat) : Int) kind l) (fun k => by rw [index_may.j0, if_neg (show ¬ false = true by decide)]; rfl) (may_l0 l kind c l.length 0 (by omega))
    · rw [decide_eq_true (show (l.length : Int) > 65535 by omega), if_neg c]
      exact hbad
  unfold index_may.f M
  by_cases c1 : kind = 1
  · subst c1
    simp only [if_true, true_or, true_and]
    exact hin
  by_cases c2 : kind = 2
  · subst c2
    simp only [if_neg c1, if_true, or_true, true_and]
    exact hin
  · simp only [if_neg c1, if_neg c2, c1, c2, or_self, false_and, if_false]
    exact hbad
theorem rmay_j2 (l : List S72) (i : Nat) (hi : i < l.length) (hl : l.length ≤ 65535) (f : Bool) (r : Bool) (a b c d : Int) (ha : a = (rd_T72 l (i : Int)).f0) (hr : Ev (fun k => gaiterref09_MayIndex.l0 k (l.map cE) ((i + 1 : Nat) : Int)) r) :
    Ev (fun k => gaiterref09_MayIndex.j2 k (l.map cE) (i : Int) f a b c d) (if f = true then false else if 0 < i ∧ (rd_T72 l (i : Int)).f0 ≤ (rd_T72 l ((i - 1 : Nat) : Int)).f1 then false else r) := by
  have hw := wr_succ i (by omega)
  subst ha
  cases f with
  | true =>
    rw [if_pos rfl]
    exact Ev.step (fun k => by rw [gaiterref09_MayIndex.j2, if_pos rfl]) (Ev.now _)
  | false =>
    refine Ev.step (fun k => by rw [gaiterref09_MayIndex.j2, if_neg (show ¬ false = true by decide)]) ?_
    by_cases c0 : i = 0
    · subst c0
      simp only [if_neg (show ¬ ((0 : Nat) : Int) > 0 by omega), if_neg (show ¬ (0 < 0 ∧ (rd_T72 l ((0 : Nat) : Int)).f0 ≤ (rd_T72 l ((0 - 1 : Nat) : Int)).f1) from fun h => absurd h.1 (by omega)), hw, Bool.false_eq_true, if_false]
      exact hr
    · have hp : wrap64 ((i : Int) - 1) = ((i - 1 : Nat) : Int) := by rw [w64 _ (by omega)]; omega
      have h2 : ((i - 1 : Nat) : Int) < ((l.map cE).length : Int) := by rw [List.length_map]; omega
      have h3 := rd_map l (i - 1) (by omega)
      by_cases co : (rd_T72 l (i : Int)).f0 ≤ (rd_T72 l ((i - 1 : Nat) : Int)).f1
      · simp only [if_pos (show (i : Int) > 0 by omega), hp, if_pos (Int.natCast_nonneg (i - 1)), if_pos h2, h3, cE, if_pos co, if_pos (show 0 < i ∧ (rd_T72 l (i : Int)).f0 ≤ (rd_T72 l ((i - 1 : Nat) : Int)).f1 from ⟨by omega, co⟩), Bool.false_eq_true, if_false]
        exact Ev.now _
      · simp only [if_pos (show (i : Int) > 0 by omega), hp, if_pos (Int.natCast_nonneg (i - 1)), if_pos h2, h3, cE, if_neg co, if_neg (show ¬ (0 < i ∧ (rd_T72 l (i : Int)).f0 ≤ (rd_T72 l ((i - 1 : Nat) : Int)).f1) from fun h => co h.2), hw, Bool.false_eq_true, if_false]
        exact hr
theorem rmay_l0 (l : List S72) (hl : l.length ≤ 65535) : ∀ (d i : Nat), i + d = l.length → Ev (fun k => gaiterref09_MayIndex.l0 k (l.map cE) (i : Int)) (chk l d i) := by
  intro d
  induction d with
  | zero =>
    intro i hi
    refine Ev.step (fun k => by rw [gaiterref09_MayIndex.l0, if_neg (show ¬ (i : Int) < ((l.map cE).length : Int) by rw [List.length_map]; omega)]) ?_
    exact Ev.now _
  | succ d ih =>
    intro i hi
    have h1 : (i : Int) < ((l.map cE).length : Int) := by rw [List.length_map]; omega
    have hI := ih (i + 1) (by omega)
    have h3 := rd_map l i (by omega)
    have k0 : (rd_T79 (l.map cE) (i : Int)).f0 = (rd_T72 l (i : Int)).f0 := by rw [h3]; rfl
    have k1 : (rd_T79 (l.map cE) (i : Int)).f1 = (rd_T72 l (i : Int)).f1 := by rw [h3]; rfl
    have k2 : (rd_T79 (l.map cE) (i : Int)).f2 = (rd_T72 l (i : Int)).f2 := by rw [h3]; rfl
    have k3 : (rd_T79 (l.map cE) (i : Int)).f3 = (rd_T72 l (i : Int)).f3 := by rw [h3]; rfl
    refine Ev.step (fun k => by rw [gaiterref09_MayIndex.l0, if_pos h1, if_pos (Int.natCast_nonneg i)]) ?_
    generalize rd_T79 (l.map cE) (i : Int) = x at k0 k1 k2 k3
    have hJ := fun f => rmay_j2 l i (by omega) hl f (chk l d (i + 1)) x.f0 x.f1 x.f2 x.f3 k0 hI
    have hT := hJ true
    rw [if_pos rfl] at hT
    by_cases c1 : x.f2 < 1
    · have hb : badE (rd_T72 l (i : Int)) = true := by simp [badE, ← k2, c1]
      simp only [if_pos c1, chk, if_pos hb]
      exact hT
    by_cases c2 : x.f2 > 65535
    · have hb : badE (rd_T72 l (i : Int)) = true := by simp [badE, ← k2, c1, c2]
      simp only [if_neg c1, if_pos c2, chk, if_pos hb]
      exact hT
    by_cases c3 : x.f3 < 4
    · have hb : badE (rd_T72 l (i : Int)) = true := by simp [badE, ← k2, ← k3, c1, c2, c3]
      simp only [if_neg c1, if_neg c2, if_pos c3, chk, if_pos hb]
      exact hT
    by_cases c4 : x.f3 > 2147483647
    · have hb : badE (rd_T72 l (i : Int)) = true := by simp [badE, ← k2, ← k3, c1, c2, c3, c4]
      simp only [if_neg c1, if_neg c2, if_neg c3, if_pos c4, chk, if_pos hb]
      exact hT
    · have hb : badE (rd_T72 l (i : Int)) = decide (x.f1 < x.f0) := by simp [badE, ← k0, ← k1, ← k2, ← k3, c1, c2, c3, c4]
      simp only [if_neg c1, if_neg c2, if_neg c3, if_neg c4, chk, hb]
      exact hJ _
theorem rmay_is (kind : Int) (l : List S72) (hl : l.length < 140737488355328) : Ev (fun k => gaiterref09_MayIndex.f k kind (l.map cE)) (M kind l) := by
  have hbad : Ev (fun k => gaiterref09_MayIndex.j0 k (l.map cE) true) false := Ev.step (fun k => by rw [gaiterref09_MayIndex.j0, if_pos rfl]) (Ev.now _)
  have hin : Ev (fun k => gaiterref09_MayIndex.j0 k (l.map cE) (decide (((l.map cE).length : Int) > 65535))) (if l.length ≤ 65535 then chk l l.length 0 else false) := by
    rw [List.length_map]
    by_cases c : l.length ≤ 65535
    · rw [decide_eq_false (show ¬ (l.length : Int) > 65535 by omega), if_pos c]
      exact Ev.step (f := fun k => gaiterref09_MayIndex.l0 k (l.map cE) ((0 : Nat) : Int)) (fun k => by rw [gaiterref09_MayIndex.j0, if_neg (show ¬ false = true by decide)]; rfl) (rmay_l0 l c l.length 0 (by omega))
    · rw [decide_eq_true (show (l.length : Int) > 65535 by omega), if_neg c]
      exact hbad
  unfold gaiterref09_MayIndex.f M
  by_cases c1 : kind = 1
  · subst c1
    simp only [if_true, true_or, true_and]
    exact hin
  by_cases c2 : kind = 2
  · subst c2
    simp only [if_neg c1, if_true, or_true, true_and]
    exact hin
  · simp only [if_neg c1, if_neg c2, c1, c2, or_self, false_and, if_false]
    exact hbad
def dE (x : S79) : S72 := ⟨x.f0, x.f1, x.f2, x.f3⟩
theorem cd (l : List S79) : (l.map dE).map cE = l := by
  rw [List.map_map]
  exact List.map_id'' (fun x => by cases x; rfl) l
theorem dc (l : List S72) : (l.map cE).map dE = l := by
  rw [List.map_map]
  exact List.map_id'' (fun x => by cases x; rfl) l
theorem rmay_any (kind : Int) (l : List S79) (hl : l.length < 140737488355328) : Ev (fun k => gaiterref09_MayIndex.f k kind l) (M kind (l.map dE)) := by
  have h := rmay_is kind (l.map dE) (by rw [List.length_map]; exact hl)
  rw [cd] at h
  exact h
end Go.Proofs.Ytiahbcaoikoogaa.PIdx
namespace Go.Proofs.Ytiahbcaoikoogaa.PIdx
open Go Go.RowKit Go.Proofs.Ytiahbcaoikoogaa Go.Proofs.Ytiahbcaoikoogaa.All Go.Proofs.YtiahbcaoikoogaaW.PrintWords Go.Proofs.YtiahbcaoikoogaaW.PrintLast
open PUvar
noncomputable def q1 (b : List Int) (p : Nat) : Nat := p + 8 + (gu (b.drop (p + 8))).2.1.toNat
noncomputable def q2 (b : List Int) (p : Nat) : Nat := q1 b p + (gu (b.drop (q1 b p))).2.1.toNat
noncomputable def q3 (b : List Int) (p : Nat) : Nat := q2 b p + (gu (b.drop (q2 b p))).2.1.toNat
noncomputable def one (b : List Int) (p : Nat) : Int × S89 × Nat :=
  if b.length < p + 8 then (2, z89, p)
  else if (gu (b.drop (p + 8))).2.2 ≠ 0 then ((gu (b.drop (p + 8))).2.2, z89, p)
  else if (gu (b.drop (q1 b p))).2.2 ≠ 0 then ((gu (b.drop (q1 b p))).2.2, z89, p)
  else if (gu (b.drop (q2 b p))).2.2 ≠ 0 then ((gu (b.drop (q2 b p))).2.2, z89, p)
  else (0, ⟨wrap64 (nb ((b.drop p).take 8)), (gu (b.drop (p + 8))).1, (gu (b.drop (q1 b p))).1, (gu (b.drop (q2 b p))).1⟩, q3 b p)
noncomputable def ents (b : List Int) : Nat → Nat → Int × List S89 × Nat
  | 0, p => (0, [], p)
  | m + 1, p => if (one b p).1 ≠ 0 then ((one b p).1, [], p) else ((ents b m (one b p).2.2).1, (one b p).2.1 :: (ents b m (one b p).2.2).2.1, (ents b m (one b p).2.2).2.2)
structure OneOk (b : List Int) (p : Nat) : Prop where
  room : p + 8 ≤ b.length
  e1 : (gu (b.drop (p + 8))).2.2 = 0
  e2 : (gu (b.drop (q1 b p))).2.2 = 0
  e3 : (gu (b.drop (q2 b p))).2.2 = 0
  is : one b p = (0, ⟨wrap64 (nb ((b.drop p).take 8)), (gu (b.drop (p + 8))).1, (gu (b.drop (q1 b p))).1, (gu (b.drop (q2 b p))).1⟩, q3 b p)
  p1 : p + 8 ≤ q1 b p ∧ q1 b p ≤ b.length
  p2 : q1 b p ≤ q2 b p ∧ q2 b p ≤ b.length
  p3 : q2 b p ≤ q3 b p ∧ q3 b p ≤ b.length
theorem step_len {b : List Int} (hb : Bs.Bytes b) (p : Nat) (hp : p ≤ b.length) (h : (gu (b.drop p)).2.2 = 0) : p + (gu (b.drop p)).2.1.toNat ≤ b.length := by
  have := gu_ok (hb.drop p) h
  rw [List.length_drop] at this
  omega
theorem one_ok {b : List Int} (hb : Bs.Bytes b) {p : Nat} (h : (one b p).1 = 0) : OneOk b p := by
  by_cases c0 : b.length < p + 8
  · unfold one at h; rw [if_pos c0] at h; exact absurd (show (2 : Int) = 0 from h) (by decide)
  have e1 : (gu (b.drop (p + 8))).2.2 = 0 := by
    refine Decidable.byContradiction fun c1 => ?_
    unfold one at h; rw [if_neg c0, if_pos c1] at h; exact c1 h
  have e2 : (gu (b.drop (q1 b p))).2.2 = 0 := by
    refine Decidable.byContradiction fun c2 => ?_
    unfold one at h; rw [if_neg c0, if_neg (fun hh => hh e1), if_pos c2] at h; exact c2 h
  have e3 : (gu (b.drop (q2 b p))).2.2 = 0 := by
    refine Decidable.byContradiction fun c3 => ?_
    unfold one at h; rw [if_neg c0, if_neg (fun hh => hh e1), if_neg (fun hh => hh e2), if_pos c3] at h; exact c3 h
  have l1 : q1 b p ≤ b.length := step_len hb _ (by omega) e1
  have l2 : q2 b p ≤ b.length := step_len hb _ l1 e2
  have l3 : q3 b p ≤ b.length := step_len hb _ l2 e3
  refine ⟨by omega, e1, e2, e3, ?_, ⟨?_, l1⟩, ⟨?_, l2⟩, ⟨?_, l3⟩⟩
  · unfold one; rw [if_neg c0, if_neg (fun hh => hh e1), if_neg (fun hh => hh e2), if_neg (fun hh => hh e3)]
  · unfold q1; omega
  · unfold q2; omega
  · unfold q3; omega
theorem u64w_succ (i : Nat) (h : i < 140737488355328) : IntKind.u64.wrap ((i : Int) + 1) = ((i + 1 : Nat) : Int) := by rw [Ib.wrap_u64]; omega
theorem list_bad (b : List Int) (many i p e : Int) (acc : List S89) : Ev (fun k => index_reader_list.l0 k many acc i b p (some e)) (acc, b, p, some e) := by
  have h : Ev (fun k => index_reader_list.j3 k many acc i false b p (some e)) (acc, b, p, some e) := by
    refine Ev.step (fun k => by rw [index_reader_list.j3]) ?_
    simp only [Bool.false_eq_true, if_false]
    exact Ev.now _
  refine Ev.step (fun k => by rw [index_reader_list.l0]) ?_
  simp only [Option.isNone_some, Bool.false_eq_true, if_false, Option.getD_some, ite_self]
  exact h
theorem list_ok {b : List Int} (hb : Bs.Bytes b) (hl : b.length < 140737488355328) {p : Nat} (h : OneOk b p) (many i : Nat) (hi : i < many) (hm : many ≤ 65535) (acc : List S89) (ha : acc.length < 4398046511104) {r}
    (hr : Ev (fun k => index_reader_list.l0 k (many : Int) (acc ++ [(one b p).2.1]) ((i + 1 : Nat) : Int) b ((one b p).2.2 : Int) none) r) :
    Ev (fun k => index_reader_list.l0 k (many : Int) acc (i : Int) b (p : Int) none) r := by
  have hF := fixed_ok b hb hl p 8 (by omega) h.room
  have h1 := some_ok b hb hl (p + 8) h.room h.e1
  have h2 := some_ok b hb hl (q1 b p) h.p1.2 h.e2
  have h3 := some_ok b hb hl (q2 b p) h.p2.2 h.e3
  have hw := u64w_succ i (by omega)
  have hlt : (i : Int) < (many : Int) := by omega
  rw [h.is] at hr
  refine Ev.step (fun k => by rw [index_reader_list.l0, if_pos hlt, if_pos (show (none : Option Int).isNone = true from rfl)]) ?_
  refine Ev.step (fun k => by rw [index_reader_list.j3, if_pos rfl]) ?_
  refine Ev.bind hF (Ev.bind h1 (Ev.bind h2 (Ev.bind h3 ?_)))
  simp only [if_pos ha, hw]
  exact hr
theorem list_err {b : List Int} (hb : Bs.Bytes b) (hl : b.length < 140737488355328) {p : Nat} (hp : p ≤ b.length) (h : (one b p).1 ≠ 0) (many i : Nat) (hi : i < many) (hm : many ≤ 65535) (acc : List S89) (ha : acc.length < 4398046511104) :
    ∃ l a, Ev (fun k => index_reader_list.l0 k (many : Int) acc (i : Int) b (p : Int) none) (l, b, a, some (one b p).1) := by
  have hw := u64w_succ i (by omega)
  have hlt : (i : Int) < (many : Int) := by omega
  by_cases c0 : b.length < p + 8
  · have e : (one b p).1 = 2 := by unfold one; rw [if_pos c0]
    rw [e]
    exact ⟨_, _, by
      refine Ev.step (fun k => by rw [index_reader_list.l0, if_pos hlt, if_pos (show (none : Option Int).isNone = true from rfl)]) ?_
      refine Ev.step (fun k => by rw [index_reader_list.j3, if_pos rfl]) ?_
      refine Ev.bind (fixed_short b hl p 8 (by omega) hp c0) (Ev.bind (some_bad b _ _) (Ev.bind (some_bad b _ _) (Ev.bind (some_bad b _ _) ?_)))
      simp only [if_pos ha, hw]
      exact list_bad b _ _ _ _ _⟩
  have hF := fixed_ok b hb hl p 8 (by omega) (by omega)
  by_cases c1 : (gu (b.drop (p + 8))).2.2 ≠ 0
  · have e : (one b p).1 = (gu (b.drop (p + 8))).2.2 := by unfold one; rw [if_neg c0, if_pos c1]
    rw [e]
    exact ⟨_, _, by
      refine Ev.step (fun k => by rw [index_reader_list.l0, if_pos hlt, if_pos (show (none : Option Int).isNone = true from rfl)]) ?_
      refine Ev.step (fun k => by rw [index_reader_list.j3, if_pos rfl]) ?_
      refine Ev.bind hF (Ev.bind (some_err b hb hl (p + 8) (by omega) c1) (Ev.bind (some_bad b _ _) (Ev.bind (some_bad b _ _) ?_)))
      simp only [if_pos ha, hw]
      exact list_bad b _ _ _ _ _⟩
  have e1 : (gu (b.drop (p + 8))).2.2 = 0 := Decidable.not_not.mp c1
  have h1 := some_ok b hb hl (p + 8) (by omega) e1
  have l1 : q1 b p ≤ b.length := step_len hb _ (by omega) e1
  by_cases c2 : (gu (b.drop (q1 b p))).2.2 ≠ 0
  · have e : (one b p).1 = (gu (b.drop (q1 b p))).2.2 := by unfold one; rw [if_neg c0, if_neg c1, if_pos c2]
    rw [e]
    exact ⟨_, _, by
      refine Ev.step (fun k => by rw [index_reader_list.l0, if_pos hlt, if_pos (show (none : Option Int).isNone = true from rfl)]) ?_
      refine Ev.step (fun k => by rw [index_reader_list.j3, if_pos rfl]) ?_
      refine Ev.bind hF (Ev.bind h1 (Ev.bind (some_err b hb hl (q1 b p) l1 c2) (Ev.bind (some_bad b _ _) ?_)))
      simp only [if_pos ha, hw]
      exact list_bad b _ _ _ _ _⟩
  have e2 : (gu (b.drop (q1 b p))).2.2 = 0 := Decidable.not_not.mp c2
  have h2 := some_ok b hb hl (q1 b p) l1 e2
  have l2 : q2 b p ≤ b.length := step_len hb _ l1 e2
  by_cases c3 : (gu (b.drop (q2 b p))).2.2 ≠ 0
  · have e : (one b p).1 = (gu (b.drop (q2 b p))).2.2 := by unfold one; rw [if_neg c0, if_neg c1, if_neg c2, if_pos c3]
    rw [e]
    exact ⟨_, _, by
      refine Ev.step (fun k => by rw [index_reader_list.l0, if_pos hlt, if_pos (show (none : Option Int).isNone = true from rfl)]) ?_
      refine Ev.step (fun k => by rw [index_reader_list.j3, if_pos rfl]) ?_
      refine Ev.bind hF (Ev.bind h1 (Ev.bind h2 (Ev.bind (some_err b hb hl (q2 b p) l2 c3) ?_)))
      simp only [if_pos ha, hw]
      exact list_bad b _ _ _ _ _⟩
  · refine absurd ?_ h
    unfold one; rw [if_neg c0, if_neg c1, if_neg c2, if_neg c3]
theorem ents_succ (b : List Int) (m p : Nat) : ents b (m + 1) p = if (one b p).1 ≠ 0 then ((one b p).1, [], p) else ((ents b m (one b p).2.2).1, (one b p).2.1 :: (ents b m (one b p).2.2).2.1, (ents b m (one b p).2.2).2.2) := rfl
theorem ents_ok {b : List Int} {m p : Nat} (h : (one b p).1 = 0) : ents b (m + 1) p = ((ents b m (one b p).2.2).1, (one b p).2.1 :: (ents b m (one b p).2.2).2.1, (ents b m (one b p).2.2).2.2) := by rw [ents_succ, if_neg (fun hh => hh h)]
theorem ents_err {b : List Int} {m p : Nat} (h : (one b p).1 ≠ 0) : ents b (m + 1) p = ((one b p).1, [], p) := by rw [ents_succ, if_pos h]
theorem list_loop {b : List Int} (hb : Bs.Bytes b) (hl : b.length < 140737488355328) (many : Nat) (hm : many ≤ 65535) : ∀ (d i p : Nat) (acc : List S89), i + d = many → p ≤ b.length → acc.length + d < 4398046511104 →
    ((ents b d p).1 = 0 → Ev (fun k => index_reader_list.l0 k (many : Int) acc (i : Int) b (p : Int) none) (acc ++ (ents b d p).2.1, b, ((ents b d p).2.2 : Int), none)) ∧
    ((ents b d p).1 ≠ 0 → ∃ l a, Ev (fun k => index_reader_list.l0 k (many : Int) acc (i : Int) b (p : Int) none) (l, b, a, some (ents b d p).1)) := by
  intro d
  induction d with
  | zero =>
    intro i p acc hi hp ha
    refine ⟨fun _ => ?_, fun h => absurd rfl h⟩
    have hno : ¬ (i : Int) < (many : Int) := by omega
    refine Ev.step (fun k => by rw [index_reader_list.l0, if_neg hno]) ?_
    refine Ev.step (fun k => by rw [index_reader_list.j3]) ?_
    simp only [Bool.false_eq_true, if_false]
    refine Ev.congr (fun k => ?_) (Ev.now _)
    simp [ents]
  | succ d ih =>
    intro i p acc hi hp ha
    by_cases h : (one b p).1 = 0
    · have hO := one_ok hb h
      have hle : (one b p).2.2 ≤ b.length := by rw [hO.is]; exact hO.p3.2
      have hI := ih (i + 1) (one b p).2.2 (acc ++ [(one b p).2.1]) (by omega) hle (by rw [List.length_append, List.length_singleton]; omega)
      rw [ents_ok h]
      refine ⟨fun h0 => ?_, fun h0 => ?_⟩
      · have hr := hI.1 h0
        rw [List.append_assoc] at hr
        exact list_ok hb hl hO many i (by omega) hm acc (by omega) hr
      · obtain ⟨l, a, hr⟩ := hI.2 h0
        exact ⟨l, a, list_ok hb hl hO many i (by omega) hm acc (by omega) hr⟩
    · rw [ents_err h]
      exact ⟨fun h0 => absurd h0 h, fun _ => list_err hb hl hp h many i (by omega) hm acc (by omega)⟩
noncomputable def gl (b : List Int) (p : Nat) : Int × List S89 × Nat :=
  if (gu (b.drop p)).2.2 ≠ 0 then ((gu (b.drop p)).2.2, [], p)
  else if (gu (b.drop p)).1 > 65535 then (9, [], p)
  else ents b (gu (b.drop p)).1.toNat (p + (gu (b.drop p)).2.1.toNat)
theorem list_f_bad (b : List Int) (p e : Int) : Ev (fun k => index_reader_list.f k b p (some e)) ([], b, p, some e) := by
  unfold index_reader_list.f
  refine Ev.bind (some_bad b p e) ?_
  simp only [Option.isNone_some, Bool.false_eq_true, if_false, Option.getD_some]
  refine Ev.step (fun k => by rw [index_reader_list.j0]) ?_
  simp only [Bool.false_eq_true, if_false]
  refine Ev.step (fun k => by rw [index_reader_list.j1]) ?_
  exact list_bad b _ _ _ _ _
theorem list_is {b : List Int} (hb : Bs.Bytes b) (hl : b.length < 140737488355328) {p : Nat} (hp : p ≤ b.length) :
    ((gl b p).1 = 0 → Ev (fun k => index_reader_list.f k b (p : Int) none) ((gl b p).2.1, b, ((gl b p).2.2 : Int), none)) ∧
    ((gl b p).1 ≠ 0 → ∃ l a, Ev (fun k => index_reader_list.f k b (p : Int) none) (l, b, a, some (gl b p).1)) := by
  by_cases c1 : (gu (b.drop p)).2.2 ≠ 0
  · have e : gl b p = ((gu (b.drop p)).2.2, [], p) := by unfold gl; rw [if_pos c1]
    rw [e]
    refine ⟨fun h => absurd h c1, fun _ => ⟨[], (p : Int), ?_⟩⟩
    unfold index_reader_list.f
    refine Ev.bind (some_err b hb hl p hp c1) ?_
    simp only [Option.isNone_some, Bool.false_eq_true, if_false, Option.getD_some]
    refine Ev.step (fun k => by rw [index_reader_list.j0]) ?_
    simp only [Bool.false_eq_true, if_false]
    refine Ev.step (fun k => by rw [index_reader_list.j1]) ?_
    exact list_bad b _ _ _ _ _
  have e1 : (gu (b.drop p)).2.2 = 0 := Decidable.not_not.mp c1
  have hS := some_ok b hb hl p hp e1
  have hG := gu_ok (hb.drop p) e1
  have hle := step_len hb p hp e1
  by_cases c2 : (gu (b.drop p)).1 > 65535
  · have e : gl b p = (9, [], p) := by unfold gl; rw [if_neg c1, if_pos c2]
    have hd : decide ((gu (b.drop p)).1 > 65535) = true := decide_eq_true c2
    rw [e]
    refine ⟨fun h => absurd (show (9 : Int) = 0 from h) (by decide), fun _ => ⟨[], ((p + (gu (b.drop p)).2.1.toNat : Nat) : Int), ?_⟩⟩
    unfold index_reader_list.f
    refine Ev.bind hS ?_
    simp only [Option.isNone_none, if_true, hd]
    refine Ev.step (fun k => by rw [index_reader_list.j0, if_pos rfl]) ?_
    refine Ev.step (fun k => by rw [index_reader_list.j1]) ?_
    exact list_bad b _ _ _ _ _
  have e : gl b p = ents b (gu (b.drop p)).1.toNat (p + (gu (b.drop p)).2.1.toNat) := by unfold gl; rw [if_neg c1, if_neg c2]
  have hd : decide ((gu (b.drop p)).1 > 65535) = false := decide_eq_false c2
  obtain ⟨m, hm⟩ : ∃ m : Nat, (gu (b.drop p)).1 = (m : Int) := ⟨(gu (b.drop p)).1.toNat, by omega⟩
  have hL := list_loop hb hl m (by omega) m 0 (p + (gu (b.drop p)).2.1.toNat) [] (by omega) hle (by rw [List.length_nil]; omega)
  rw [e, hm, Int.toNat_natCast]
  rw [hm] at hS hd
  simp only [List.nil_append] at hL
  have hstart : ∀ r, Ev (fun k => index_reader_list.l0 k (m : Int) [] ((0 : Nat) : Int) b ((p + (gu (b.drop p)).2.1.toNat : Nat) : Int) none) r → Ev (fun k => index_reader_list.f k b (p : Int) none) r := by
    intro r hr
    unfold index_reader_list.f
    refine Ev.bind hS ?_
    simp only [Option.isNone_none, if_true, hd]
    refine Ev.step (fun k => by rw [index_reader_list.j0]) ?_
    simp only [Bool.false_eq_true, if_false]
    refine Ev.step (fun k => by rw [index_reader_list.j1]) ?_
    exact hr
  refine ⟨fun h0 => hstart _ (hL.1 h0), fun h0 => ?_⟩
  obtain ⟨l, a, hr⟩ := hL.2 h0
  exact ⟨l, a, hstart _ hr⟩
end Go.Proofs.Ytiahbcaoikoogaa.PIdx
namespace Go.Proofs.Ytiahbcaoikoogaa.PIdx
open Go Go.RowKit Go.Proofs.Ytiahbcaoikoogaa Go.Proofs.Ytiahbcaoikoogaa.All Go.Proofs.YtiahbcaoikoogaaW.PrintWords Go.Proofs.YtiahbcaoikoogaaW.PrintLast
open PUvar
structure WfE (e : S89) : Prop where
  m : -9223372036854775808 ≤ e.f0 ∧ e.f0 < 9223372036854775808
  s : 0 ≤ e.f1 ∧ e.f1 < 18446744073709551616
  c : 0 ≤ e.f2 ∧ e.f2 < 18446744073709551616
  l : 0 ≤ e.f3 ∧ e.f3 < 18446744073709551616
def okE (e : S89) : Bool := decide (e.f0 + e.f1 ≤ 9223372036854775807) && (decide (e.f2 ≤ 65535) && decide (e.f3 ≤ 2147483647))
def ent (e : S89) : S72 := ⟨e.f0, e.f0 + e.f1, e.f2, e.f3⟩
def fit : List S89 → Int → Bool
  | [], r => decide (r = 0)
  | e :: t, r => okE e && (decide (e.f3 ≤ r) && fit t (r - e.f3))
theorem w_max (a s : Int) (ha : -9223372036854775808 ≤ a ∧ a < 9223372036854775808) (hs : 0 ≤ s ∧ s < 18446744073709551616) :
    (IntKind.u64.wrap ((IntKind.u64.wrap (wrap64 (a + wrap64 s))) - (IntKind.u64.wrap a))) = s ∧ (wrap64 (a + wrap64 s) < a ↔ ¬ a + s ≤ 9223372036854775807) ∧ (a + s ≤ 9223372036854775807 → wrap64 (a + wrap64 s) = a + s) := by
  rw [Ib.wrap_u64, Ib.wrap_u64, Ib.wrap_u64]
  unfold wrap64
  omega
theorem entry_is (e : S89) (h : WfE e) : index_entry.f e.f0 e.f1 e.f2 e.f3 = some (if okE e = true then (e.f0, e.f0 + e.f1, e.f2, e.f3, true) else (0, 0, 0, 0, false)) := by
  obtain ⟨h1, h2, h3⟩ := w_max e.f0 e.f1 h.m h.s
  unfold index_entry.f okE
  rw [if_pos h1]
  by_cases c1 : e.f0 + e.f1 ≤ 9223372036854775807
  · rw [if_neg (fun hh => h2.mp hh c1), h3 c1]
    by_cases c2 : e.f2 ≤ 65535
    · by_cases c3 : e.f3 ≤ 2147483647
      · rw [if_neg (show ¬ e.f2 > 65535 by omega), if_neg (show ¬ e.f3 > 2147483647 by omega), w64 e.f2 (by have := h.c; omega), w64 e.f3 (by have := h.l; omega)]
        simp [c1, c2, c3]
      · rw [if_neg (show ¬ e.f2 > 65535 by omega), if_pos (show e.f3 > 2147483647 by omega)]
        simp [c3]
    · rw [if_pos (show e.f2 > 65535 by omega)]
      simp [c2]
  · rw [if_pos (h2.mpr c1)]
    simp [c1]
theorem rd89 (l : List S89) (i : Nat) (h : i < l.length) : rd_T89 l (i : Int) = l[i] := by
  unfold rd_T89
  rw [Int.toNat_natCast, List.getD_eq_getElem?_getD, List.getElem?_eq_getElem h]; rfl
theorem nb8 {l : List Int} (h : Bs.Bytes l) (hl : l.length ≤ 8) : 0 ≤ nb l ∧ nb l < 18446744073709551616 := by
  have h1 := nb_range h l.length (Nat.le_refl _)
  rw [List.take_length] at h1
  have := pow_le8 hl
  omega
theorem w64_range (v : Int) : -9223372036854775808 ≤ wrap64 v ∧ wrap64 v < 9223372036854775808 := by unfold wrap64; omega
theorem one_wf {b : List Int} (hb : Bs.Bytes b) {p : Nat} (h : OneOk b p) : WfE (one b p).2.1 := by
  have h1 := gu_ok (hb.drop _) h.e1
  have h2 := gu_ok (hb.drop _) h.e2
  have h3 := gu_ok (hb.drop _) h.e3
  rw [h.is]
  exact ⟨w64_range _, ⟨h1.1, h1.2.1⟩, ⟨h2.1, h2.2.1⟩, ⟨h3.1, h3.2.1⟩⟩
theorem ents_facts {b : List Int} (hb : Bs.Bytes b) : ∀ (m p : Nat), p ≤ b.length → (ents b m p).1 = 0 → (∀ e ∈ (ents b m p).2.1, WfE e) ∧ (ents b m p).2.1.length = m ∧ p ≤ (ents b m p).2.2 ∧ (ents b m p).2.2 ≤ b.length := by
  intro m
  induction m with
  | zero => intro p hp h; exact ⟨fun e he => by simp [ents] at he, rfl, Nat.le_refl _, hp⟩
  | succ m ih =>
    intro p hp h
    by_cases c : (one b p).1 = 0
    · have hO := one_ok hb c
      have hle : p ≤ (one b p).2.2 ∧ (one b p).2.2 ≤ b.length := by
        have e : (one b p).2.2 = q3 b p := by rw [hO.is]
        have := hO.p1; have := hO.p2; have := hO.p3
        rw [e]; omega
      rw [ents_ok c] at h ⊢
      obtain ⟨i1, i2, i3, i4⟩ := ih (one b p).2.2 hle.2 h
      refine ⟨fun e he => ?_, ?_, Nat.le_trans hle.1 i3, i4⟩
      · rcases List.mem_cons.mp he with he | he
        · rw [he]; exact one_wf hb hO
        · exact i1 e he
      · rw [List.length_cons, i2]
    · rw [ents_err c] at h
      exact absurd h c
theorem gl_facts {b : List Int} (hb : Bs.Bytes b) {p : Nat} (hp : p ≤ b.length) (h : (gl b p).1 = 0) : (∀ e ∈ (gl b p).2.1, WfE e) ∧ (gl b p).2.1.length ≤ 65535 ∧ p ≤ (gl b p).2.2 ∧ (gl b p).2.2 ≤ b.length := by
  by_cases c1 : (gu (b.drop p)).2.2 ≠ 0
  · unfold gl at h; rw [if_pos c1] at h; exact absurd h c1
  by_cases c2 : (gu (b.drop p)).1 > 65535
  · unfold gl at h; rw [if_neg c1, if_pos c2] at h; exact absurd (show (9 : Int) = 0 from h) (by decide)
  have e : gl b p = ents b (gu (b.drop p)).1.toNat (p + (gu (b.drop p)).2.1.toNat) := by unfold gl; rw [if_neg c1, if_neg c2]
  have hle := step_len hb p hp (Decidable.not_not.mp c1)
  rw [e] at h ⊢
  obtain ⟨i1, i2, i3, i4⟩ := ents_facts hb _ _ hle h
  exact ⟨i1, by omega, by omega, i4⟩
theorem get_l0 (b : List Int) (kind at_ : Int) (raws : List S89) (hw : ∀ e ∈ raws, WfE e) (hn : raws.length ≤ 65535) : ∀ (d i : Nat) (acc : List S72) (rest : Int), i + d = raws.length → acc.length = i → 0 ≤ rest → rest < 140737488355328 →
    Ev (fun k => index_Get.l0 k rest raws (raws.length : Int) (i : Int) b at_ none kind acc)
      (if (fit (raws.drop i) rest && M kind (acc ++ (raws.drop i).map ent)) = true then (kind, acc ++ (raws.drop i).map ent, at_, none) else (0, [], 0, some 8)) := by
  intro d
  induction d with
  | zero =>
    intro i acc rest hi ha h0 h1
    have hno : ¬ (i : Int) < (raws.length : Int) := by omega
    have hM := may_is kind acc (by omega)
    rw [List.drop_of_length_le (show raws.length ≤ i by omega)]
    simp only [fit, List.map_nil, List.append_nil]
    refine Ev.step (fun k => by rw [index_Get.l0, if_neg hno]) ?_
    by_cases c : rest = 0
    · simp only [if_pos c]
      refine Ev.bind hM ?_
      have hd : decide (rest = 0) = true := decide_eq_true c
      simp only [hd, Bool.true_and]
      cases M kind acc with
      | true => simp only [if_true]; exact Ev.now _
      | false => simp only [Bool.false_eq_true, if_false]; exact Ev.now _
    · have hd : decide (rest = 0) = false := decide_eq_false c
      simp only [if_neg c, hd, Bool.false_and, Bool.false_eq_true, if_false]
      exact Ev.now _
  | succ d ih =>
    intro i acc rest hi ha h0 h1
    have hlt : i < raws.length := by omega
    have hlt' : (i : Int) < (raws.length : Int) := by omega
    have hwe := hw _ (List.getElem_mem hlt)
    have hE := entry_is raws[i] hwe
    have hdrop : raws.drop i = raws[i] :: raws.drop (i + 1) := List.drop_eq_getElem_cons hlt
    have hws := wr_succ i (by omega)
    have ha' : acc.length < 4398046511104 := by omega
    rw [hdrop]
    simp only [fit, List.map_cons]
    by_cases c : okE raws[i] = true
    · rw [if_pos c] at hE
      by_cases c2 : raws[i].f3 ≤ rest
      · have hl3 := hwe.l.1
        have hwr : wrap64 (rest - raws[i].f3) = rest - raws[i].f3 := w64 _ (by omega)
        have hI := ih (i + 1) (acc ++ [ent raws[i]]) (rest - raws[i].f3) (by omega) (by rw [List.length_append, List.length_singleton]; omega) (by omega) (by omega)
        rw [List.append_assoc] at hI
        have hd : decide (raws[i].f3 ≤ rest) = true := decide_eq_true c2
        simp only [c, hd, Bool.true_and]
        refine Ev.step (fun k => by rw [index_Get.l0, if_pos hlt', if_pos (Int.natCast_nonneg i), if_pos hlt', rd89 raws i hlt, hE, Option.bind_some, if_pos rfl, if_neg (show ¬ raws[i].f3 > rest by omega), if_pos ha', hwr, hws]) ?_
        exact hI
      · have hd : decide (raws[i].f3 ≤ rest) = false := decide_eq_false c2
        simp only [hd, Bool.false_and, Bool.and_false, Bool.false_eq_true, if_false]
        refine Ev.step (fun k => by rw [index_Get.l0, if_pos hlt', if_pos (Int.natCast_nonneg i), if_pos hlt', rd89 raws i hlt, hE, Option.bind_some, if_pos rfl, if_pos (show raws[i].f3 > rest by omega)]) ?_
        exact Ev.now _
    · rw [if_neg c] at hE
      have cf : okE raws[i] = false := by simpa using c
      simp only [cf, Bool.false_and, Bool.false_eq_true, if_false]
      refine Ev.step (fun k => by rw [index_Get.l0, if_pos hlt', if_pos (Int.natCast_nonneg i), if_pos hlt', rd89 raws i hlt, hE, Option.bind_some, if_neg (show ¬ false = true by decide)]) ?_
      exact Ev.now _
def pre (b : List Int) : Bool := if b.length < 4 then false else (strOfNums (b.take 4)).toList == ([71, 84, 83, 49] : List UInt8)
theorem magic_list : (⟨#[71, 84, 83, 49]⟩ : ByteArray).toList = ([71, 84, 83, 49] : List UInt8) := by
  rw [show (⟨#[71, 84, 83, 49]⟩ : ByteArray) = strOfNums [71, 84, 83, 49] from rfl, Lib.strOfNums_toList]; rfl
theorem extract_is (b : List Int) : (strOfNums b).extract 0 4 = strOfNums (b.take 4) := by
  apply ByteArray.ext
  rw [ByteArray.data_extract]
  unfold strOfNums
  simp [List.map_take]
theorem pre_is (b : List Int) : strings_HasPrefix.f (strOfNums b) (⟨#[71, 84, 83, 49]⟩ : ByteArray) = some (pre b) := by
  have hs : ((⟨#[71, 84, 83, 49]⟩ : ByteArray).size : Int) = 4 := rfl
  have hz : ((strOfNums b).size : Int) = (b.length : Int) := by rw [strOfNums_size]
  unfold strings_HasPrefix.f stringslite_HasPrefix.f pre
  rw [hs, hz]
  by_cases c : b.length < 4
  · rw [if_neg (show ¬ (b.length : Int) ≥ 4 by omega), if_pos c]; rfl
  · rw [if_pos (show (b.length : Int) ≥ 4 by omega), if_pos (show (0 : Int) ≤ 4 by decide), if_pos (show (4 : Int) ≤ (b.length : Int) by omega), if_neg c, show ((4 : Int).toNat) = 4 from rfl, extract_is, magic_list]
    rfl
def crcN (xs : List Int) : Int := ((~~~ (Crc.eat (BitVec.allOnes 32) xs)).toNat : Int)
theorem crcN_range (xs : List Int) : 0 ≤ crcN xs ∧ crcN xs < 4294967296 := by
  unfold crcN
  have := (~~~ (Crc.eat (BitVec.allOnes 32) xs)).isLt
  omega
noncomputable def getS (b : List Int) : Int × List S72 × Int × Int :=
  if ¬ pre b = true then (0, [], 0, 5)
  else if b.length < 5 then (0, [], 0, 2)
  else if ¬ (rd b 4 = 1 ∨ rd b 4 = 2) then (0, [], 0, 6)
  else if (gl b 5).1 ≠ 0 then (0, [], 0, (gl b 5).1)
  else if b.length < (gl b 5).2.2 + 4 then (0, [], 0, 2)
  else if nb ((b.drop (gl b 5).2.2).take 4) ≠ crcN (b.take (gl b 5).2.2) then (0, [], 0, 7)
  else if (fit (gl b 5).2.1 ((b.length - (gl b 5).2.2 - 4 : Nat) : Int) && M (rd b 4) ((gl b 5).2.1.map ent)) = true then (rd b 4, (gl b 5).2.1.map ent, (((gl b 5).2.2 + 4 : Nat) : Int), 0)
  else (0, [], 0, 8)
theorem get_tail_bad (b c : List Int) (l : List S89) (a e kind : Int) : Ev (fun k => index_Get.j2 k b l false c a (some e) kind) (0, [], 0, some e) := by
  refine Ev.step (fun k => by rw [index_Get.j2, if_neg (show ¬ false = true by decide)]) ?_
  refine Ev.step (fun k => by rw [index_Get.j3, if_neg (show ¬ (some e).isNone = true by simp)]) ?_
  exact Ev.now _
theorem get_mid_bad (b : List Int) (l : List S89) (a e kind : Int) (at_ : Int) (er : Option Int) (h : Ev (fun k => index_reader_list.f k b at_ er) (l, b, a, some e)) : Ev (fun k => index_Get.j1 k b b at_ er kind) (0, [], 0, some e) := by
  refine Ev.step (fun k => by rw [index_Get.j1]) ?_
  refine Ev.bind h (Ev.bind (fixed_bad b a 4 e) ?_)
  simp only [Option.isNone_some, Bool.false_eq_true, if_false, Option.getD_some]
  exact get_tail_bad b b l a e kind
theorem nb1 {b : List Int} (h : 4 < b.length) : nb ((b.drop 4).take 1) = rd b 4 := by
  rw [show (4 : Int) = ((4 : Nat) : Int) from rfl, rd_get b 4 h, List.drop_eq_getElem_cons h, List.take_succ_cons, List.take_zero]
  unfold nb
  rw [List.foldl_cons, List.foldl_nil]
  omega
theorem rd_range {b : List Int} (hb : Bs.Bytes b) (i : Nat) (h : i < b.length) : 0 ≤ rd b (i : Int) ∧ rd b (i : Int) < 256 := by
  rw [rd_get b i h]; exact hb _ (List.getElem_mem h)
theorem Get_is (b : List Int) (hb : Bs.Bytes b) (hl : b.length < 140737488355328) : Ev (fun k => index_Get.f k b) ((getS b).1, (getS b).2.1, (getS b).2.2.1, er (getS b).2.2.2) := by
  have hP := pre_is b
  refine Ev.congr (f := fun k => if pre b = true then _ else _) (fun k => by unfold index_Get.f; rw [hP, Option.bind_some]) ?_
  by_cases c0 : pre b = true
  · simp only [if_pos c0]
    have h4 : 4 ≤ b.length := by
      refine Decidable.byContradiction fun hh => ?_
      unfold pre at c0; rw [if_pos (show b.length < 4 by omega)] at c0; exact absurd c0 (by decide)
    by_cases c1 : b.length < 5
    · have e : getS b = (0, [], 0, 2) := by unfold getS; rw [if_neg (fun hh => hh c0), if_pos c1]
      rw [e]
      refine Ev.bind (fixed_short b hl 4 1 (by omega) h4 (by omega)) ?_
      simp only [Option.isNone_some, Bool.false_eq_true, if_false, Option.getD_some]
      refine Ev.step (fun k => by rw [index_Get.j0, if_neg (show ¬ false = true by decide)]) ?_
      exact get_mid_bad b [] _ _ _ _ _ (list_f_bad b _ _)
    have hF := fixed_ok b hb hl 4 1 (by omega) (by omega)
    have hr := rd_range hb 4 (by omega)
    have hr' : 0 ≤ rd b 4 ∧ rd b 4 < 256 := hr
    have hwv : wrap64 (rd b 4) = rd b 4 := w64 _ (by omega)
    rw [nb1 (by omega)] at hF
    refine Ev.bind hF ?_
    simp only [Option.isNone_none, if_true, hwv]
    by_cases c2 : rd b 4 = 1 ∨ rd b 4 = 2
    · have hj : ∀ r, Ev (fun k => index_Get.j1 k b b ((4 + 1 : Nat) : Int) none (rd b 4)) r → Ev (fun k => if rd b 4 = 1 then index_Get.j0 k b false b ((4 + 1 : Nat) : Int) none (rd b 4) else index_Get.j0 k b (rd b 4 != 2) b ((4 + 1 : Nat) : Int) none (rd b 4)) r := by
        intro r hr
        have h0 : Ev (fun k => index_Get.j0 k b false b ((4 + 1 : Nat) : Int) none (rd b 4)) r := Ev.step (fun k => by rw [index_Get.j0, if_neg (show ¬ false = true by decide)]) hr
        by_cases c3 : rd b 4 = 1
        · simp only [if_pos c3]; exact h0
        · have hb2 : (rd b 4 != 2) = false := by rcases c2 with h | h; exact absurd h c3; rw [h]; rfl
          simp only [if_neg c3, hb2]; exact h0
      refine hj _ ?_
      have hL := list_is hb hl (show 5 ≤ b.length by omega)
      by_cases c4 : (gl b 5).1 ≠ 0
      · have e : getS b = (0, [], 0, (gl b 5).1) := by unfold getS; rw [if_neg (fun hh => hh c0), if_neg c1, if_neg (fun hh => hh c2), if_pos c4]
        obtain ⟨l, a, h⟩ := hL.2 c4
        rw [e]
        show Ev _ (0, [], 0, er (gl b 5).1)
        rw [er, if_neg c4]
        exact get_mid_bad b l a _ _ _ _ h
      have e0 : (gl b 5).1 = 0 := Decidable.not_not.mp c4
      have hL1 := hL.1 e0
      obtain ⟨g1, g2, g3, g4⟩ := gl_facts hb (show 5 ≤ b.length by omega) e0
      refine Ev.step (fun k => by rw [index_Get.j1]) ?_
      refine Ev.bind hL1 ?_
      by_cases c5 : b.length < (gl b 5).2.2 + 4
      · have e : getS b = (0, [], 0, 2) := by unfold getS; rw [if_neg (fun hh => hh c0), if_neg c1, if_neg (fun hh => hh c2), if_neg c4, if_pos c5]
        rw [e]
        refine Ev.bind (fixed_short b hl (gl b 5).2.2 4 (by omega) g4 c5) ?_
        simp only [Option.isNone_some, Bool.false_eq_true, if_false, Option.getD_some]
        exact get_tail_bad b b _ _ _ _
      have hF4 := fixed_ok b hb hl (gl b 5).2.2 4 (by omega) (by omega)
      have hC := PCrc.sum_is (b.take (gl b 5).2.2) (by rw [List.length_take]; omega)
      have hcr := crcN_range (b.take (gl b 5).2.2)
      have hwc : IntKind.u64.wrap (crcN (b.take (gl b 5).2.2)) = crcN (b.take (gl b 5).2.2) := by rw [Ib.wrap_u64]; omega
      refine Ev.bind hF4 ?_
      simp only [Option.isNone_none, if_true, if_pos (Int.natCast_nonneg (gl b 5).2.2), if_pos (show ((gl b 5).2.2 : Int) ≤ (b.length : Int) by omega), Int.toNat_natCast]
      refine Ev.bind hC ?_
      show Ev (fun k => index_Get.j2 k b (gl b 5).2.1 (nb ((b.drop (gl b 5).2.2).take 4) != IntKind.u64.wrap (crcN (b.take (gl b 5).2.2))) b (((gl b 5).2.2 + 4 : Nat) : Int) none (rd b 4)) _
      rw [hwc]
      by_cases c6 : nb ((b.drop (gl b 5).2.2).take 4) ≠ crcN (b.take (gl b 5).2.2)
      · have e : getS b = (0, [], 0, 7) := by unfold getS; rw [if_neg (fun hh => hh c0), if_neg c1, if_neg (fun hh => hh c2), if_neg c4, if_neg c5, if_pos c6]
        have hne : (nb ((b.drop (gl b 5).2.2).take 4) != crcN (b.take (gl b 5).2.2)) = true := bne_iff_ne.mpr c6
        rw [e, hne]
        refine Ev.step (fun k => by rw [index_Get.j2, if_pos rfl]) ?_
        refine Ev.step (fun k => by rw [index_Get.j3, if_neg (show ¬ (some (7 : Int)).isNone = true by simp)]) ?_
        exact Ev.now _
      have hq : (nb ((b.drop (gl b 5).2.2).take 4) != crcN (b.take (gl b 5).2.2)) = false := by rw [Decidable.not_not.mp c6]; exact bne_self_eq_false _
      have hwl : wrap64 ((b.length : Int) - (((gl b 5).2.2 + 4 : Nat) : Int)) = ((b.length - (gl b 5).2.2 - 4 : Nat) : Int) := by rw [w64 _ (by omega)]; omega
      have hG := get_l0 b (rd b 4) (((gl b 5).2.2 + 4 : Nat) : Int) (gl b 5).2.1 g1 g2 (gl b 5).2.1.length 0 [] ((b.length - (gl b 5).2.2 - 4 : Nat) : Int) (by omega) rfl (by omega) (by omega)
      rw [List.drop_zero, List.nil_append] at hG
      rw [hq]
      refine Ev.step (fun k => by rw [index_Get.j2, if_neg (show ¬ false = true by decide)]) ?_
      refine Ev.step (fun k => by rw [index_Get.j3, if_pos (show (none : Option Int).isNone = true from rfl), hwl]) ?_
      by_cases c7 : (fit (gl b 5).2.1 ((b.length - (gl b 5).2.2 - 4 : Nat) : Int) && M (rd b 4) ((gl b 5).2.1.map ent)) = true
      · have e : getS b = (rd b 4, (gl b 5).2.1.map ent, (((gl b 5).2.2 + 4 : Nat) : Int), 0) := by unfold getS; rw [if_neg (fun hh => hh c0), if_neg c1, if_neg (fun hh => hh c2), if_neg c4, if_neg c5, if_neg c6, if_pos c7]
        rw [if_pos c7] at hG
        rw [e]
        exact hG
      · have e : getS b = (0, [], 0, 8) := by unfold getS; rw [if_neg (fun hh => hh c0), if_neg c1, if_neg (fun hh => hh c2), if_neg c4, if_neg c5, if_neg c6, if_neg c7]
        rw [if_neg c7] at hG
        rw [e]
        exact hG
    · have e : getS b = (0, [], 0, 6) := by unfold getS; rw [if_neg (fun hh => hh c0), if_neg c1, if_pos c2]
      have hne : (rd b 4 != 2) = true := bne_iff_ne.mpr (fun h => c2 (.inr h))
      rw [e]
      simp only [if_neg (fun h => c2 (.inl h) : ¬ rd b 4 = 1), hne]
      refine Ev.step (fun k => by rw [index_Get.j0, if_pos rfl]) ?_
      exact get_mid_bad b [] _ _ _ _ _ (list_f_bad b _ _)
  · have e : getS b = (0, [], 0, 5) := by unfold getS; rw [if_pos c0]
    rw [e]
    simp only [if_neg c0]
    exact Ev.now _
end Go.Proofs.Ytiahbcaoikoogaa.PIdx
namespace Go.Proofs.Ytiahbcaoikoogaa.PIdx
open Go Go.RowKit Go.Proofs.Ytiahbcaoikoogaa Go.Proofs.Ytiahbcaoikoogaa.All Go.Proofs.YtiahbcaoikoogaaW.PrintWords Go.Proofs.YtiahbcaoikoogaaW.PrintLast
open PUvar
theorem w1 : wrap64 ((0 : Int) + 1) = 1 := w64 _ (by omega)
theorem w2 : wrap64 ((1 : Int) + 1) = 2 := w64 _ (by omega)
theorem w3 : wrap64 ((2 : Int) + 1) = 3 := w64 _ (by omega)
def u64 (v : Int) : Int := IntKind.u64.wrap v
theorem u64_range (v : Int) : 0 ≤ u64 v ∧ u64 v < 18446744073709551616 := by unfold u64; rw [Ib.wrap_u64]; omega
def crcP (xs : List Int) : Int := ((~~~ (Crc.eat (BitVec.allOnes 32) xs)).toNat : Int)
theorem crcP_range (xs : List Int) : 0 ≤ crcP xs ∧ crcP xs < 4294967296 := by
  unfold crcP
  have := (~~~ (Crc.eat (BitVec.allOnes 32) xs)).isLt
  omega
theorem crcP_u64 (xs : List Int) : IntKind.u64.wrap (crcP xs) = crcP xs := by have := crcP_range xs; rw [Ib.wrap_u64]; omega
def en (x : S72) : List Int := bg 8 (u64 x.f0) ++ (uv (u64 (u64 x.f1 - u64 x.f0)) ++ (uv (u64 x.f2) ++ uv (u64 x.f3)))
def body (kind : Int) (l : List S72) : List Int := [71, 84, 83, 49, kind % 256] ++ (uv (u64 (l.length : Int)) ++ (l.map en).flatten)
def putS (kind : Int) (l : List S72) : List Int := body kind l ++ bg 4 (crcP (body kind l))
theorem uv_len (v : Int) (h : 0 ≤ v ∧ v < 18446744073709551616) : (uv v).length ≤ 10 := by
  obtain ⟨n, h1, h2, _⟩ := uv_is v h
  omega
theorem en_len (x : S72) : (en x).length ≤ 38 := by
  have h1 := uv_len _ (u64_range (u64 x.f1 - u64 x.f0)); have h2 := uv_len _ (u64_range x.f2); have h3 := uv_len _ (u64_range x.f3)
  unfold en
  rw [List.length_append, List.length_append, List.length_append, bg_length]
  omega
theorem put_l1 (l : List S72) (i : Nat) (acc : List Int) (hl : acc.length + 30 < 140737488355328) (v1 v2 v3 : Int) (h1 : 0 ≤ v1 ∧ v1 < 18446744073709551616) (h2 : 0 ≤ v2 ∧ v2 < 18446744073709551616) (h3 : 0 ≤ v3 ∧ v3 < 18446744073709551616) (n : Int) (r)
    (hr : Ev (fun k => index_Put.l0 k (acc ++ (uv v1 ++ (uv v2 ++ uv v3))) l n (wrap64 ((i : Int) + 1))) r) :
    Ev (fun k => index_Put.l1 k acc l n (i : Int) [v1, v2, v3] 3 0) r := by
  have u1 := Put_is v1 h1; have u2 := Put_is v2 h2; have u3 := Put_is v3 h3
  have n1 := uv_len v1 h1; have n2 := uv_len v2 h2; have n3 := uv_len v3 h3
  have r0 : rd [v1, v2, v3] 0 = v1 := rfl
  have r1 : rd [v1, v2, v3] 1 = v2 := rfl
  have r2 : rd [v1, v2, v3] 2 = v3 := rfl
  have l3 : (([v1, v2, v3] : List Int).length : Int) = 3 := rfl
  refine Ev.step (fun k => by rw [index_Put.l1, if_pos (show (0 : Int) < 3 by decide), if_pos (show (0 : Int) ≤ 0 by decide), l3, if_pos (show (0 : Int) < 3 by decide), r0]) ?_
  refine Ev.bind u1 ?_
  simp only [if_pos (show acc.length + (uv v1).length < 140737488355328 by omega), w1]
  refine Ev.step (fun k => by rw [index_Put.l1, if_pos (show (1 : Int) < 3 by decide), if_pos (show (0 : Int) ≤ 1 by decide), l3, if_pos (show (1 : Int) < 3 by decide), r1]) ?_
  refine Ev.bind u2 ?_
  simp only [if_pos (show (acc ++ uv v1).length + (uv v2).length < 140737488355328 by rw [List.length_append]; omega), w2]
  refine Ev.step (fun k => by rw [index_Put.l1, if_pos (show (2 : Int) < 3 by decide), if_pos (show (0 : Int) ≤ 2 by decide), l3, if_pos (show (2 : Int) < 3 by decide), r2]) ?_
  refine Ev.bind u3 ?_
  simp only [if_pos (show (acc ++ uv v1 ++ uv v2).length + (uv v3).length < 140737488355328 by rw [List.length_append, List.length_append]; omega), w3]
  refine Ev.step (fun k => by rw [index_Put.l1, if_neg (show ¬ (3 : Int) < 3 by decide)]) ?_
  rw [List.append_assoc, List.append_assoc]
  exact hr
theorem put_l0 (l : List S72) (hn : l.length ≤ 65535) : ∀ (d i : Nat) (acc : List Int), i + d = l.length → acc.length + 38 * d + 4 < 140737488355328 →
    Ev (fun k => index_Put.l0 k acc l (l.length : Int) (i : Int)) ((acc ++ ((l.drop i).map en).flatten) ++ bg 4 (crcP (acc ++ ((l.drop i).map en).flatten)), none) := by
  intro d
  induction d with
  | zero =>
    intro i acc hi ha
    have hC := PCrc.sum_is acc (by omega)
    have hN := number_is 4 (crcP acc) acc (by omega) (by omega)
    rw [List.drop_of_length_le (show l.length ≤ i by omega)]
    simp only [List.map_nil, List.flatten_nil, List.append_nil]
    refine Ev.step (fun k => by rw [index_Put.l0, if_neg (show ¬ (i : Int) < (l.length : Int) by omega)]) ?_
    refine Ev.bind hC ?_
    show Ev (fun k => (index_number.f k acc (IntKind.u64.wrap (crcP acc)) 4).bind _) _
    rw [crcP_u64]
    exact Ev.bind hN (Ev.now _)
  | succ d ih =>
    intro i acc hi ha
    have hlt : i < l.length := by omega
    have hlt' : (i : Int) < (l.length : Int) := by omega
    have hN := number_is 8 (u64 l[i].f0) acc (by omega) (by omega)
    have hws := wr_succ i (by omega)
    have hel := en_len l[i]
    have hdrop : l.drop i = l[i] :: l.drop (i + 1) := List.drop_eq_getElem_cons hlt
    have hI := ih (i + 1) (acc ++ en l[i]) (by omega) (by rw [List.length_append]; omega)
    rw [hdrop]
    simp only [List.map_cons, List.flatten_cons]
    rw [← List.append_assoc acc (en l[i])]
    rw [← hws] at hI
    refine Ev.step (fun k => by rw [index_Put.l0, if_pos hlt', if_pos (Int.natCast_nonneg i), if_pos hlt', rd72 l i hlt]) ?_
    refine Ev.bind hN ?_
    have e : acc ++ bg 8 (u64 l[i].f0) ++ (uv (u64 (u64 l[i].f1 - u64 l[i].f0)) ++ (uv (u64 l[i].f2) ++ uv (u64 l[i].f3))) = acc ++ en l[i] := by unfold en; rw [List.append_assoc]
    have hp := put_l1 l i (acc ++ bg 8 (u64 l[i].f0)) (by rw [List.length_append, bg_length]; omega) (u64 (u64 l[i].f1 - u64 l[i].f0)) (u64 l[i].f2) (u64 l[i].f3) (u64_range _) (u64_range _) (u64_range _) (l.length : Int) _ (by rw [e]; exact hI)
    exact Ev.congr (fun k => by rw [Option.bind_some]; rfl) hp
theorem Put_i (kind : Int) (l : List S72) (hl : l.length < 140737488355328) : Ev (fun k => index_Put.f k kind l) (if M kind l = true then (putS kind l, none) else ([], some 1)) := by
  have hM := may_is kind l hl
  unfold index_Put.f
  refine Ev.bind hM ?_
  by_cases c : M kind l = true
  · have hn : l.length ≤ 65535 := by
      refine Decidable.byContradiction fun h => ?_
      unfold M at c; rw [if_neg (fun hh => h hh.2)] at c; exact absurd c (by decide)
    have hU := Put_is (u64 (l.length : Int)) (u64_range _)
    have hul := uv_len _ (u64_range (l.length : Int))
    have hP := put_l0 l hn l.length 0 ([71, 84, 83, 49, kind % 256] ++ uv (u64 (l.length : Int))) (by omega) (by rw [List.length_append]; simp only [List.length_cons, List.length_nil]; omega)
    rw [List.drop_zero, List.append_assoc [71, 84, 83, 49, kind % 256]] at hP
    simp only [if_pos c, Option.bind_some, if_pos (show ([71, 84, 83, 49] : List Int).length < 140737488355328 by decide)]
    refine Ev.bind hU ?_
    simp only [if_pos (show ([71, 84, 83, 49] ++ [kind % 256] : List Int).length + (uv (u64 (l.length : Int))).length < 140737488355328 by simp only [List.length_append, List.length_cons, List.length_nil]; omega)]
    exact hP
  · simp only [if_neg c]
    exact Ev.now _
end Go.Proofs.Ytiahbcaoikoogaa.PIdx
namespace Go.Proofs.Ytiahbcaoikoogaa.PIdx
open Go Go.RowKit Go.Proofs.Ytiahbcaoikoogaa Go.Proofs.Ytiahbcaoikoogaa.All Go.Proofs.YtiahbcaoikoogaaW.PrintWords Go.Proofs.YtiahbcaoikoogaaW.PrintLast
open PUvar
theorem nb_from (l : List Int) : ∀ a, l.foldl (fun v c => v * 256 + c) a = a * 2 ^ (8 * l.length) + nb l := by
  induction l with
  | nil => intro a; simp [nb]
  | cons c t ih =>
    intro a
    unfold nb
    rw [List.foldl_cons, List.foldl_cons, ih, ih, List.length_cons, show 8 * (t.length + 1) = 8 + 8 * t.length from by omega, Int.pow_add, show (2 : Int) ^ 8 = 256 from by decide]
    have h1 : (a * 256 + c) * (2 : Int) ^ (8 * t.length) = a * (256 * 2 ^ (8 * t.length)) + c * 2 ^ (8 * t.length) := by rw [Int.add_mul, Int.mul_assoc]
    rw [h1, Int.zero_mul, Int.zero_add]
    omega
theorem nb_cons (c : Int) (t : List Int) : nb (c :: t) = c * 2 ^ (8 * t.length) + nb t := by
  have h := nb_from t (0 * 256 + c)
  unfold nb at h ⊢
  rw [List.foldl_cons, h, Int.zero_mul, Int.zero_add]
theorem pow_cast (n : Nat) : (2 : Int) ^ n = ((2 ^ n : Nat) : Int) := by simp
theorem nb_bg (m : Nat) : ∀ n, nb (bg n (m : Int)) = ((m % 2 ^ (8 * n) : Nat) : Int)
  | 0 => by simp [nb, bg, Nat.mod_one]
  | n + 1 => by
    rw [bg, nb_cons, bg_length, nb_bg m n, pow_cast, show 8 * (n + 1) = 8 * n + 8 from by omega, Nat.pow_add, Nat.mod_mul]
    rw [← Int.natCast_ediv, show ((256 : Int)) = ((256 : Nat) : Int) from rfl, ← Int.natCast_emod, ← Int.natCast_mul, ← Int.natCast_add, show (2 : Nat) ^ 8 = 256 from by decide, Nat.mul_comm, Nat.add_comm]
theorem nb_bg_of (v : Int) (n : Nat) (h0 : 0 ≤ v) (h : v < 2 ^ (8 * n)) : nb (bg n v) = v := by
  obtain ⟨m, rfl⟩ := Int.eq_ofNat_of_zero_le h0
  rw [nb_bg, Nat.mod_eq_of_lt (by rw [pow_cast] at h; omega)]
theorem bg_add (c r : Int) (m : Nat) : ∀ n, n ≤ m → bg n (c * 2 ^ (8 * m) + r) = bg n r
  | 0, _ => rfl
  | n + 1, h => by
    have hp : (0 : Int) < 2 ^ (8 * n) := Int.pow_pos (by decide)
    have e : c * (2 : Int) ^ (8 * m) = (c * 2 ^ (8 * (m - n - 1)) * 256) * 2 ^ (8 * n) := by
      rw [show 8 * m = 8 * (m - n - 1) + (8 + 8 * n) from by omega, Int.pow_add, Int.pow_add, show (2 : Int) ^ 8 = 256 from by decide]
      simp only [Int.mul_assoc]
    rw [bg, bg, bg_add c r m n (by omega), e, Int.add_comm, Int.add_mul_ediv_right _ _ (by omega), show r / 2 ^ (8 * n) + c * 2 ^ (8 * (m - n - 1)) * 256 = r / 2 ^ (8 * n) + 256 * (c * 2 ^ (8 * (m - n - 1))) from by rw [Int.mul_comm 256], Int.add_mul_emod_self_left]
theorem bg_nb : ∀ (l : List Int), Bs.Bytes l → bg l.length (nb l) = l
  | [], _ => rfl
  | c :: t, h => by
    have ht : Bs.Bytes t := fun x hx => h x (List.mem_cons_of_mem _ hx)
    have hc := h c List.mem_cons_self
    have hr := nb_range ht t.length (Nat.le_refl _)
    rw [List.take_length] at hr
    have hp : (0 : Int) < 2 ^ (8 * t.length) := Int.pow_pos (by decide)
    rw [List.length_cons, nb_cons, bg, bg_add c (nb t) t.length t.length (Nat.le_refl _), bg_nb t ht, Int.add_comm, Int.add_mul_ediv_right _ _ (by omega), Int.ediv_eq_zero_of_lt hr.1 hr.2]
    congr 1
    omega
theorem chk_all (l : List S72) : ∀ (d i : Nat), i + d = l.length → chk l d i = true → ∀ j, i ≤ j → (h : j < l.length) → badE l[j] = false := by
  intro d
  induction d with
  | zero => intro i hi _ j h1 h2; omega
  | succ d ih =>
    intro i hi hc j h1 h2
    rw [chk] at hc
    by_cases c : badE (rd_T72 l (i : Int)) = true
    · rw [if_pos c] at hc; exact absurd hc (by decide)
    rw [if_neg c] at hc
    by_cases c2 : 0 < i ∧ (rd_T72 l (i : Int)).f0 ≤ (rd_T72 l ((i - 1 : Nat) : Int)).f1
    · rw [if_pos c2] at hc; exact absurd hc (by decide)
    rw [if_neg c2] at hc
    by_cases e : j = i
    · subst e
      rw [rd72 l j h2] at c
      simpa using c
    · exact ih (i + 1) (by omega) hc j (by omega) h2
structure Fair (x : S72) : Prop where
  c : 1 ≤ x.f2 ∧ x.f2 ≤ 65535
  l : 4 ≤ x.f3 ∧ x.f3 ≤ 2147483647
  o : x.f0 ≤ x.f1
theorem M_facts {kind : Int} {l : List S72} (h : M kind l = true) : (kind = 1 ∨ kind = 2) ∧ l.length ≤ 65535 ∧ ∀ x ∈ l, Fair x := by
  unfold M at h
  by_cases c : (kind = 1 ∨ kind = 2) ∧ l.length ≤ 65535
  · rw [if_pos c] at h
    refine ⟨c.1, c.2, fun x hx => ?_⟩
    obtain ⟨j, hj, rfl⟩ := List.getElem_of_mem hx
    have := chk_all l l.length 0 (by omega) h j (by omega) hj
    unfold badE at this
    simp only [Bool.or_eq_false_iff, decide_eq_false_iff_not] at this
    obtain ⟨h1, h2, h3, h4, h5⟩ := this
    exact ⟨⟨by omega, by omega⟩, ⟨by omega, by omega⟩, by omega⟩
  · rw [if_neg c] at h; exact absurd h (by decide)
structure W72 (x : S72) : Prop where
  m : -9223372036854775808 ≤ x.f0 ∧ x.f0 < 9223372036854775808
  x : -9223372036854775808 ≤ x.f1 ∧ x.f1 < 9223372036854775808
def raw (x : S72) : S89 := ⟨x.f0, x.f1 - x.f0, x.f2, x.f3⟩
theorem ent_raw (l : List S72) : (l.map raw).map ent = l := by
  rw [List.map_map]
  refine List.map_id'' (fun x => ?_) l
  cases x
  show S72.mk _ _ _ _ = _
  congr 1
  show _ + (_ - _) = _
  simp only [raw]
  omega
theorem u64_of (v : Int) (h : 0 ≤ v ∧ v < 18446744073709551616) : u64 v = v := by unfold u64; rw [Ib.wrap_u64]; omega
theorem u64_span (a b : Int) (ha : -9223372036854775808 ≤ a ∧ a < 9223372036854775808) (hb : -9223372036854775808 ≤ b ∧ b < 9223372036854775808) (h : a ≤ b) : u64 (u64 b - u64 a) = b - a := by
  unfold u64; rw [Ib.wrap_u64, Ib.wrap_u64, Ib.wrap_u64]; omega
theorem w64_u64 (a : Int) (ha : -9223372036854775808 ≤ a ∧ a < 9223372036854775808) : wrap64 (u64 a) = a := by
  unfold u64; rw [Ib.wrap_u64]; unfold wrap64; omega
theorem drop_step {b A B : List Int} {p : Nat} (h : b.drop p = A ++ B) : b.drop (p + A.length) = B := by
  rw [← List.drop_drop, h, List.drop_left]
theorem nb8_of (v : Int) : nb (bg 8 (u64 v)) = u64 v := nb_bg_of _ 8 (u64_range v).1 (by rw [show (2 : Int) ^ (8 * 8) = 18446744073709551616 from by decide]; exact (u64_range v).2)
theorem ents_back {b : List Int} : ∀ (l : List S72) (p : Nat) (rest : List Int), (∀ x ∈ l, Fair x) → (∀ x ∈ l, W72 x) → b.drop p = (l.map en).flatten ++ rest → p ≤ b.length → ents b l.length p = (0, l.map raw, p + ((l.map en).flatten).length) := by
  intro l
  induction l with
  | nil => intro p rest _ _ _ _; rfl
  | cons x t ih =>
    intro p rest hF hW hd hp
    have fx := hF x List.mem_cons_self
    have wx := hW x List.mem_cons_self
    simp only [List.map_cons, List.flatten_cons] at hd ⊢
    have e1 := u64_span x.f0 x.f1 wx.m wx.x fx.o
    have e2 := u64_of x.f2 (by have := fx.c; omega)
    have e3 := u64_of x.f3 (by have := fx.l; omega)
    have hen : en x = bg 8 (u64 x.f0) ++ (uv (x.f1 - x.f0) ++ (uv x.f2 ++ uv x.f3)) := by unfold en; rw [e1, e2, e3]
    have hlen := congrArg List.length hd
    rw [hen] at hd
    simp only [List.append_assoc] at hd
    have d1 := drop_step hd
    rw [bg_length] at d1
    have d2 := drop_step d1
    have d3 := drop_step d2
    have d4 := drop_step d3
    have r1 : 0 ≤ x.f1 - x.f0 ∧ x.f1 - x.f0 < 18446744073709551616 := by have := fx.o; have := wx.m; have := wx.x; omega
    have g1 : gu (b.drop (p + 8)) = (x.f1 - x.f0, ((uv (x.f1 - x.f0)).length : Int), 0) := by rw [d1]; exact get_back _ r1 _
    have hq1 : q1 b p = p + 8 + (uv (x.f1 - x.f0)).length := by unfold q1; rw [g1, Int.toNat_natCast]
    have g2 : gu (b.drop (q1 b p)) = (x.f2, ((uv x.f2).length : Int), 0) := by rw [hq1, d2]; exact get_back _ (by have := fx.c; omega) _
    have hq2 : q2 b p = p + 8 + (uv (x.f1 - x.f0)).length + (uv x.f2).length := by unfold q2; rw [g2, Int.toNat_natCast, hq1]
    have g3 : gu (b.drop (q2 b p)) = (x.f3, ((uv x.f3).length : Int), 0) := by rw [hq2, d3]; exact get_back _ (by have := fx.l; omega) _
    have hq3 : q3 b p = p + 8 + (uv (x.f1 - x.f0)).length + (uv x.f2).length + (uv x.f3).length := by unfold q3; rw [g3, Int.toNat_natCast, hq2]
    have hx8 : (en x).length = 8 + ((uv (x.f1 - x.f0)).length + ((uv x.f2).length + (uv x.f3).length)) := by rw [hen, List.length_append, List.length_append, List.length_append, bg_length]
    rw [List.length_drop, List.length_append, List.length_append, hx8] at hlen
    have h8 : nb ((b.drop p).take 8) = u64 x.f0 := by
      have hb8 := bg_length 8 (u64 x.f0)
      rw [hd, List.take_append_of_le_length (by omega), List.take_of_length_le (by omega), nb8_of]
    have hone : one b p = (0, raw x, q3 b p) := by
      unfold one
      rw [if_neg (by omega), if_neg (by rw [g1]; simp), if_neg (by rw [g2]; simp), if_neg (by rw [g3]; simp), g1, g2, g3, h8, w64_u64 _ wx.m]
      rfl
    have hI := ih (q3 b p) rest (fun y hy => hF y (List.mem_cons_of_mem _ hy)) (fun y hy => hW y (List.mem_cons_of_mem _ hy)) (by rw [hq3]; exact d4) (by omega)
    rw [List.length_cons, ents_ok (by rw [hone]), hone, hI]
    simp only [List.length_append, hx8, hq3, Prod.mk.injEq, true_and]
    omega
def lens : List S72 → Int
  | [] => 0
  | x :: t => x.f3 + lens t
theorem fit_raw : ∀ (l : List S72) (r : Int), (∀ x ∈ l, Fair x) → (∀ x ∈ l, W72 x) → (fit (l.map raw) r = true ↔ lens l = r)
  | [], r, _, _ => by simp only [List.map_nil, fit, lens, decide_eq_true_eq]; omega
  | x :: t, r, hF, hW => by
    have hi := fit_raw t (r - x.f3) (fun y hy => hF y (List.mem_cons_of_mem _ hy)) (fun y hy => hW y (List.mem_cons_of_mem _ hy))
    have fx := hF x List.mem_cons_self
    have wx := hW x List.mem_cons_self
    have hs : ∀ (l : List S72), (∀ x ∈ l, Fair x) → 0 ≤ lens l := by
      intro l
      induction l with
      | nil => intro _; simp [lens]
      | cons a l ih => intro hh; have h1 := ih (fun y hy => hh y (List.mem_cons_of_mem _ hy)); have h2 := (hh a List.mem_cons_self).l.1; simp only [lens]; omega
    have h0 := hs t (fun y hy => hF y (List.mem_cons_of_mem _ hy))
    have hok : okE (raw x) = true := by
      have h1 : (raw x).f0 + (raw x).f1 ≤ 9223372036854775807 := by have := wx.x; show x.f0 + (x.f1 - x.f0) ≤ _; omega
      have h2 : (raw x).f2 ≤ 65535 := fx.c.2
      have h3 : (raw x).f3 ≤ 2147483647 := fx.l.2
      unfold okE
      rw [decide_eq_true h1, decide_eq_true h2, decide_eq_true h3]; rfl
    have e : (raw x).f3 = x.f3 := rfl
    rw [show fit ((x :: t).map raw) r = (okE (raw x) && (decide ((raw x).f3 ≤ r) && fit (t.map raw) (r - (raw x).f3))) from rfl, hok, e, Bool.true_and, Bool.and_eq_true, decide_eq_true_eq, hi, lens]
    constructor
    · rintro ⟨h1, h2⟩; omega
    · intro h; exact ⟨by omega, by omega⟩
theorem en_bytes (x : S72) : Bs.Bytes (en x) := by
  have u : ∀ v, 0 ≤ v ∧ v < 18446744073709551616 → Bs.Bytes (uv v) := fun v hv => by obtain ⟨n, _, _, _, _, _, _, h⟩ := uv_is v hv; exact h
  unfold en
  exact (bg_bytes _ _).append ((u _ (u64_range _)).append ((u _ (u64_range _)).append (u _ (u64_range _))))
theorem ens_bytes : ∀ (l : List S72), Bs.Bytes (l.map en).flatten
  | [] => Bs.Bytes.nil
  | x :: t => by rw [List.map_cons, List.flatten_cons]; exact (en_bytes x).append (ens_bytes t)
theorem put_bytes (kind : Int) (l : List S72) : Bs.Bytes (putS kind l) := by
  have u : ∀ v, 0 ≤ v ∧ v < 18446744073709551616 → Bs.Bytes (uv v) := fun v hv => by obtain ⟨n, _, _, _, _, _, _, h⟩ := uv_is v hv; exact h
  unfold putS body
  refine Bs.Bytes.append (Bs.Bytes.append ?_ ((u _ (u64_range _)).append (ens_bytes l))) (bg_bytes _ _)
  exact Bs.Bytes.cons (by omega) (Bs.Bytes.cons (by omega) (Bs.Bytes.cons (by omega) (Bs.Bytes.cons (by omega) (Bs.Bytes.cons (by omega) Bs.Bytes.nil))))
theorem pre_lit (t : List Int) : pre (71 :: 84 :: 83 :: 49 :: t) = true := by
  unfold pre
  rw [if_neg (by simp only [List.length_cons]; omega), show (71 :: 84 :: 83 :: 49 :: t : List Int).take 4 = [71, 84, 83, 49] from rfl, Lib.strOfNums_toList]
  rfl
theorem get_put {kind : Int} {l : List S72} (hM : M kind l = true) (hW : ∀ x ∈ l, W72 x) (zs : List Int) :
    getS (putS kind l ++ zs) = if lens l = (zs.length : Int) then (kind, l, ((putS kind l).length : Int), 0) else (0, [], 0, 8) := by
  obtain ⟨hk, hn, hF⟩ := M_facts hM
  have hk' : kind % 256 = kind := by omega
  have hul : u64 (l.length : Int) = (l.length : Int) := u64_of _ (by omega)
  have hB : putS kind l ++ zs = 71 :: 84 :: 83 :: 49 :: kind :: (uv (l.length : Int) ++ ((l.map en).flatten ++ (bg 4 (crcP (body kind l)) ++ zs))) := by
    unfold putS
    rw [show body kind l = [71, 84, 83, 49, kind % 256] ++ (uv (u64 (l.length : Int)) ++ (l.map en).flatten) from rfl, hk', hul]
    simp only [List.append_assoc, List.cons_append, List.nil_append]
  have hbl : (body kind l).length = 5 + (uv (l.length : Int)).length + ((l.map en).flatten).length := by
    unfold body; rw [hul, List.length_append, List.length_append]; simp only [List.length_cons, List.length_nil]; omega
  have hd0 : (putS kind l ++ zs).drop 5 = uv (l.length : Int) ++ ((l.map en).flatten ++ (bg 4 (crcP (body kind l)) ++ zs)) := by rw [hB]; rfl
  have hd1 := drop_step hd0
  have hd2 := drop_step hd1
  have hlen : (putS kind l ++ zs).length = (body kind l).length + 4 + zs.length := by rw [List.length_append, putS, List.length_append, bg_length]
  have hpl : (putS kind l).length = (body kind l).length + 4 := by rw [putS, List.length_append, bg_length]
  have htk : (putS kind l ++ zs).take (body kind l).length = body kind l := by
    unfold putS; rw [List.append_assoc, List.take_left]
  have hpre : pre (putS kind l ++ zs) = true := by rw [hB]; exact pre_lit _
  have hr4 : rd (putS kind l ++ zs) 4 = kind := by rw [hB]; rfl
  generalize putS kind l ++ zs = b at *
  have g0 : gu (b.drop 5) = ((l.length : Int), ((uv (l.length : Int)).length : Int), 0) := by rw [hd0]; exact get_back _ (by omega) _
  have hE := ents_back l (5 + (uv (l.length : Int)).length) _ hF hW hd1 (by omega)
  have hgl : gl b 5 = (0, l.map raw, (body kind l).length) := by
    unfold gl
    rw [if_neg (by rw [g0]; simp), if_neg (by rw [g0]; show ¬ (l.length : Int) > 65535; omega), g0]
    simp only [Int.toNat_natCast]
    rw [hE, hbl]
  have hcr := crcP_range (body kind l)
  have hd2' : b.drop (body kind l).length = bg 4 (crcP (body kind l)) ++ zs := by rw [hbl]; exact hd2
  have hnb : nb ((b.drop (body kind l).length).take 4) = crcN (b.take (body kind l).length) := by
    have hb4 := bg_length 4 (crcP (body kind l))
    rw [hd2', List.take_append_of_le_length (by omega), List.take_of_length_le (by omega), htk, nb_bg_of _ 4 hcr.1 (by rw [show (2 : Int) ^ (8 * 4) = 4294967296 from by decide]; exact hcr.2)]
    rfl
  have hf := fit_raw l ((b.length - (body kind l).length - 4 : Nat) : Int) hF hW
  have hz : ((b.length - (body kind l).length - 4 : Nat) : Int) = (zs.length : Int) := by omega
  unfold getS
  rw [hgl]
  simp only
  rw [if_neg (fun hh => hh hpre), if_neg (by omega), hr4, if_neg (fun hh => hh hk), if_neg (fun hh => hh rfl), if_neg (by omega), if_neg (fun hh => hh hnb), ent_raw, hM, Bool.and_true, hz]
  rw [hz] at hf
  by_cases c : lens l = (zs.length : Int)
  · rw [if_pos (hf.mpr c), if_pos c, hpl]
  · rw [if_neg (fun hh => c (hf.mp hh)), if_neg c]
theorem seg (b : List Int) (p a c : Nat) : (b.drop p).take a ++ (b.drop (p + a)).take c = (b.drop p).take (a + c) := by
  rw [List.take_add, List.drop_drop]
theorem wn_u64 (v : Int) (h : 0 ≤ v ∧ v < 18446744073709551616) : u64 (wrap64 v) = v := by
  unfold u64 wrap64; rw [Ib.wrap_u64]; omega
theorem u64_add (a s : Int) (hs : 0 ≤ s ∧ s < 18446744073709551616) : u64 (u64 (a + s) - u64 a) = s := by
  unfold u64; rw [Ib.wrap_u64, Ib.wrap_u64, Ib.wrap_u64]; omega
theorem one_canon {b : List Int} (hb : Bs.Bytes b) {p : Nat} (h : OneOk b p) : en (ent (one b p).2.1) = (b.drop p).take (q3 b p - p) := by
  have h1 := gu_ok (hb.drop _) h.e1
  have h2 := gu_ok (hb.drop _) h.e2
  have h3 := gu_ok (hb.drop _) h.e3
  have hr := h.room
  have p1 := h.p1; have p2 := h.p2; have p3 := h.p3
  have hx : ((b.drop p).take 8).length = 8 := by rw [List.length_take, List.length_drop]; omega
  have hn := nb8 (l := (b.drop p).take 8) ((hb.drop _).take _) (by omega)
  have hg := bg_nb ((b.drop p).take 8) ((hb.drop _).take _)
  rw [hx] at hg
  rw [h.is]
  unfold en ent
  simp only
  rw [u64_add _ _ ⟨h1.1, h1.2.1⟩, u64_of _ ⟨h2.1, h2.2.1⟩, u64_of _ ⟨h3.1, h3.2.1⟩, wn_u64 _ hn, hg, h1.2.2.2.2, h2.2.2.2.2, h3.2.2.2.2]
  have s3 := seg b (q1 b p) (gu (b.drop (q1 b p))).2.1.toNat (gu (b.drop (q2 b p))).2.1.toNat
  rw [show q1 b p + (gu (b.drop (q1 b p))).2.1.toNat = q2 b p from rfl] at s3
  rw [s3]
  have s2 := seg b (p + 8) (gu (b.drop (p + 8))).2.1.toNat ((gu (b.drop (q1 b p))).2.1.toNat + (gu (b.drop (q2 b p))).2.1.toNat)
  rw [show p + 8 + (gu (b.drop (p + 8))).2.1.toNat = q1 b p from rfl] at s2
  rw [s2, seg b p 8]
  congr 1
  have e1 : q1 b p = p + 8 + (gu (b.drop (p + 8))).2.1.toNat := rfl
  have e2 : q2 b p = q1 b p + (gu (b.drop (q1 b p))).2.1.toNat := rfl
  have e3 : q3 b p = q2 b p + (gu (b.drop (q2 b p))).2.1.toNat := rfl
  omega
theorem ents_canon {b : List Int} (hb : Bs.Bytes b) : ∀ (m p : Nat), p ≤ b.length → (ents b m p).1 = 0 → (((ents b m p).2.1.map ent).map en).flatten = (b.drop p).take ((ents b m p).2.2 - p) := by
  intro m
  induction m with
  | zero => intro p hp _; simp [ents]
  | succ m ih =>
    intro p hp h
    by_cases c : (one b p).1 = 0
    · have hO := one_ok hb c
      have hq : (one b p).2.2 = q3 b p := by rw [hO.is]
      have p1 := hO.p1; have p2 := hO.p2; have p3 := hO.p3
      rw [ents_ok c] at h ⊢
      rw [hq] at h ⊢
      have hI := ih (q3 b p) p3.2 h
      have hf := ents_facts hb m (q3 b p) p3.2 h
      simp only [List.map_cons, List.flatten_cons]
      rw [one_canon hb hO, hI]
      have s := seg b p (q3 b p - p) ((ents b m (q3 b p)).2.2 - q3 b p)
      rw [show p + (q3 b p - p) = q3 b p from by omega] at s
      rw [s]
      congr 1
      omega
    · rw [ents_err c] at h; exact absurd h c
theorem byte_inj : ∀ {a b : List Int}, Bs.Bytes a → Bs.Bytes b → Lib.bytesOf a = Lib.bytesOf b → a = b
  | [], [], _, _, _ => rfl
  | [], y :: b, _, _, h => by simp [Lib.bytesOf] at h
  | x :: a, [], _, _, h => by simp [Lib.bytesOf] at h
  | x :: a, y :: b, ha, hb, h => by
    have hx := ha x List.mem_cons_self; have hy := hb y List.mem_cons_self
    simp only [Lib.bytesOf, List.map_cons, List.cons.injEq] at h
    have h1 := congrArg UInt8.toNat h.1
    simp only [UInt8.toNat_ofNat'] at h1
    have e : x = y := by omega
    rw [e, byte_inj (fun z hz => ha z (List.mem_cons_of_mem _ hz)) (fun z hz => hb z (List.mem_cons_of_mem _ hz)) (by simpa [Lib.bytesOf] using h.2)]
theorem pre_take {b : List Int} (hb : Bs.Bytes b) (h : pre b = true) : 4 ≤ b.length ∧ b.take 4 = [71, 84, 83, 49] := by
  unfold pre at h
  by_cases c : b.length < 4
  · rw [if_pos c] at h; exact absurd h (by decide)
  rw [if_neg c, Lib.strOfNums_toList, beq_iff_eq] at h
  refine ⟨by omega, byte_inj (hb.take 4) ?_ (h.trans rfl)⟩
  exact Bs.Bytes.cons (by omega) (Bs.Bytes.cons (by omega) (Bs.Bytes.cons (by omega) (Bs.Bytes.cons (by omega) Bs.Bytes.nil)))
theorem get_canon' {b : List Int} (hb : Bs.Bytes b) (h : (getS b).2.2.2 = 0) :
    M (getS b).1 (getS b).2.1 = true ∧ 0 ≤ (getS b).2.2.1 ∧ (getS b).2.2.1 ≤ (b.length : Int) ∧ putS (getS b).1 (getS b).2.1 = b.take (getS b).2.2.1.toNat := by
  by_cases c0 : pre b = true
  · by_cases c1 : b.length < 5
    · unfold getS at h; rw [if_neg (fun hh => hh c0), if_pos c1] at h; exact absurd (show (2 : Int) = 0 from h) (by decide)
    by_cases c2 : rd b 4 = 1 ∨ rd b 4 = 2
    · by_cases c4 : (gl b 5).1 ≠ 0
      · unfold getS at h; rw [if_neg (fun hh => hh c0), if_neg c1, if_neg (fun hh => hh c2), if_pos c4] at h; exact absurd h c4
      by_cases c5 : b.length < (gl b 5).2.2 + 4
      · unfold getS at h; rw [if_neg (fun hh => hh c0), if_neg c1, if_neg (fun hh => hh c2), if_neg c4, if_pos c5] at h; exact absurd (show (2 : Int) = 0 from h) (by decide)
      by_cases c6 : nb ((b.drop (gl b 5).2.2).take 4) ≠ crcN (b.take (gl b 5).2.2)
      · unfold getS at h; rw [if_neg (fun hh => hh c0), if_neg c1, if_neg (fun hh => hh c2), if_neg c4, if_neg c5, if_pos c6] at h; exact absurd (show (7 : Int) = 0 from h) (by decide)
      by_cases c7 : (fit (gl b 5).2.1 ((b.length - (gl b 5).2.2 - 4 : Nat) : Int) && M (rd b 4) ((gl b 5).2.1.map ent)) = true
      · have e : getS b = (rd b 4, (gl b 5).2.1.map ent, (((gl b 5).2.2 + 4 : Nat) : Int), 0) := by unfold getS; rw [if_neg (fun hh => hh c0), if_neg c1, if_neg (fun hh => hh c2), if_neg c4, if_neg c5, if_neg c6, if_pos c7]
        rw [Bool.and_eq_true] at c7
        rw [e]
        refine ⟨c7.2, Int.natCast_nonneg _, by simp only; omega, ?_⟩
        simp only [Int.toNat_natCast]
        have e0 : (gl b 5).1 = 0 := Decidable.not_not.mp c4
        have d1 : (gu (b.drop 5)).2.2 = 0 := by
          refine Decidable.byContradiction fun hh => ?_
          unfold gl at e0; rw [if_pos hh] at e0; exact hh e0
        have d2 : ¬ (gu (b.drop 5)).1 > 65535 := by
          intro hh
          unfold gl at e0; rw [if_neg (fun h => h d1), if_pos hh] at e0; exact absurd (show (9 : Int) = 0 from e0) (by decide)
        have eg : gl b 5 = ents b (gu (b.drop 5)).1.toNat (5 + (gu (b.drop 5)).2.1.toNat) := by unfold gl; rw [if_neg (fun hh => hh d1), if_neg d2]
        have hG := gu_ok (hb.drop 5) d1
        have hle := step_len hb 5 (by omega) d1
        rw [eg] at e0
        have hC := ents_canon hb _ _ hle e0
        have hf := ents_facts hb _ _ hle e0
        rw [← eg] at hC hf
        obtain ⟨hl4, ht4⟩ := pre_take hb c0
        have hr : 0 ≤ rd b 4 ∧ rd b 4 < 256 := rd_range hb 4 (by omega)
        have hr4 : rd b 4 = b[4]'(by omega) := rd_get b 4 (by omega)
        have ht5 : b.take 5 = [71, 84, 83, 49, rd b 4 % 256] := by
          rw [List.take_succ_eq_append_getElem (show 4 < b.length by omega), ht4, show rd b 4 % 256 = rd b 4 from by omega, hr4]; rfl
        have hbody : body (rd b 4) ((gl b 5).2.1.map ent) = b.take (gl b 5).2.2 := by
          unfold body
          rw [List.length_map, hf.2.1, show (((gu (b.drop 5)).1.toNat : Nat) : Int) = (gu (b.drop 5)).1 from by omega, u64_of _ ⟨hG.1, hG.2.1⟩, hG.2.2.2.2, hC, seg b 5, ← ht5]
          have s := seg b 0 5 ((gu (b.drop 5)).2.1.toNat + ((gl b 5).2.2 - (5 + (gu (b.drop 5)).2.1.toNat)))
          simp only [List.drop_zero, Nat.zero_add] at s
          rw [s]
          congr 1
          have := hf.2.2.1
          omega
        have hx : ((b.drop (gl b 5).2.2).take 4).length = 4 := by rw [List.length_take, List.length_drop]; omega
        have hg := bg_nb ((b.drop (gl b 5).2.2).take 4) ((hb.drop _).take _)
        rw [hx, Decidable.not_not.mp c6] at hg
        unfold putS
        rw [hbody]
        show b.take (gl b 5).2.2 ++ bg 4 (crcN (b.take (gl b 5).2.2)) = _
        rw [hg]
        have s := seg b 0 (gl b 5).2.2 4
        simp only [List.drop_zero, Nat.zero_add] at s
        exact s
      · unfold getS at h; rw [if_neg (fun hh => hh c0), if_neg c1, if_neg (fun hh => hh c2), if_neg c4, if_neg c5, if_neg c6, if_neg c7] at h; exact absurd (show (8 : Int) = 0 from h) (by decide)
    · unfold getS at h; rw [if_neg (fun hh => hh c0), if_neg c1, if_pos c2] at h; exact absurd (show (6 : Int) = 0 from h) (by decide)
  · unfold getS at h; rw [if_pos c0] at h; exact absurd (show (5 : Int) = 0 from h) (by decide)
theorem gu_err (ys : List Int) : (gu ys).2.2 = 0 ∨ (gu ys).2.2 = 2 ∨ (gu ys).2.2 = 3 := by
  unfold gu gspec
  split
  · exact .inr (.inl rfl)
  · split
    · exact .inr (.inr rfl)
    · split
      · exact .inr (.inr rfl)
      · exact .inl rfl
theorem one_err (b : List Int) (p : Nat) : 0 ≤ (one b p).1 ∧ (one b p).1 ≤ 9 := by
  unfold one
  have h1 := gu_err (b.drop (p + 8)); have h2 := gu_err (b.drop (q1 b p)); have h3 := gu_err (b.drop (q2 b p))
  split
  · exact ⟨by simp, by simp⟩
  · split
    · simp only; omega
    · split
      · simp only; omega
      · split
        · simp only; omega
        · exact ⟨by simp, by simp⟩
theorem ents_errs (b : List Int) : ∀ (m p : Nat), 0 ≤ (ents b m p).1 ∧ (ents b m p).1 ≤ 9
  | 0, p => ⟨by simp [ents], by simp [ents]⟩
  | m + 1, p => by
    rw [ents_succ]
    split
    · exact one_err b p
    · exact ents_errs b m _
theorem getS_err (b : List Int) : 0 ≤ (getS b).2.2.2 ∧ (getS b).2.2.2 ≤ 9 := by
  have hg : 0 ≤ (gl b 5).1 ∧ (gl b 5).1 ≤ 9 := by
    unfold gl
    have h1 := gu_err (b.drop 5)
    split
    · simp only; omega
    · split
      · exact ⟨by simp, by simp⟩
      · exact ents_errs b _ _
  unfold getS
  split
  · exact ⟨by simp, by simp⟩
  split
  · exact ⟨by simp, by simp⟩
  split
  · exact ⟨by simp, by simp⟩
  split
  · exact hg
  split
  · exact ⟨by simp, by simp⟩
  split
  · exact ⟨by simp, by simp⟩
  split
  · exact ⟨by simp, by simp⟩
  · exact ⟨by simp, by simp⟩
theorem code_er (e : Int) (h : 0 ≤ e ∧ e ≤ 9) : gaiterlaw00_Code.f (er e) = some e := by
  unfold gaiterlaw00_Code.f er
  by_cases c : e = 0
  · rw [if_pos c, c]; rfl
  · rw [if_neg c]
    show some (if 1 ≤ e ∧ e ≤ 9 then e else -1) = some e
    rw [if_pos (by omega)]
end Go.Proofs.Ytiahbcaoikoogaa.PIdx
namespace Go.Proofs.Ytiahbcaoikoogaa.PIdx
open Go Go.RowKit Go.Proofs.Ytiahbcaoikoogaa Go.Proofs.Ytiahbcaoikoogaa.All Go.Proofs.YtiahbcaoikoogaaW.PrintWords Go.Proofs.YtiahbcaoikoogaaW.PrintLast
open PUvar
theorem llist_l0 (l : List S72) (hl : l.length < 4398046511104) : ∀ (d i : Nat) (acc : List S79), i + d = l.length → acc.length = i → Ev (fun k => gaiterlaw14_list.l0 k l acc (i : Int)) (acc ++ (l.drop i).map cE) := by
  intro d
  induction d with
  | zero =>
    intro i acc hi ha
    rw [List.drop_of_length_le (show l.length ≤ i by omega), List.map_nil, List.append_nil]
    refine Ev.step (fun k => by rw [gaiterlaw14_list.l0, if_neg (show ¬ (i : Int) < (l.length : Int) by omega)]) ?_
    exact Ev.now _
  | succ d ih =>
    intro i acc hi ha
    have hlt : i < l.length := by omega
    have hlt' : (i : Int) < (l.length : Int) := by omega
    have ha' : acc.length < 4398046511104 := by omega
    have hI := ih (i + 1) (acc ++ [cE l[i]]) (by omega) (by rw [List.length_append, List.length_singleton]; omega)
    have hws := wr_succ i (by omega)
    rw [List.append_assoc] at hI
    rw [List.drop_eq_getElem_cons hlt, List.map_cons]
    refine Ev.step (fun k => by rw [gaiterlaw14_list.l0, if_pos hlt', if_pos (Int.natCast_nonneg i), if_pos ha', rd72 l i hlt, hws]) ?_
    exact hI
theorem llist_is (l : List S72) (hl : l.length < 4398046511104) : Ev (fun k => gaiterlaw14_list.f k l) (l.map cE) := llist_l0 l hl l.length 0 [] (by omega) rfl
theorem up_is : Ev (fun k => gaiterlaw14_up.f k) true := by
  have hM : M 1 [] = true := rfl
  have hP := Put_i 1 [] (by decide)
  rw [if_pos hM] at hP
  have hb := put_bytes 1 []
  have hlen : (putS 1 []).length = 10 := by rw [putS, List.length_append, bg_length]; rfl
  have hG := Get_is (putS 1 []) hb (by omega)
  have hS := get_put hM (fun x hx => by simp at hx) []
  rw [List.append_nil, if_pos (show lens [] = (([] : List Int).length : Int) from rfl), hlen] at hS
  rw [hS] at hG
  have hE := Get_is [] Bs.Bytes.nil (by decide)
  have hS0 : getS [] = (0, [], 0, 5) := by unfold getS; rw [if_pos (by decide)]
  rw [hS0] at hE
  unfold gaiterlaw14_up.f
  refine Ev.bind hP (Ev.bind hG (Ev.bind hE ?_))
  have h1 : (er (0 : Int)).isNone = true := rfl
  have h2 : gaiterlaw00_Code.f (er 5) = some 5 := rfl
  have h10 : ((putS 1 []).length : Int) = 10 := by rw [hlen]; rfl
  refine Ev.congr (fun k => ?_) (Ev.now true)
  simp [er, gaiterlaw00_Code.f, codeNo, hlen]
end Go.Proofs.Ytiahbcaoikoogaa.PIdx
namespace Go.Proofs.Ytiahbcaoikoogaa
open Go Go.ChangeShapes Go.WideShapes Go.Deep
theorem recs4 {H : Type} {enc : TypeId × Value → H} {P : Program} {W : World} {base : Nat} {spare : Nat → Bool} {held : Bool} {t e : TypeId} {f0 f1 f2 f3 : Field} {k0 k1 k2 k3 : IntKind} {v : Value} {x : DataW H × List MemPlace} {fuel : Nat}
    (ht : P.underlying t = some (.slice e)) (he : P.underlying e = some (.struct #[f0, f1, f2, f3]))
    (ce : P.cellsOf e = 4) (o0 : f0.offset = 0) (o1 : f1.offset = 1) (o2 : f2.offset = 2) (o3 : f3.offset = 3) (c0 : P.cellsOf f0.type = 1) (c1 : P.cellsOf f1.type = 1) (c2 : P.cellsOf f2.type = 1) (c3 : P.cellsOf f3.type = 1)
    (u0 : P.underlying f0.type = some (.int k0)) (u1 : P.underlying f1.type = some (.int k1)) (u2 : P.underlying f2.type = some (.int k2)) (u3 : P.underlying f3.type = some (.int k3))
    (h : DataW.trod enc P W base spare held fuel t [v] = some x) :
    ∃ (A : Option Addr) (len cap : Nat) (zs : List (Int × Int × Int × Int)), v = .slice A len cap ∧ len = zs.length ∧ len ≤ cap ∧ len ≤ maxLen ∧
      (∀ z ∈ zs, (Lit.int k0 z.1).wf = true ∧ (Lit.int k1 z.2.1).wf = true ∧ (Lit.int k2 z.2.2.1).wf = true ∧ (Lit.int k3 z.2.2.2).wf = true) ∧
      (0 < len → ∃ ad, A = some ad ∧ ∀ i z, zs[i]? = some z → W.cell? (ad.add (i * 4)) = some (.int k0 z.1) ∧ W.cell? (ad.add (i * 4 + 1)) = some (.int k1 z.2.1) ∧ W.cell? (ad.add (i * 4 + 2)) = some (.int k2 z.2.2.1) ∧ W.cell? (ad.add (i * 4 + 3)) = some (.int k3 z.2.2.2)) := by
  rcases open_slice ht h with ⟨hcs, _⟩ | ⟨a, len, cap, m, n, D, Pl, hcs, hb, hl, hm, hmm, rfl, hx⟩
  · obtain rfl : v = .slice none 0 0 := by simpa using hcs
    exact ⟨none, 0, 0, [], rfl, rfl, Nat.le_refl _, Nat.zero_le _, fun z hz => by simp at hz, fun h => absurd h (Nat.lt_irrefl 0)⟩
  · obtain rfl : v = .slice (some a) len cap := by simpa using hcs
    have hlm : len ≤ m := by rw [hmm]; split <;> omega
    have each : ∀ i, i < len → ∃ z : Int × Int × Int × Int, W.cell? (a.add (i * 4)) = some (.int k0 z.1) ∧ W.cell? (a.add (i * 4 + 1)) = some (.int k1 z.2.1) ∧ W.cell? (a.add (i * 4 + 2)) = some (.int k2 z.2.2.1) ∧ W.cell? (a.add (i * 4 + 3)) = some (.int k3 z.2.2.2) ∧
        (Lit.int k0 z.1).wf = true ∧ (Lit.int k1 z.2.1).wf = true ∧ (Lit.int k2 z.2.2.1).wf = true ∧ (Lit.int k3 z.2.2.2).wf = true := by
      intro i hi
      obtain ⟨cs', h1, h2⟩ := hx i (Nat.lt_of_lt_of_le hi hlm)
      rw [ce] at h1
      obtain ⟨_, hlen, hcell⟩ := World.cells?_some h1
      obtain ⟨xs, k, hk, hxy, _, hxl, hf⟩ := DataW.trod_struct he h2
      match xs, hxl, cs', hlen with
      | [y0, y1, y2, y3], _, [v0, v1, v2, v3], _ =>
        have g0 := hf 0 f0 rfl
        have g1 := hf 1 f1 rfl
        have g2 := hf 2 f2 rfl
        have g3 := hf 3 f3 rfl
        simp [o0, o1, o2, o3, c0, c1, c2, c3] at g0 g1 g2 g3
        have e0 := hcell 0 (by omega)
        have e1 := hcell 1 (by omega)
        have e2 := hcell 2 (by omega)
        have e3 := hcell 3 (by omega)
        rw [add_add] at e0 e1 e2 e3
        obtain ⟨z0, p0, _, w0⟩ := DataW.trod_int u0 g0
        obtain ⟨z1, p1, _, w1⟩ := DataW.trod_int u1 g1
        obtain ⟨z2, p2, _, w2⟩ := DataW.trod_int u2 g2
        obtain ⟨z3, p3, _, w3⟩ := DataW.trod_int u3 g3
        injection p0 with p0
        injection p1 with p1
        injection p2 with p2
        injection p3 with p3
        subst p0 p1 p2 p3
        exact ⟨(z0, z1, z2, z3), by simpa using e0, by simpa using e1, by simpa using e2, by simpa using e3, w0, w1, w2, w3⟩
    obtain ⟨q, hq⟩ := choose_lt each
    refine ⟨some a, len, cap, (List.range len).map q, rfl, by simp, hl, Nat.le_trans hl hm, ?_, fun _ => ⟨a, rfl, ?_⟩⟩
    · intro p hp
      obtain ⟨i, hi, rfl⟩ := List.mem_map.1 hp
      have := hq i (List.mem_range.1 hi)
      exact this.2.2.2.2
    · intro i p hp
      rw [List.getElem?_map] at hp
      obtain ⟨i', hi', rfl⟩ := Option.map_eq_some_iff.1 hp
      obtain ⟨hlt, hie⟩ := List.getElem?_eq_some_iff.1 hi'
      rw [List.length_range] at hlt
      rw [List.getElem_range] at hie
      subst hie
      have := hq i hlt
      exact ⟨this.1, this.2.1, this.2.2.1, this.2.2.2.1⟩
end Go.Proofs.Ytiahbcaoikoogaa
namespace Go.Proofs.Ytiahbcaoikoogaa.Pure
open Go Go.RowKit Go.Proofs.Ytiahbcaoikoogaa Go.Proofs.Ytiahbcaoikoogaa.All Go.Proofs.YtiahbcaoikoogaaW.PrintWords Go.Proofs.YtiahbcaoikoogaaW.PrintLast
open PUvar PIdx
theorem bsame_l0 (L : List S79) (hl : L.length < 140737488355328) : ∀ (d i : Nat), i + d = L.length → Ev (fun k => gaiterlaw14_same.l0 k L L (i : Int)) 1 := by
  intro d
  induction d with
  | zero =>
    intro i hi
    exact Ev.step (fun k => by rw [gaiterlaw14_same.l0, if_neg (show ¬ (i : Int) < (L.length : Int) by omega)]) (Ev.now _)
  | succ d ih =>
    intro i hi
    have hlt : (i : Int) < (L.length : Int) := by omega
    have hI := ih (i + 1) (by omega)
    have hws := wr_succ i (by omega)
    refine Ev.step (fun k => by rw [gaiterlaw14_same.l0, if_pos hlt, if_pos (Int.natCast_nonneg i), if_pos hlt, hws]) ?_
    simp only [beq_self_eq_true, Bool.not_true, Bool.or_self, Bool.false_eq_true, if_false]
    exact hI
theorem bsame_is (L : List S79) (hl : L.length < 140737488355328) : Ev (fun k => gaiterlaw14_same.f k L L) 1 := by
  unfold gaiterlaw14_same.f
  simp only [if_true]
  exact bsame_l0 L hl L.length 0 (by omega)
theorem mn_le (a b : Int) (h : a ≤ b) : mn a b = a := by unfold mn; split <;> omega
theorem mx_ge (a b : Int) (h : b ≤ a) : mx a b = a := by unfold mx; split <;> omega
theorem part_is (v : Int) : 0 ≤ mn (mx v 0) 10000 ∧ mn (mx v 0) 10000 ≤ 10000 ∧ (0 ≤ v → mn (mx v 0) 10000 < 10000 → mn (mx v 0) 10000 = v) := by
  unfold mn mx
  split <;> split <;> omega
theorem put_len (kind : Int) (l : List S72) (h : l.length ≤ 200) : (putS kind l).length < 10000 := by
  have hf : ∀ l : List S72, ((l.map en).flatten).length ≤ 38 * l.length := by
    intro l
    induction l with
    | nil => simp
    | cons x t ih => have := en_len x; rw [List.map_cons, List.flatten_cons, List.length_append, List.length_cons]; omega
  have h1 := hf l
  have h2 := uv_len _ (u64_range (l.length : Int))
  unfold putS body
  rw [List.length_append, bg_length, List.length_append, List.length_append]
  simp only [List.length_cons, List.length_nil]
  omega
theorem zeros_bytes (n : Nat) : Bs.Bytes (List.replicate n (0 : Int)) := by
  intro x hx
  rw [List.eq_of_mem_replicate hx]
  decide
theorem back_j5 (b : List Int) (hb : Bs.Bytes b) (hl : b.length ≤ 3000) : Ev (fun k => gaiterlaw14_IndexBack.j5 k b true) true := by
  refine Ev.step (fun k => by rw [gaiterlaw14_IndexBack.j5]) ?_
  refine Ev.bind (PIdx.Get_is b hb (by omega)) ?_
  by_cases h : (getS b).2.2.2 = 0
  · obtain ⟨hM, m0, m1, hput⟩ := get_canon' hb h
    have hP := Put_i (getS b).1 (getS b).2.1 (by have := (M_facts hM).2.1; omega)
    rw [if_pos hM] at hP
    have hmn : mx (mn (getS b).2.2.1 (b.length : Int)) 0 = (getS b).2.2.1 := by rw [mn_le _ _ m1, mx_ge _ _ m0]
    have her : er (getS b).2.2.2 = none := by rw [h]; rfl
    simp only [her, Option.isNone_none, if_true]
    refine Ev.bind hP ?_
    simp only [Option.isNone_none, if_true, hmn, if_pos (show (getS b).2.2.1 ≥ 0 from m0), if_pos m1, if_pos m0, hput, beq_self_eq_true]
    exact Ev.now _
  · have her : (er (getS b).2.2.2).isNone = false := by unfold er; rw [if_neg h]; rfl
    simp only [her, Bool.false_eq_true, if_false]
    exact Ev.now _
theorem get_zeros {kind : Int} {l : List S72} (hM : M kind l = true) (hW : ∀ x ∈ l, W72 x) (hl : l.length ≤ 200) (n : Nat) (hn : n ≤ 10001) :
    Ev (fun k => index_Get.f k (putS kind l ++ List.replicate n 0)) (if lens l = (n : Int) then (kind, l, ((putS kind l).length : Int), none) else (0, [], 0, some 8)) := by
  have hlen := put_len kind l hl
  have h := PIdx.Get_is (putS kind l ++ List.replicate n 0) ((put_bytes kind l).append (zeros_bytes n)) (by rw [List.length_append, List.length_replicate]; omega)
  rw [get_put hM hW, List.length_replicate] at h
  by_cases c : lens l = (n : Int)
  · rw [if_pos c] at h ⊢; exact h
  · rw [if_neg c] at h ⊢; exact h
theorem back_j4 {kind : Int} {l : List S72} (hM : M kind l = true) (hW : ∀ x ∈ l, W72 x) (hl : l.length ≤ 200) (b : List Int) (hb : Bs.Bytes b) (hlb : b.length ≤ 3000) (n : Nat) (hn : n < 10000) (hs : lens l = (n : Int)) :
    Ev (fun k => gaiterlaw14_IndexBack.j4 k b true (putS kind l) (n : Int) false) true := by
  refine Ev.step (fun k => by rw [gaiterlaw14_IndexBack.j4, if_neg (show ¬ false = true by decide)]) ?_
  by_cases c : (n : Int) > 0
  · have hlen := put_len kind l hl
    have g1 : ([] : List Int).length + (putS kind l).length < 140737488355328 := by rw [List.length_nil]; omega
    have hk : (n - 1 : Nat) ≤ 10001 := by omega
    have hG := get_zeros hM hW hl (n - 1) hk
    rw [if_neg (show ¬ lens l = ((n - 1 : Nat) : Int) by rw [hs]; omega)] at hG
    have hcode : gaiterlaw00_Code.f (some 8) = some 8 := rfl
    have g3 : (putS kind l).length + (n - 1) < 140737488355328 := by omega
    have hw : wrap64 ((n : Int) - 1) = ((n - 1 : Nat) : Int) := by rw [w64 _ (by omega)]; omega
    simp only [if_pos c, Option.bind_some, if_pos g1, List.nil_append, hw, if_pos (Int.natCast_nonneg (n - 1)), Int.toNat_natCast, if_pos g3]
    refine Ev.bind hG ?_
    simp only [hcode, Option.bind_some, if_true]
    exact back_j5 b hb hlb
  · simp only [if_neg c]
    exact back_j5 b hb hlb
theorem back_j3 {kind : Int} {l : List S72} (hM : M kind l = true) (hW : ∀ x ∈ l, W72 x) (hl : l.length ≤ 200) (b : List Int) (hb : Bs.Bytes b) (hlb : b.length ≤ 3000) (n : Nat) (hn : n < 10000) (hs : lens l = (n : Int)) :
    Ev (fun k => gaiterlaw14_IndexBack.j3 k b true (putS kind l) (n : Int) true kind l) true := by
  have hlen := put_len kind l hl
  have g1 : ([] : List Int).length + (putS kind l).length < 140737488355328 := by rw [List.length_nil]; omega
  have g2 : (putS kind l).length + n < 140737488355328 := by omega
  have g3 : (putS kind l).length + (n + 1) < 140737488355328 := by omega
  have hG := get_zeros hM hW hl n (by omega)
  rw [if_pos hs] at hG
  have hG2 := get_zeros hM hW hl (n + 1) (by omega)
  rw [if_neg (show ¬ lens l = ((n + 1 : Nat) : Int) by rw [hs]; omega)] at hG2
  have hL := llist_is l (by omega)
  have hS := bsame_is (l.map cE) (by rw [List.length_map]; omega)
  have hcode : gaiterlaw00_Code.f (some 8) = some 8 := rfl
  have hne : ((8 : Int) != 8) = false := rfl
  have h10 : ¬ (1 : Int) = 0 := by decide
  have h4 := back_j4 hM hW hl b hb hlb n hn hs
  have hw : wrap64 ((n : Int) + 1) = ((n + 1 : Nat) : Int) := by rw [w64 _ (by omega)]; omega
  refine Ev.step (fun k => by rw [gaiterlaw14_IndexBack.j3, if_pos rfl]) ?_
  simp only [Option.bind_some, if_pos g1, List.nil_append, if_pos (Int.natCast_nonneg n), Int.toNat_natCast, if_pos g2, hw, if_pos (Int.natCast_nonneg (n + 1)), if_pos g3]
  refine Ev.bind hG (Ev.bind hG2 ?_)
  simp only [Option.isNone_none, if_true]
  refine Ev.bind hL (Ev.bind hL (Ev.bind hS ?_))
  simp only [if_neg h10, hcode, Option.bind_some, hne]
  exact h4
theorem back_j3_no (b : List Int) (hb : Bs.Bytes b) (hlb : b.length ≤ 3000) (c : List Int) (n kind : Int) (l : List S72) :
    Ev (fun k => gaiterlaw14_IndexBack.j3 k b true c n false kind l) true := by
  refine Ev.step (fun k => by rw [gaiterlaw14_IndexBack.j3, if_neg (show ¬ false = true by decide)]) ?_
  exact back_j5 b hb hlb
theorem lens_take (l : List S72) : ∀ (i : Nat) (h : i < l.length), lens (l.take (i + 1)) = lens (l.take i) + l[i].f3 := by
  induction l with
  | nil => intro i h; simp at h
  | cons x t ih =>
    intro i h
    cases i with
    | zero => simp [lens]
    | succ i =>
      rw [List.take_succ_cons, List.take_succ_cons, lens, lens, ih i (by simpa using h), List.getElem_cons_succ]
      omega
theorem back_l0 (b c : List Int) (e : Option Int) (kind : Int) (l : List S72) (hl : l.length ≤ 200) (r : Bool)
    (hr : ∀ n : Nat, ((∀ x ∈ l, 0 ≤ x.f3) → (n : Int) < 10000 → lens l = (n : Int)) → Ev (fun k => gaiterlaw14_IndexBack.j2 k b true c e (n : Int) kind l) r) :
    ∀ (d i n : Nat), i + d = l.length → n ≤ 20000 → ((∀ x ∈ l, 0 ≤ x.f3) → (n : Int) < 10000 → lens (l.take i) = (n : Int)) → Ev (fun k => gaiterlaw14_IndexBack.l0 k b true c e (n : Int) (i : Int) kind l) r := by
  intro d
  induction d with
  | zero =>
    intro i n hi hn hinv
    refine Ev.step (fun k => by rw [gaiterlaw14_IndexBack.l0, if_neg (show ¬ (i : Int) < (l.length : Int) by omega)]) ?_
    refine hr n ?_
    rw [List.take_of_length_le (by omega)] at hinv
    exact hinv
  | succ d ih =>
    intro i n hi hn hinv
    have hlt : i < l.length := by omega
    have hlt' : (i : Int) < (l.length : Int) := by omega
    by_cases c1 : (n : Int) < 10000
    · obtain ⟨p0, p1, p2⟩ := part_is l[i].f3
      obtain ⟨v, hv⟩ := Int.eq_ofNat_of_zero_le p0
      have hI := ih (i + 1) (n + v) (by omega) (by omega) (fun hf h => by
        have h3 := hf _ (List.getElem_mem hlt)
        have h4 := hinv hf c1
        have h5 := lens_take l i hlt
        have h6 := p2 h3 (by omega)
        omega)
      have hr2 : -9223372036854775808 ≤ (n : Int) + (v : Int) ∧ (n : Int) + (v : Int) < 9223372036854775808 := by omega
      have hs : (n : Int) + (v : Int) = ((n + v : Nat) : Int) := by omega
      have hws := wr_succ i (by omega)
      refine Ev.step (fun k => by rw [gaiterlaw14_IndexBack.l0, if_pos hlt', if_pos c1, if_pos (Int.natCast_nonneg i), rd72 l i hlt, hv, w64 _ hr2, hs, hws]) ?_
      exact hI
    · refine Ev.step (fun k => by rw [gaiterlaw14_IndexBack.l0, if_pos hlt', if_neg c1]) ?_
      exact hr n (fun _ h => absurd h c1)
theorem back_j0 (kind : Int) (l : List S72) (hW : ∀ x ∈ l, W72 x) (hl : l.length ≤ 200) (b : List Int) (hb : Bs.Bytes b) (hlb : b.length ≤ 3000) :
    Ev (fun k => gaiterlaw14_IndexBack.j0 k b true false kind l) true := by
  have hP := Put_i kind l (by omega)
  refine Ev.step (fun k => by rw [gaiterlaw14_IndexBack.j0, if_neg (show ¬ false = true by decide)]) ?_
  refine Ev.bind hP ?_
  by_cases c : M kind l = true
  · rw [if_pos c]
    have hF := (M_facts c).2.2
    refine back_l0 b (putS kind l) none kind l hl true (fun n hn => ?_) l.length 0 0 (by omega) (by omega) (fun _ _ => by simp [lens])
    have hs := hn (fun x hx => by have := (hF x hx).l.1; omega)
    refine Ev.step (fun k => by rw [gaiterlaw14_IndexBack.j2, if_pos (show (none : Option Int).isNone = true from rfl)]) ?_
    by_cases c2 : (n : Int) < 10000
    · rw [decide_eq_true c2]
      exact back_j3 c hW hl b hb hlb n (by omega) (hs c2)
    · rw [decide_eq_false c2]
      exact back_j3_no b hb hlb _ _ _ _
  · rw [if_neg c]
    refine back_l0 b [] (some 1) kind l hl true (fun n hn => ?_) l.length 0 0 (by omega) (by omega) (fun _ _ => by simp [lens])
    refine Ev.step (fun k => by rw [gaiterlaw14_IndexBack.j2, if_neg (show ¬ (some (1 : Int)).isNone = true by simp)]) ?_
    exact back_j3_no b hb hlb _ _ _ _
theorem IndexBack (kind : Int) (l : List S72) (b : List Int) (hW : ∀ x ∈ l, W72 x) (hb : Bs.Bytes b) : ∃ k, gaiterlaw14_IndexBack.f k kind l b = some true := by
  refine Ev.rounds (g := fun k => gaiterlaw14_IndexBack.f k kind l b) ?_
  have hstop : Ev (fun k => gaiterlaw14_IndexBack.j0 k b true true kind l) true := Ev.step (fun k => by rw [gaiterlaw14_IndexBack.j0, if_pos rfl]) (Ev.now _)
  unfold gaiterlaw14_IndexBack.f
  refine Ev.bind up_is ?_
  by_cases c1 : (l.length : Int) > 200
  · simp only [if_pos c1]
    exact hstop
  simp only [if_neg c1]
  by_cases c2 : (b.length : Int) > 3000
  · rw [decide_eq_true c2]; exact hstop
  · rw [decide_eq_false c2]
    exact back_j0 kind l hW (by omega) b hb (by omega)
end Go.Proofs.Ytiahbcaoikoogaa.Pure
