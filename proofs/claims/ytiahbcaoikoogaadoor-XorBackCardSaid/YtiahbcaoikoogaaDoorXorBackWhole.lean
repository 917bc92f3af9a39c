-- written by this session; parts joined by a program of the session
import Derived.Laws.Entries
import Derived.RowKit
import Derived.Test.YtiahbcaoikoogaaDoorAllx18
import Derived.Test.YtiahbcaoikoogaaDoorAllx16
import Derived.Test.YtiahbcaoikoogaaDoorAllx14
import Derived.Test.YtiahbcaoikoogaaDoorAllx10
import Derived.Test.YtiahbcaoikoogaaDoorAllx6
import Derived.Test.YtiahbcaoikoogaaDoorAllx13
import Derived.Test.YtiahbcaoikoogaaDoorIs
import Derived.Test.YtiahbcaoikoogaaDoorM4
import Derived.Test.YtiahbcaoikoogaaDoorAllx8
import Derived.Lib.ItoaNum
import Derived.Test.YtiahbcaoikoogaaDoorAllx11
import Derived.Lib.Bytes
import Derived.Test.YtiahbcaoikoogaaDoorAllx20
import Derived.Test.YtiahbcaoikoogaaDoorRows
import Derived.Test.YtiahbcaoikoogaaDoorXw
import Derived.LaidMore
import Derived.ProofKit
import Derived.OpenShut
import Derived.Stop.Joined
import Derived.Test.YtiahbcaoikoogaaDoorTie
import Derived.Test.YtiahbcaoikoogaaDoorCards
import Derived.SevenTiedAt
import Derived.WalkKit
import Derived.ShutString
import Derived.ChangeOld
import Derived.Below
import Derived.SizedLaws
import Derived.Test.YtiahbcaoikoogaaDoorWSized
set_option linter.unusedVariables false
set_option linter.unusedSimpArgs false
set_option linter.unusedSectionVars false
namespace Bs
def number (l : List Int) : Int := l.foldl (fun v b => 2 * v + b) 0
def low (v : Int) : Nat → List Int
  | 0 => []
  | n + 1 => low (v / 2) n ++ [v % 2]
def Bits (l : List Int) : Prop := ∀ x ∈ l, x = 0 ∨ x = 1
def Bytes (l : List Int) : Prop := ∀ x ∈ l, 0 ≤ x ∧ x < 256
def flat (b : List Int) : List Int := b.flatMap fun c => low c 8
def pack (l : List Int) : List Int :=
  if h : l = [] then [] else number (l.take 8 ++ List.replicate (8 - l.length) 0) :: pack (l.drop 8)
termination_by l.length
decreasing_by
  have := List.length_pos_iff.2 h
  simp only [List.length_drop]; omega
theorem foldl_number (l : List Int) : ∀ a : Int, l.foldl (fun v b => 2 * v + b) a = a * 2 ^ l.length + number l := by
  induction l with
  | nil => intro a; simp [number]
  | cons x l ih =>
    intro a
    simp only [List.foldl_cons, List.length_cons, number]
    rw [ih, ih (2 * 0 + x), Int.pow_succ, Int.add_mul, Int.mul_zero, Int.zero_add, Int.mul_comm (2 ^ l.length) 2, ← Int.mul_assoc, Int.mul_comm 2 a, Int.add_assoc]
theorem number_nil : number [] = 0 := rfl
theorem number_append (l m : List Int) : number (l ++ m) = number l * 2 ^ m.length + number m := by
  rw [number, List.foldl_append]; exact foldl_number m _
theorem number_cons (x : Int) (l : List Int) : number (x :: l) = x * 2 ^ l.length + number l := by
  rw [show x :: l = [x] ++ l from rfl, number_append]; simp [number]
theorem number_snoc (l : List Int) (x : Int) : number (l ++ [x]) = 2 * number l + x := by
  rw [number, List.foldl_append]; rfl
theorem pow_pos (n : Nat) : (0 : Int) < 2 ^ n := Int.pow_pos (by decide)
theorem low_length (n : Nat) : ∀ v, (low v n).length = n := by
  induction n with
  | zero => intro v; rfl
  | succ n ih => intro v; simp [low, ih]
theorem low_bits (n : Nat) : ∀ v, Bits (low v n) := by
  induction n with
  | zero => intro v x hx; simp [low] at hx
  | succ n ih =>
    intro v x hx
    simp only [low, List.mem_append, List.mem_singleton] at hx
    rcases hx with hx | hx
    · exact ih _ x hx
    · omega
theorem Bits.append {l m : List Int} (h : Bits l) (h' : Bits m) : Bits (l ++ m) := by
  intro x hx; rcases List.mem_append.1 hx with hx | hx
  · exact h x hx
  · exact h' x hx
theorem Bits.nil : Bits [] := fun x hx => by simp at hx
theorem Bits.cons {x : Int} {l : List Int} (hx : x = 0 ∨ x = 1) (h : Bits l) : Bits (x :: l) := by
  intro y hy; rcases List.mem_cons.1 hy with rfl | hy
  · exact hx
  · exact h y hy
theorem Bits.left {l m : List Int} (h : Bits (l ++ m)) : Bits l := fun x hx => h x (List.mem_append_left _ hx)
theorem Bits.right {l m : List Int} (h : Bits (l ++ m)) : Bits m := fun x hx => h x (List.mem_append_right _ hx)
theorem Bits.take {l : List Int} (h : Bits l) (n : Nat) : Bits (l.take n) := fun _ hx => h _ (List.mem_of_mem_take hx)
theorem Bits.drop {l : List Int} (h : Bits l) (n : Nat) : Bits (l.drop n) := fun x hx => h x (List.mem_of_mem_drop hx)
theorem Bits.zeros (n : Nat) : Bits (List.replicate n (0 : Int)) := fun _ hx => .inl (List.eq_of_mem_replicate hx)
theorem Bits.ones (n : Nat) : Bits (List.replicate n (1 : Int)) := fun _ hx => .inr (List.eq_of_mem_replicate hx)
theorem Bytes.nil : Bytes [] := fun x hx => by simp at hx
theorem Bytes.append {l m : List Int} (h : Bytes l) (h' : Bytes m) : Bytes (l ++ m) := by
  intro x hx; rcases List.mem_append.1 hx with hx | hx
  · exact h x hx
  · exact h' x hx
theorem Bytes.cons {x : Int} {l : List Int} (hx : 0 ≤ x ∧ x < 256) (h : Bytes l) : Bytes (x :: l) := by
  intro y hy; rcases List.mem_cons.1 hy with rfl | hy
  · exact hx
  · exact h y hy
theorem Bytes.take {l : List Int} (h : Bytes l) (n : Nat) : Bytes (l.take n) := fun x hx => h x (List.mem_of_mem_take hx)
theorem Bytes.drop {l : List Int} (h : Bytes l) (n : Nat) : Bytes (l.drop n) := fun x hx => h x (List.mem_of_mem_drop hx)
theorem number_range {l : List Int} (h : Bits l) : 0 ≤ number l ∧ number l < 2 ^ l.length := by
  induction l with
  | nil => simp [number]
  | cons x l ih =>
    have hx := h x (by simp)
    have ih := ih (fun y hy => h y (by simp [hy]))
    rw [number_cons, List.length_cons, Int.pow_succ]
    have := pow_pos l.length
    rcases hx with rfl | rfl
    · omega
    · omega
theorem mod_two_mul (v m : Int) (hm : 0 < m) : v % (m * 2) = 2 * (v / 2 % m) + v % 2 := by
  have h1 := Int.mul_ediv_add_emod v 2
  have h2 := Int.mul_ediv_add_emod (v / 2) m
  have h3 := Int.emod_nonneg (v / 2) (by omega : m ≠ 0)
  have h4 := Int.emod_lt_of_pos (v / 2) hm
  have h5 : v = m * 2 * (v / 2 / m) + (2 * (v / 2 % m) + v % 2) := by
    have : m * 2 * (v / 2 / m) = 2 * (m * (v / 2 / m)) := by rw [Int.mul_comm m 2, Int.mul_assoc]
    rw [this]; omega
  conv => lhs; rw [h5]
  rw [Int.mul_add_emod_self_left]
  exact Int.emod_eq_of_lt (by omega) (by omega)
theorem number_low (n : Nat) : ∀ v, number (low v n) = v % 2 ^ n := by
  induction n with
  | zero => intro v; simp [low, number]
  | succ n ih => intro v; rw [low, number_snoc, ih, Int.pow_succ, mod_two_mul _ _ (pow_pos n)]
theorem low_number {l : List Int} (h : Bits l) : low (number l) l.length = l := by
  suffices H : ∀ n (l : List Int), l.length = n → Bits l → low (number l) n = l from H _ l rfl h
  intro n
  induction n with
  | zero => intro l hl _; rw [List.length_eq_zero_iff.1 hl]; rfl
  | succ n ih =>
    intro l hl hb
    have hne : l ≠ [] := by intro e; simp [e] at hl
    rw [← List.dropLast_concat_getLast hne] at hb ⊢
    have hx := hb (l.getLast hne) (by simp)
    rw [number_snoc, low]
    have e1 : (2 * number l.dropLast + l.getLast hne) / 2 = number l.dropLast := by omega
    have e2 : (2 * number l.dropLast + l.getLast hne) % 2 = l.getLast hne := by omega
    rw [e1, e2, ih _ (by simp; omega) hb.left]
theorem low_mod (n : Nat) (v : Int) : low (v % 2 ^ n) n = low v n := by
  have := low_number (low_bits n v)
  rwa [low_length, number_low] at this
theorem low_congr {n : Nat} {v u : Int} (h : v % 2 ^ n = u % 2 ^ n) : low v n = low u n := by rw [← low_mod, h, low_mod]
theorem low_inj {n : Nat} {v u : Int} (h : low v n = low u n) : v % 2 ^ n = u % 2 ^ n := by rw [← number_low, h, number_low]
theorem number_inj {l m : List Int} (hl : Bits l) (hm : Bits m) (h : l.length = m.length) (e : number l = number m) : l = m := by
  rw [← low_number hl, ← low_number hm, h, e]
theorem low_append (m : Nat) : ∀ (n : Nat) (v : Int), low v (n + m) = low (v / 2 ^ m) n ++ low v m := by
  induction m with
  | zero => intro n v; simp [low]
  | succ m ih =>
    intro n v
    rw [← Nat.add_assoc, low, low, ih, List.append_assoc]
    congr 2
    rw [Int.pow_succ, Int.mul_comm, Int.ediv_ediv_of_nonneg (by decide)]
theorem low_zero (n : Nat) : low 0 n = List.replicate n 0 := by
  induction n with
  | zero => rfl
  | succ n ih => rw [low, show (0 : Int) / 2 = 0 from rfl, ih, List.replicate_succ']; rfl
theorem flat_nil : flat [] = [] := rfl
theorem flat_cons (c : Int) (b : List Int) : flat (c :: b) = low c 8 ++ flat b := by simp [flat]
theorem flat_append (b c : List Int) : flat (b ++ c) = flat b ++ flat c := by simp [flat]
theorem flat_length (b : List Int) : (flat b).length = 8 * b.length := by
  induction b with
  | nil => rfl
  | cons c b ih => rw [flat_cons, List.length_append, low_length, ih, List.length_cons]; omega
theorem flat_bits (b : List Int) : Bits (flat b) := by
  induction b with
  | nil => exact Bits.nil
  | cons c b ih => rw [flat_cons]; exact (low_bits 8 c).append ih
theorem flat_drop (b : List Int) (k : Nat) : (flat b).drop (8 * k) = flat (b.drop k) := by
  induction k generalizing b with
  | zero => simp
  | succ k ih =>
    cases b with
    | nil => simp [flat]
    | cons c b =>
      rw [flat_cons, List.drop_succ_cons, ← ih, List.drop_append, low_length, List.drop_eq_nil_of_le (by rw [low_length]; omega), List.nil_append]
      congr 1
theorem flat_take (b : List Int) (k : Nat) : (flat b).take (8 * k) = flat (b.take k) := by
  induction k generalizing b with
  | zero => simp [flat]
  | succ k ih =>
    cases b with
    | nil => simp [flat]
    | cons c b =>
      rw [flat_cons, List.take_succ_cons, flat_cons, ← ih, List.take_append, low_length, List.take_of_length_le (by rw [low_length]; omega)]
      congr 2
theorem pack_nil : pack [] = [] := by rw [pack]; simp
theorem pack_ne {l : List Int} (h : l ≠ []) : pack l = number (l.take 8 ++ List.replicate (8 - l.length) 0) :: pack (l.drop 8) := by rw [pack]; simp [h]
theorem pack_block {l : List Int} (m : List Int) (h : l.length = 8) : pack (l ++ m) = number l :: pack m := by
  have hne : l ++ m ≠ [] := by intro e; rw [List.append_eq_nil_iff] at e; rw [e.1] at h; simp at h
  rw [pack_ne hne, List.take_left' h, List.drop_left' h, List.length_append, show 8 - (l.length + m.length) = 0 from by omega]; simp
theorem pack_short {l : List Int} (h0 : l ≠ []) (h : l.length ≤ 8) : pack l = [number (l ++ List.replicate (8 - l.length) 0)] := by
  rw [pack_ne h0, List.take_of_length_le h, List.drop_eq_nil_of_le h, pack_nil]
theorem pack_low (c : Int) (hc : 0 ≤ c ∧ c < 256) (m : List Int) : pack (low c 8 ++ m) = c :: pack m := by
  rw [pack_block m (low_length 8 c), number_low, Int.emod_eq_of_lt hc.1 (by simpa using hc.2)]
theorem pack_flat {b : List Int} (h : Bytes b) (m : List Int) : pack (flat b ++ m) = b ++ pack m := by
  induction b with
  | nil => simp [flat]
  | cons c b ih => rw [flat_cons, List.append_assoc, pack_low c (h c (by simp)), ih (fun x hx => h x (by simp [hx]))]; rfl
theorem pack_flat' {b : List Int} (h : Bytes b) : pack (flat b) = b := by
  have := pack_flat h []
  rwa [List.append_nil, pack_nil, List.append_nil] at this
theorem by_eight {P : List Int → Prop} (h0 : P []) (hs : ∀ l, l ≠ [] → l.length < 8 → P l) (hb : ∀ l m, l.length = 8 → P m → P (l ++ m)) (l : List Int) : P l := by
  suffices H : ∀ n (l : List Int), l.length ≤ n → P l from H _ l (Nat.le_refl _)
  intro n
  induction n with
  | zero => intro l hl; obtain rfl : l = [] := List.length_eq_zero_iff.1 (by omega); exact h0
  | succ n ih =>
    intro l hl
    by_cases e : l = []
    · rw [e]; exact h0
    · by_cases h8 : l.length < 8
      · exact hs l e h8
      · rw [← List.take_append_drop 8 l]
        exact hb _ _ (by simp; omega) (ih _ (by simp; omega))
theorem pack_length (l : List Int) : (pack l).length = (l.length + 7) / 8 := by
  induction l using by_eight with
  | h0 => simp [pack_nil]
  | hs l e h => rw [pack_short e (by omega)]; have := List.length_pos_iff.2 e; simp; omega
  | hb l m h ih => rw [pack_block m h]; simp [ih, h]; omega
theorem pack_bytes {l : List Int} (h : Bits l) : Bytes (pack l) := by
  induction l using by_eight with
  | h0 => rw [pack_nil]; exact Bytes.nil
  | hs l e h8 =>
    rw [pack_short e (by omega)]
    have := number_range (h.append (Bits.zeros (8 - l.length)))
    rw [List.length_append, List.length_replicate, show l.length + (8 - l.length) = 8 from by omega] at this
    exact Bytes.cons (by simpa using this) Bytes.nil
  | hb l m h8 ih =>
    rw [pack_block m h8]
    have := number_range h.left
    rw [h8] at this
    exact Bytes.cons (by simpa using this) (ih h.right)
theorem flat_pack {l : List Int} (h : Bits l) : flat (pack l) = l ++ List.replicate (8 * ((l.length + 7) / 8) - l.length) 0 := by
  induction l using by_eight with
  | h0 => simp [pack_nil, flat]
  | hs l e h8 =>
    have hp := List.length_pos_iff.2 e
    have hl := low_number (h.append (Bits.zeros (8 - l.length)))
    rw [List.length_append, List.length_replicate, show l.length + (8 - l.length) = 8 from by omega] at hl
    rw [pack_short e (by omega), flat_cons, flat_nil, List.append_nil, hl, show 8 * ((l.length + 7) / 8) - l.length = 8 - l.length from by omega]
  | hb l m h8 ih =>
    have hl := low_number h.left
    rw [h8] at hl
    rw [pack_block m h8, flat_cons, hl, ih h.right, List.append_assoc, List.length_append]
    congr 3
    omega
theorem take_flat_pack {l : List Int} (h : Bits l) : (flat (pack l)).take l.length = l := by
  rw [flat_pack h, List.take_left' rfl]
theorem pack_inj {l m : List Int} (hl : Bits l) (hm : Bits m) (hn : l.length = m.length) (h : pack l = pack m) : l = m := by
  rw [← take_flat_pack hl, h, hn, take_flat_pack hm]
theorem pack_zeros {l : List Int} (h : Bits l) (z : Nat) : (pack (l ++ List.replicate z 0)).take ((l.length + 7) / 8) = pack l := by
  have h1 : (pack (l ++ List.replicate z 0)).take ((l.length + 7) / 8) = pack ((flat (pack (l ++ List.replicate z 0))).take (8 * ((l.length + 7) / 8))) := by
    rw [flat_take, pack_flat' ((pack_bytes (h.append (Bits.zeros z))).take _)]
  have hz : Bits (l ++ List.replicate z 0) := h.append (Bits.zeros z)
  rw [h1, flat_pack hz]
  have h2 : (l ++ List.replicate z (0 : Int) ++ List.replicate (8 * (((l ++ List.replicate z (0 : Int)).length + 7) / 8) - (l ++ List.replicate z (0 : Int)).length) (0 : Int)).take (8 * ((l.length + 7) / 8)) = flat (pack l) := by
    rw [flat_pack h, List.append_assoc, List.replicate_append_replicate, List.take_append, List.take_of_length_le (by omega), List.take_replicate]
    congr 2
    simp only [List.length_append, List.length_replicate]
    omega
  rw [h2, pack_flat' (pack_bytes h)]
theorem pack_snoc0 {l : List Int} (h : l.length % 8 = 0) (x : Int) : pack (l ++ [x]) = pack l ++ [x * 128] := by
  induction l using by_eight with
  | h0 => rw [List.nil_append, pack_short (by simp) (by simp), pack_nil]; simp [number, List.replicate]; omega
  | hs l e h8 => have := List.length_pos_iff.2 e; omega
  | hb l m h8 ih => rw [List.append_assoc, pack_block _ h8, pack_block _ h8, ih (by rw [List.length_append] at h; omega)]; rfl
theorem number_zeros (l : List Int) (n : Nat) : number (l ++ List.replicate n 0) = number l * 2 ^ n := by
  have h0 : number (List.replicate n 0) = 0 := by rw [← low_zero, number_low]; simp
  rw [number_append, List.length_replicate, h0, Int.add_zero]
theorem pack_snoc {l : List Int} (h : l.length % 8 ≠ 0) (x : Int) : pack (l ++ [x]) = (pack l).set (l.length / 8) ((pack l).getD (l.length / 8) 0 + x * 2 ^ (7 - l.length % 8)) := by
  induction l using by_eight with
  | h0 => simp at h
  | hs l e h8 =>
    rw [pack_short (by simp) (by simp; omega), pack_short e (by omega), show l.length / 8 = 0 from by omega, show l.length % 8 = l.length from by omega]
    simp only [List.set_cons_zero, List.getD_cons_zero, List.length_append, List.length_singleton]
    rw [number_zeros, number_zeros, number_snoc, show 8 - (l.length + 1) = 7 - l.length from by omega, show 8 - l.length = (7 - l.length) + 1 from by omega, Int.pow_succ, Int.add_mul]
    congr 2
    rw [Int.mul_comm 2 (number l), Int.mul_assoc, Int.mul_comm 2]
  | hb l m h8 ih =>
    rw [List.append_assoc, pack_block _ h8, pack_block _ h8, ih (by rw [List.length_append] at h; omega), List.length_append, h8, show (8 + m.length) / 8 = m.length / 8 + 1 from by omega, show (8 + m.length) % 8 = m.length % 8 from by omega]
    simp
theorem pack_mod8 {l : List Int} (h : l.length % 8 = 0) (m : List Int) : pack (l ++ m) = pack l ++ pack m := by
  induction l using by_eight with
  | h0 => simp [pack_nil]
  | hs l e h8 => have := List.length_pos_iff.2 e; omega
  | hb l m' h8 ih => rw [List.append_assoc, pack_block _ h8, pack_block _ h8, ih (by rw [List.length_append] at h; omega)]; rfl
theorem pack_last {l : List Int} (h : l.length % 8 ≠ 0) : ∃ t : Int, (pack l).getD (l.length / 8) 0 = t * 2 ^ (8 - l.length % 8) := by
  induction l using by_eight with
  | h0 => simp at h
  | hs l e h8 =>
    rw [pack_short e (by omega), show l.length / 8 = 0 from by omega, show l.length % 8 = l.length from by omega]
    exact ⟨number l, by simp only [List.getD_cons_zero]; rw [number_zeros]⟩
  | hb l m h8 ih =>
    obtain ⟨t, ht⟩ := ih (by rw [List.length_append] at h; omega)
    refine ⟨t, ?_⟩
    rw [pack_block _ h8, List.length_append, h8, show (8 + m.length) / 8 = m.length / 8 + 1 from by omega, show (8 + m.length) % 8 = m.length % 8 from by omega, ← ht]
    simp
theorem low_one (v : Int) : low v 1 = [v % 2] := rfl
theorem low_top (v : Int) (m : Nat) : low v (m + 1) = (v / 2 ^ m % 2) :: low v m := by
  rw [Nat.add_comm, low_append, low_one]; rfl
theorem pack_byte {l : List Int} (h : l.length % 8 ≠ 0) (c : Int) (hc : 0 ≤ c ∧ c < 256) : pack (l ++ low c 8) = (pack l).set (l.length / 8) ((pack l).getD (l.length / 8) 0 + c / 2 ^ (l.length % 8)) ++ [c * 2 ^ (8 - l.length % 8) % 256] := by
  induction l using by_eight with
  | h0 => simp at h
  | hs l e h8 =>
    have hp := List.length_pos_iff.2 e
    rw [pack_short e (by omega), show l.length / 8 = 0 from by omega, show l.length % 8 = l.length from by omega]
    simp only [List.set_cons_zero, List.getD_cons_zero]
    have hlow : low c 8 = low (c / 2 ^ l.length) (8 - l.length) ++ low c l.length := by
      rw [← low_append, show 8 - l.length + l.length = 8 from by omega]
    have hq : c / 2 ^ l.length % 2 ^ (8 - l.length) = c / 2 ^ l.length := by
      have h2 : (2 : Int) ^ l.length * 2 ^ (8 - l.length) = 256 := by rw [← Int.pow_add, show l.length + (8 - l.length) = 8 from by omega]; rfl
      have h3 := pow_pos l.length
      exact Int.emod_eq_of_lt (Int.ediv_nonneg hc.1 (by omega)) (Int.ediv_lt_of_lt_mul h3 (by rw [Int.mul_comm, h2]; exact hc.2))
    have hr : c % 2 ^ l.length * 2 ^ (8 - l.length) = c * 2 ^ (8 - l.length) % 256 := by
      have h2 : (2 : Int) ^ l.length * 2 ^ (8 - l.length) = 256 := by rw [← Int.pow_add, show l.length + (8 - l.length) = 8 from by omega]; rfl
      rw [← h2, Int.mul_comm c, Int.mul_comm (2 ^ l.length) (2 ^ (8 - l.length)), Int.mul_emod_mul_of_pos _ _ (pow_pos _), Int.mul_comm]
    rw [hlow, ← List.append_assoc, pack_block _ (by rw [List.length_append, low_length]; omega), pack_short (by intro h0; have := congrArg List.length h0; rw [low_length, List.length_nil] at this; omega) (by rw [low_length]; omega)]
    rw [low_length, number_zeros, number_zeros, number_append, low_length, number_low, number_low, hq, hr]
    rfl
  | hb l m h8 ih =>
    rw [List.append_assoc, pack_block _ h8, pack_block _ h8, ih (by rw [List.length_append] at h; omega), List.length_append, h8, show (8 + m.length) / 8 = m.length / 8 + 1 from by omega, show (8 + m.length) % 8 = m.length % 8 from by omega]
    simp
end Bs
namespace Ib
open Go
theorem wrap_u64 (n : Int) : IntKind.u64.wrap n = n % 18446744073709551616 := by simp [IntKind.wrap, IntKind.bits, IntKind.signed]
theorem wrap_u32 (n : Int) : IntKind.u32.wrap n = n % 4294967296 := by simp [IntKind.wrap, IntKind.bits, IntKind.signed]
theorem wrap_u8 (n : Int) : IntKind.u8.wrap n = n % 256 := by simp [IntKind.wrap, IntKind.bits, IntKind.signed]
theorem wrap_i64 (n : Int) : IntKind.i64.wrap n = (n + 9223372036854775808) % 18446744073709551616 - 9223372036854775808 := by
  simp [IntKind.wrap, IntKind.bits, IntKind.signed]
  split <;> omega
theorem wf_i64 {a : Int} (h : (Lit.int .i64 a).wf = true) : -9223372036854775808 ≤ a ∧ a < 9223372036854775808 := by
  simp [Lit.wf, IntKind.min, IntKind.max, IntKind.bits, IntKind.signed] at h; omega
theorem wf_u64 {a : Int} (h : (Lit.int .u64 a).wf = true) : 0 ≤ a ∧ a < 18446744073709551616 := by
  simp [Lit.wf, IntKind.min, IntKind.max, IntKind.bits, IntKind.signed] at h; omega
theorem wf_u8 {a : Int} (h : (Lit.int .u8 a).wf = true) : 0 ≤ a ∧ a < 256 := by
  simp [Lit.wf, IntKind.min, IntKind.max, IntKind.bits, IntKind.signed] at h; omega
theorem wf_u32 {a : Int} (h : (Lit.int .u32 a).wf = true) : 0 ≤ a ∧ a < 4294967296 := by
  simp [Lit.wf, IntKind.min, IntKind.max, IntKind.bits, IntKind.signed] at h; omega
theorem ofInt_toNat (w : Nat) (x : Int) (h0 : 0 ≤ x) (h : x < 2 ^ w) : (BitVec.ofInt w x).toNat = x.toNat := by
  rw [BitVec.toNat_ofInt]
  congr 1
  exact Int.emod_eq_of_lt h0 (by exact_mod_cast h)
theorem xor_u64 (x y : Int) (hx : 0 ≤ x ∧ x < 18446744073709551616) (hy : 0 ≤ y ∧ y < 18446744073709551616) : bits .xor .u64 x y = ((x.toNat ^^^ y.toNat : Nat) : Int) := by
  simp only [bits, wrap_u64]
  rw [show IntKind.u64.bits = 64 from rfl, BitVec.toNat_xor, ofInt_toNat 64 x hx.1 hx.2, ofInt_toNat 64 y hy.1 hy.2]
  have : x.toNat ^^^ y.toNat < 2 ^ 64 := Nat.xor_lt_two_pow (by omega) (by omega)
  omega
theorem xor_u64_ones (x : Int) (hx : 0 ≤ x ∧ x < 18446744073709551616) : bits .xor .u64 x 18446744073709551615 = 18446744073709551615 - x := by
  simp only [bits, wrap_u64]
  rw [show IntKind.u64.bits = 64 from rfl, show BitVec.ofInt 64 18446744073709551615 = BitVec.allOnes 64 from by decide, BitVec.xor_allOnes, BitVec.toNat_not, ofInt_toNat 64 x hx.1 hx.2]
  omega
theorem xor_u64_zero (x : Int) (hx : 0 ≤ x ∧ x < 18446744073709551616) : bits .xor .u64 x 0 = x := by
  rw [xor_u64 x 0 hx (by omega)]; simp; omega
theorem xor_i64_ones (x : Int) (hx : -9223372036854775808 ≤ x ∧ x < 9223372036854775808) : bits .xor .i64 x (-1) = -1 - x := by
  simp only [bits, wrap_i64]
  rw [show IntKind.i64.bits = 64 from rfl, show BitVec.ofInt 64 (-1) = BitVec.allOnes 64 from by decide, BitVec.xor_allOnes, BitVec.toNat_not, BitVec.toNat_ofInt]
  omega
theorem xor_i64_zero (x : Int) (hx : -9223372036854775808 ≤ x ∧ x < 9223372036854775808) : bits .xor .i64 x 0 = x := by
  simp only [bits, wrap_i64]
  rw [show IntKind.i64.bits = 64 from rfl, show BitVec.ofInt 64 0 = 0#64 from by decide, BitVec.xor_zero, BitVec.toNat_ofInt]
  omega
theorem and_u64 (x y : Int) (hx : 0 ≤ x ∧ x < 18446744073709551616) (hy : 0 ≤ y ∧ y < 18446744073709551616) : bits .and .u64 x y = ((x.toNat &&& y.toNat : Nat) : Int) := by
  simp only [bits, wrap_u64]
  rw [show IntKind.u64.bits = 64 from rfl, BitVec.toNat_and, ofInt_toNat 64 x hx.1 hx.2, ofInt_toNat 64 y hy.1 hy.2]
  have : x.toNat &&& y.toNat ≤ x.toNat := Nat.and_le_left
  omega
theorem and_u64_one (x : Int) (hx : 0 ≤ x ∧ x < 18446744073709551616) : bits .and .u64 x 1 = x % 2 := by
  rw [and_u64 x 1 hx (by omega)]
  rw [show (1 : Int).toNat = 2 ^ 1 - 1 from rfl, Nat.and_two_pow_sub_one_eq_mod]; omega
theorem or_u64 (x y : Int) (hx : 0 ≤ x ∧ x < 18446744073709551616) (hy : 0 ≤ y ∧ y < 18446744073709551616) : bits .or .u64 x y = ((x.toNat ||| y.toNat : Nat) : Int) := by
  simp only [bits, wrap_u64]
  rw [show IntKind.u64.bits = 64 from rfl, BitVec.toNat_or, ofInt_toNat 64 x hx.1 hx.2, ofInt_toNat 64 y hy.1 hy.2]
  have : x.toNat ||| y.toNat < 2 ^ 64 := Nat.or_lt_two_pow (by omega) (by omega)
  omega
end Ib
namespace Go.Proofs.YtiahbcaoikoogaaDoor.PBits
open Go Go.RowKit Go.Proofs.YtiahbcaoikoogaaDoor Go.Proofs.YtiahbcaoikoogaaDoor.All Go.Proofs.YtiahbcaoikoogaaDoorW.PrintWords Go.Proofs.YtiahbcaoikoogaaDoorW.PrintLast
theorem rd_at (xs : List Int) (i : Nat) (h : i < xs.length) : rd xs (i : Int) = xs[i] := by
  simp [rd, List.getD_eq_getElem?_getD, h]
theorem w64 (n : Int) (h : -9223372036854775808 ≤ n ∧ n < 9223372036854775808) : wrap64 n = n := by unfold wrap64; omega
theorem tmod_nat (n : Int) (h : 0 ≤ n) (m : Int) : Int.tmod n m = n % m := Int.tmod_eq_emod_of_nonneg h
theorem tdiv_nat (n : Int) (h : 0 ≤ n) (m : Int) : Int.tdiv n m = n / m := Int.tdiv_eq_ediv_of_nonneg h
theorem at_drop (xs : List Int) (i : Nat) (h : i < xs.length) : xs.drop i = xs[i] :: xs.drop (i + 1) := List.drop_eq_getElem_cons h
def topb : Nat → Int → List Int
  | 0, _ => []
  | n + 1, c => c / 128 :: topb n (c * 2 % 256)
theorem topb_low (c : Int) (hc : 0 ≤ c ∧ c < 256) : topb 8 c = Bs.low c 8 := by
  have h : ∀ c : Fin 256, topb 8 ((c.val : Nat) : Int) = Bs.low ((c.val : Nat) : Int) 8 := by decide +kernel
  have := h ⟨c.toNat, by omega⟩
  rw [show ((c.toNat : Nat) : Int) = c from by omega] at this
  exact this
theorem topb_length (n : Nat) : ∀ c, (topb n c).length = n := by
  induction n with
  | zero => intro c; rfl
  | succ n ih => intro c; simp [topb, ih]
theorem Flat_l1 (xs : List Int) (i : Int) (r : List Int) : ∀ (j : Nat) (acc : List Int) (c : Int), j ≤ 8 → 0 ≤ c ∧ c < 256 → acc.length + j < 140737488355328 →
    Ev (fun k => gaiterref01_Flat.l0 k xs (acc ++ topb j c) (wrap64 (i + 1))) r → Ev (fun k => gaiterref01_Flat.l1 k xs acc i c ((8 - j : Nat) : Int)) r := by
  intro j
  induction j with
  | zero => intro acc c _ _ _ h; exact Ev.step (fun k => by simp only [gaiterref01_Flat.l1]; rw [if_neg (by omega)]; simp only [topb, List.append_nil]) h
  | succ j ih =>
    intro acc c hj hc hl h
    refine Ev.step (fun k => ?_) (ih (acc ++ [c / 128]) (c * 2 % 256) (by omega) (by omega) (by rw [List.length_append, List.length_singleton]; omega) ?_)
    · simp only [gaiterref01_Flat.l1]
      rw [if_pos (by omega), if_pos (by omega), tdiv_nat _ hc.1, show c / 128 % 256 = c / 128 from by omega, show wrap64 (((8 - (j + 1) : Nat) : Int) + 1) = ((8 - j : Nat) : Int) from by rw [w64 _ (by omega)]; omega]
    · rw [List.append_assoc]; exact h
theorem Flat_l0 (xs : List Int) (hx : Bs.Bytes xs) (hl : xs.length < 1152921504606846976) : ∀ (d i : Nat) (acc : List Int), i + d = xs.length → acc.length + 8 * d < 140737488355328 →
    Ev (fun k => gaiterref01_Flat.l0 k xs acc (i : Int)) (acc ++ Bs.flat (xs.drop i)) := by
  intro d
  induction d with
  | zero =>
    intro i acc hi _
    refine Ev.step (fun k => ?_) (Ev.now _)
    simp only [gaiterref01_Flat.l0]
    rw [if_neg (by omega), List.drop_eq_nil_of_le (by omega), Bs.flat_nil, List.append_nil]
  | succ d ih =>
    intro i acc hi hacc
    have hlt : i < xs.length := by omega
    have hc := hx xs[i] (List.getElem_mem hlt)
    have := ih (i + 1) (acc ++ Bs.low xs[i] 8) (by omega) (by rw [List.length_append, Bs.low_length]; omega)
    rw [at_drop xs i hlt, Bs.flat_cons, ← List.append_assoc]
    refine Ev.step (fun k => ?_) (Flat_l1 xs (i : Int) _ 8 acc xs[i] (by omega) hc (by omega) ?_)
    · simp only [gaiterref01_Flat.l0]
      rw [if_pos (by omega), if_pos (by omega), rd_at xs i hlt]
      rfl
    · rw [topb_low _ hc, w64 _ (by omega)]; exact this
theorem Flat_is (xs : List Int) (hx : Bs.Bytes xs) (hl : 8 * xs.length < 140737488355328) : Ev (fun k => gaiterref01_Flat.f k xs) (Bs.flat xs) := by
  have := Flat_l0 xs hx (by omega) xs.length 0 [] (by omega) (by simp; omega)
  rw [List.nil_append, List.drop_zero] at this
  exact this
theorem pow_le {i n : Nat} (h : i ≤ n) : (2 : Int) ^ i ≤ 2 ^ n := by
  rw [show n = i + (n - i) from by omega, Int.pow_add]
  have h1 := Bs.pow_pos i; have h2 := Bs.pow_pos (n - i)
  have := Int.mul_le_mul_of_nonneg_left (show (1 : Int) ≤ 2 ^ (n - i) by omega) (Int.le_of_lt h1)
  omega
theorem Number_l0 (xs : List Int) (hx : Bs.Bits xs) (hl : xs.length ≤ 64) : ∀ (d i : Nat) (v : Int), i + d = xs.length → 0 ≤ v → v + 1 ≤ 2 ^ i →
    Ev (fun k => gaiterref01_Number.l0 k xs v (i : Int)) ((xs.drop i).foldl (fun v b => 2 * v + b) v) := by
  intro d
  induction d with
  | zero =>
    intro i v hi _ _
    refine Ev.step (fun k => ?_) (Ev.now _)
    simp only [gaiterref01_Number.l0]
    rw [if_neg (by omega), List.drop_eq_nil_of_le (by omega)]
    rfl
  | succ d ih =>
    intro i v hi h0 hv
    have hlt : i < xs.length := by omega
    have hc := hx xs[i] (List.getElem_mem hlt)
    have hp : (2 : Int) ^ (i + 1) = 2 * 2 ^ i := by rw [Int.pow_succ, Int.mul_comm]
    have hq : (2 : Int) ^ (i + 1) ≤ 2 ^ 64 := pow_le (by omega)
    have hq2 : (2 : Int) ^ 64 = 18446744073709551616 := by decide
    have hb : 0 ≤ xs[i] ∧ xs[i] ≤ 1 := by omega
    have := ih (i + 1) (2 * v + xs[i]) (by omega) (by omega) (by omega)
    rw [at_drop xs i hlt, List.foldl_cons]
    refine Ev.step (fun k => ?_) this
    simp only [gaiterref01_Number.l0]
    rw [if_pos (by omega), if_pos (by omega), rd_at xs i hlt, Ib.wrap_u64, Ib.wrap_u64, Ib.wrap_u64, w64 _ (by omega)]
    congr 1
    omega
theorem Number_is (xs : List Int) (hx : Bs.Bits xs) (hl : xs.length ≤ 64) : Ev (fun k => gaiterref01_Number.f k xs) (Bs.number xs) := by
  have := Number_l0 xs hx hl xs.length 0 0 (by omega) (by omega) (by simp)
  rw [List.drop_zero] at this
  exact this
theorem Low_l0 : ∀ (m : Nat) (u : Int) (L : List Int), 0 ≤ u ∧ u < 18446744073709551616 → m < 1152921504606846976 →
    Ev (fun k => gaiterref01_Low.l0 k u (List.replicate m 0 ++ L) ((m : Int) - 1)) (Bs.low u m ++ L) := by
  intro m
  induction m with
  | zero =>
    intro u L _ _
    refine Ev.step (fun k => ?_) (Ev.now _)
    simp only [gaiterref01_Low.l0]
    rw [if_neg (by omega)]
    rfl
  | succ m ih =>
    intro u L hu hm
    have := ih (u / 2) ((u % 2) :: L) (by omega) (by omega)
    rw [show Bs.low u (m + 1) ++ L = Bs.low (u / 2) m ++ (u % 2 :: L) from by simp [Bs.low]]
    refine Ev.step (fun k => ?_) this
    simp only [gaiterref01_Low.l0]
    rw [show ((m + 1 : Nat) : Int) - 1 = (m : Int) from by omega]
    rw [if_pos (by omega), if_pos (by omega), if_pos (by rw [List.length_append, List.length_replicate]; omega), tdiv_nat _ hu.1, tmod_nat _ hu.1, Ib.wrap_u64, w64 _ (by omega)]
    congr 1
    · omega
    · rw [Int.toNat_natCast, List.replicate_succ', List.append_assoc, List.set_append_right _ _ (by simp)]
      simp
      omega
theorem Low_is (u : Int) (n : Int) (hu : 0 ≤ u ∧ u < 18446744073709551616) (hn : 0 ≤ n ∧ n ≤ 281474976710656) : Ev (fun k => gaiterref01_Low.f k u n) (Bs.low u n.toNat) := by
  have := Low_l0 n.toNat u [] hu (by omega)
  rw [List.append_nil, List.append_nil] at this
  refine Ev.congr (fun k => ?_) this
  simp only [gaiterref01_Low.f]
  rw [if_pos hn.1, if_pos (by omega), w64 _ (by omega), show ((n.toNat : Nat) : Int) - 1 = n - 1 from by omega]
def tk (L : List Int) (a n : Int) : Int × Bool :=
  if n < 0 ∨ n > 64 ∨ a < 0 ∨ a > (L.length : Int) ∨ n > (L.length : Int) - a then (0, false) else (Bs.number ((L.drop a.toNat).take n.toNat), true)
theorem tk_no {L : List Int} {a n : Int} (h : n < 0 ∨ n > 64 ∨ a < 0 ∨ a > (L.length : Int) ∨ n > (L.length : Int) - a) : tk L a n = (0, false) := if_pos h
theorem tk_yes {L : List Int} {a n : Int} (h : ¬ (n < 0 ∨ n > 64 ∨ a < 0 ∨ a > (L.length : Int) ∨ n > (L.length : Int) - a)) : tk L a n = (Bs.number ((L.drop a.toNat).take n.toNat), true) := if_neg h
theorem or_bit (v b : Int) (hv : 0 ≤ v ∧ 2 * v + 1 < 18446744073709551616) (hb : b = 0 ∨ b = 1) : Go.bits .or .u64 (2 * v) b = 2 * v + b := by
  rw [Ib.or_u64 _ _ (by omega) (by omega)]
  have h := Nat.two_pow_add_eq_or_of_lt (i := 1) (b := b.toNat) (by omega) v.toNat
  rw [show (2 * v).toNat = 2 ^ 1 * v.toNat from by omega, ← h]
  omega
theorem and_u8_one (x : Int) (hx : 0 ≤ x ∧ x < 256) : Go.bits .and .u8 x 1 = x % 2 := by
  simp only [Go.bits, Ib.wrap_u8]
  rw [show IntKind.u8.bits = 8 from rfl, BitVec.toNat_and, Ib.ofInt_toNat 8 x hx.1 hx.2, show (BitVec.ofInt 8 1).toNat = 2 ^ 1 - 1 from rfl, Nat.and_two_pow_sub_one_eq_mod]
  omega
theorem or_u8 (x y : Int) (hx : 0 ≤ x ∧ x < 256) (hy : 0 ≤ y ∧ y < 256) : Go.bits .or .u8 x y = ((x.toNat ||| y.toNat : Nat) : Int) := by
  simp only [Go.bits, Ib.wrap_u8]
  rw [show IntKind.u8.bits = 8 from rfl, BitVec.toNat_or, Ib.ofInt_toNat 8 x hx.1 hx.2, Ib.ofInt_toNat 8 y hy.1 hy.2]
  have : x.toNat ||| y.toNat < 2 ^ 8 := Nat.or_lt_two_pow (by omega) (by omega)
  omega
theorem or_u8_sum (t y : Int) (s : Nat) (hs : s ≤ 8) (h : 0 ≤ t * 2 ^ s ∧ t * 2 ^ s < 256) (hy : 0 ≤ y ∧ y < 2 ^ s) : Go.bits .or .u8 (t * 2 ^ s) y = t * 2 ^ s + y := by
  have h1 : (2 : Int) ^ s ≤ 2 ^ 8 := pow_le hs
  have h2 : (2 : Int) ^ 8 = 256 := by decide
  have h3 := Bs.pow_pos s
  have h4 : (0 : Int) ≤ t := by
    refine Decidable.byContradiction fun h5 => ?_
    have := Int.mul_le_mul_of_nonneg_right (show t ≤ -1 by omega) (Int.le_of_lt h3)
    omega
  rw [or_u8 _ _ h (by omega)]
  obtain ⟨m, rfl⟩ := Int.eq_ofNat_of_zero_le h4
  obtain ⟨z, rfl⟩ := Int.eq_ofNat_of_zero_le hy.1
  have h6 : ((m : Int) * 2 ^ s) = ((2 ^ s * m : Nat) : Int) := by push_cast; rw [Int.mul_comm]
  have h7 : z < 2 ^ s := by have := hy.2; exact_mod_cast this
  rw [h6, Int.toNat_natCast, Int.toNat_natCast, ← Nat.two_pow_add_eq_or_of_lt h7]
  push_cast
  rfl
theorem low_at (n : Nat) : ∀ (v : Int) (j : Nat) (h : j < (Bs.low v n).length), (Bs.low v n)[j] = v / 2 ^ (n - 1 - j) % 2 := by
  induction n with
  | zero => intro v j h; simp [Bs.low] at h
  | succ n ih =>
    intro v j h
    rw [Bs.low_length] at h
    simp only [Bs.low]
    by_cases hj : j < n
    · rw [List.getElem_append_left (by rw [Bs.low_length]; exact hj), ih, show n + 1 - 1 - j = (n - 1 - j) + 1 from by omega, Int.pow_succ, Int.mul_comm, Int.ediv_ediv_of_nonneg (by decide)]
    · rw [List.getElem_append_right (by rw [Bs.low_length]; omega)]
      simp only [Bs.low_length, List.getElem_singleton]
      rw [show n + 1 - 1 - j = 0 from by omega]; simp
theorem flat_at (b : List Int) (i : Nat) (h : i < (Bs.flat b).length) (h' : i / 8 < b.length) : (Bs.flat b)[i] = b[i / 8] / 2 ^ (7 - i % 8) % 2 := by
  induction b generalizing i with
  | nil => simp at h'
  | cons c b ih =>
    simp only [Bs.flat_cons]
    by_cases hi : i < 8
    · rw [List.getElem_append_left (by rw [Bs.low_length]; exact hi), low_at]
      simp only [show i / 8 = 0 from by omega, List.getElem_cons_zero, show i % 8 = i from by omega]
    · rw [List.getElem_append_right (by rw [Bs.low_length]; omega)]
      have h2 := ih (i - 8) (by rw [Bs.flat_cons, List.length_append, Bs.low_length] at h; omega) (by simp only [List.length_cons] at h'; omega)
      simp only [Bs.low_length]
      rw [h2]
      simp only [show i / 8 = (i - 8) / 8 + 1 from by omega, List.getElem_cons_succ, show (i - 8) % 8 = i % 8 from by omega]
theorem at_byte (j : Nat) (h : j < 9223372036854775808) : wrap64 (Int.tdiv (j : Int) 8) = ((j / 8 : Nat) : Int) := by rw [tdiv_nat _ (by omega), w64 _ (by omega)]; omega
theorem at_bit (j : Nat) (h : j < 9223372036854775808) : wrap64 (7 - Int.tmod (j : Int) 8) = ((7 - j % 8 : Nat) : Int) := by rw [tmod_nat _ (by omega), w64 _ (by omega)]; omega
theorem shr_u8 (c : Int) (s : Nat) (h : s ≤ 8) : shr .u8 c (s : Int) = c / 2 ^ s := by
  unfold shr; rw [Int.toNat_natCast, show IntKind.u8.bits = 8 from rfl, Nat.min_eq_left h]
theorem ediv_pow (c : Int) (s : Nat) (hc : 0 ≤ c ∧ c < 256) : 0 ≤ c / 2 ^ s ∧ c / 2 ^ s < 256 := by
  have h3 := Bs.pow_pos s
  exact ⟨Int.ediv_nonneg hc.1 (Int.le_of_lt h3), Int.lt_of_le_of_lt (Int.ediv_le_self _ hc.1) hc.2⟩
theorem number_63 {l : List Int} (h : Bs.Bits l) (hl : l.length ≤ 63) : 0 ≤ Bs.number l ∧ 2 * Bs.number l + 1 < 18446744073709551616 := by
  have hr := Bs.number_range h
  have hp : (2 : Int) ^ l.length ≤ 2 ^ 63 := pow_le hl
  rw [show (2 : Int) ^ 63 = 9223372036854775808 from by decide] at hp
  omega
theorem take_step (v c : Int) (s : Nat) (hs : s ≤ 8) (hv : 0 ≤ v ∧ 2 * v + 1 < 18446744073709551616) (hc : 0 ≤ c ∧ c < 256) :
    Go.bits .or .u64 (IntKind.u64.wrap (v * 2)) (IntKind.u64.wrap (Go.bits .and .u8 (shr .u8 c (s : Int)) 1)) = 2 * v + c / 2 ^ s % 2 := by
  have h4 := ediv_pow c s hc
  rw [shr_u8 c s hs, and_u8_one _ h4, Ib.wrap_u64, Ib.wrap_u64]
  generalize c / 2 ^ s = q at h4 ⊢
  rw [show v * 2 % 18446744073709551616 = 2 * v from by omega, show q % 2 % 18446744073709551616 = q % 2 from by omega, or_bit _ _ hv (by omega)]
theorem Take_l0 (b : List Int) (hb : Bs.Bytes b) (hl : 8 * b.length < 140737488355328) (a n : Nat) (hn : n ≤ 64) (han : a + n ≤ (Bs.flat b).length) : ∀ (d i : Nat), i + d = n →
    Ev (fun k => bits_Take.l0 k b (a : Int) (n : Int) (Bs.number (((Bs.flat b).drop a).take i)) ((a + i : Nat) : Int)) (Bs.number (((Bs.flat b).drop a).take n), true) := by
  have hL := Bs.flat_length b
  intro d
  induction d with
  | zero =>
    intro i hi
    refine Ev.step (fun k => ?_) (Ev.now _)
    simp only [bits_Take.l0]
    rw [w64 _ (by omega), if_neg (by omega), show i = n from by omega]
  | succ d ih =>
    intro i hi
    have hlt : a + i < (Bs.flat b).length := by omega
    have hq : (a + i) / 8 < b.length := by omega
    have hn2 : a + i < 140737488355328 := by omega
    have hw1 : wrap64 ((a : Int) + n) = ((a + n : Nat) : Int) := by rw [w64 _ (by omega)]; omega
    have hw2 : wrap64 (((a + i : Nat) : Int) + 1) = ((a + (i + 1) : Nat) : Int) := by rw [w64 _ (by omega)]; omega
    have hin : ((a + i : Nat) : Int) < ((a + n : Nat) : Int) := by omega
    have hq' : (((a + i) / 8 : Nat) : Int) < (b.length : Int) := Int.ofNat_lt.2 hq
    have hn3 : a + i < 9223372036854775808 := by omega
    have h63 : i ≤ 63 := by omega
    have hc := hb b[(a + i) / 8] (List.getElem_mem hq)
    have := ih (i + 1) (by omega)
    have htk : ((Bs.flat b).drop a).take (i + 1) = ((Bs.flat b).drop a).take i ++ [(Bs.flat b)[a + i]] := by
      rw [List.take_add_one, List.getElem?_drop, List.getElem?_eq_getElem hlt]; rfl
    have hv := number_63 (((Bs.flat_bits b).drop a).take i) (Nat.le_trans (List.length_take_le _ _) h63)
    rw [htk, Bs.number_snoc, flat_at b (a + i) hlt hq] at this
    refine Ev.step (fun k => ?_) this
    simp only [bits_Take.l0]
    rw [at_byte _ hn3, at_bit _ hn3, hw1, hw2, if_pos hin, if_pos (Int.natCast_nonneg _), if_pos hq', if_pos (Int.natCast_nonneg _), rd_at b _ hq, take_step _ _ _ (Nat.le_trans (Nat.sub_le _ _) (by decide)) hv hc]
theorem Take_is (b : List Int) (hb : Bs.Bytes b) (hl : 8 * b.length < 140737488355328) (a n : Int) : Ev (fun k => bits_Take.f k b a n) (tk (Bs.flat b) a n) := by
  have hL := Bs.flat_length b
  unfold bits_Take.f
  by_cases c1 : n < 0
  · rw [tk_no (.inl c1)]
    exact Ev.step (g := fun k => _) (fun k => by rw [if_pos c1]; simp only [bits_Take.j0, if_true]) (Ev.now _)
  by_cases c2 : n > 64
  · rw [tk_no (.inr (.inl c2))]
    exact Ev.step (g := fun k => _) (fun k => by rw [if_neg c1, if_pos c2]; simp only [bits_Take.j0, if_true]) (Ev.now _)
  by_cases c3 : a < 0
  · rw [tk_no (.inr (.inr (.inl c3)))]
    exact Ev.step (g := fun k => _) (fun k => by rw [if_neg c1, if_neg c2, if_pos c3]; simp only [bits_Take.j0, if_true]) (Ev.now _)
  have e8 : wrap64 (8 * (b.length : Int)) = ((Bs.flat b).length : Int) := by rw [w64 _ (by omega)]; omega
  rw [e8]
  by_cases c4 : a > ((Bs.flat b).length : Int)
  · rw [tk_no (.inr (.inr (.inr (.inl c4))))]
    exact Ev.step (g := fun k => _) (fun k => by rw [if_neg c1, if_neg c2, if_neg c3, if_pos c4]; simp only [bits_Take.j0, if_true]) (Ev.now _)
  rw [w64 (((Bs.flat b).length : Int) - a) (by omega)]
  by_cases c5 : n > ((Bs.flat b).length : Int) - a
  · rw [tk_no (.inr (.inr (.inr (.inr c5))))]
    exact Ev.step (g := fun k => _) (fun k => by rw [if_neg c1, if_neg c2, if_neg c3, if_neg c4, decide_eq_true c5]; simp only [bits_Take.j0, if_true]) (Ev.now _)
  rw [tk_yes (by omega)]
  obtain ⟨a, rfl⟩ := Int.eq_ofNat_of_zero_le (Int.not_lt.1 c3)
  obtain ⟨n, rfl⟩ := Int.eq_ofNat_of_zero_le (Int.not_lt.1 c1)
  have := Take_l0 b hb hl a n (by omega) (by omega) n 0 (by omega)
  rw [Int.toNat_natCast, Int.toNat_natCast]
  refine Ev.step (g := fun k => _) (fun k => ?_) this
  rw [if_neg c1, if_neg c2, if_neg c3, if_neg c4, decide_eq_false c5]
  simp only [bits_Take.j0]
  rw [if_neg (by decide)]
  rfl
end Go.Proofs.YtiahbcaoikoogaaDoor.PBits
namespace Go.Proofs.YtiahbcaoikoogaaDoor.PBits
open Go Go.RowKit Go.Proofs.YtiahbcaoikoogaaDoor Go.Proofs.YtiahbcaoikoogaaDoor.All Go.Proofs.YtiahbcaoikoogaaDoorW.PrintWords Go.Proofs.YtiahbcaoikoogaaDoorW.PrintLast
theorem wr_succ (i : Nat) (h : i < 140737488355328) : wrap64 ((i : Int) + 1) = ((i + 1 : Nat) : Int) := by rw [w64 _ (by omega)]; omega
theorem wr_pred (m : Nat) (h : m < 140737488355328) : wrap64 ((m : Int) - 1) = (m : Int) - 1 := w64 _ (by omega)
theorem wr_pred' (m : Nat) (h0 : 0 < m) (h : m < 140737488355328) : wrap64 ((m : Int) - 1) = ((m - 1 : Nat) : Int) := by rw [w64 _ (by omega)]; omega
theorem wr_add (i j : Nat) (h : i + j < 140737488355328) : wrap64 ((i : Int) + (j : Int)) = ((i + j : Nat) : Int) := by rw [w64 _ (by omega)]; omega
theorem wr_eight (r : Nat) (h : r ≤ 8) : wrap64 (8 - (r : Int)) = ((8 - r : Nat) : Int) := by rw [w64 _ (by omega)]; omega
theorem wr_bytes (n : Nat) (h : n < 140737488355328) : wrap64 (Int.tdiv (wrap64 ((n : Int) + 7)) 8) = (((n + 7) / 8 : Nat) : Int) := by
  rw [w64 ((n : Int) + 7) (by omega), tdiv_nat _ (by omega), w64 _ (by omega)]; omega
theorem tmod8 (n : Nat) : Int.tmod (n : Int) 8 = ((n % 8 : Nat) : Int) := by rw [tmod_nat _ (by omega)]; omega
theorem shl_u8 (x : Int) (s : Nat) (h : s ≤ 8) : shl .u8 x (s : Int) = x * 2 ^ s % 256 := by
  unfold shl; rw [Int.toNat_natCast, show IntKind.u8.bits = 8 from rfl, Nat.min_eq_left h, Ib.wrap_u8]
theorem bit_of (v : Int) (m : Nat) (hv : 0 ≤ v ∧ v < 18446744073709551616) (hm : m ≤ 63) : Go.bits .and .u64 (shr .u64 v (m : Int)) 1 % 256 = v / 2 ^ m % 2 := by
  unfold shr
  rw [Int.toNat_natCast, show IntKind.u64.bits = 64 from rfl, Nat.min_eq_left (by omega)]
  have h3 := Bs.pow_pos m
  have h4 : 0 ≤ v / 2 ^ m := Int.ediv_nonneg hv.1 (Int.le_of_lt h3)
  have h5 : v / 2 ^ m < 18446744073709551616 := Int.lt_of_le_of_lt (Int.ediv_le_self _ hv.1) hv.2
  generalize v / 2 ^ m = q at h4 h5 ⊢
  rw [Ib.and_u64_one q ⟨h4, h5⟩]
  omega
theorem put_first {l : List Int} (h : l.length % 8 = 0) (x : Int) (hx : x = 0 ∨ x = 1) :
    (Bs.pack l ++ [0]).set (l.length / 8) (Go.bits .or .u8 (rd (Bs.pack l ++ [0]) ((l.length / 8 : Nat) : Int)) (shl .u8 x ((7 - l.length % 8 : Nat) : Int))) = Bs.pack (l ++ [x]) := by
  have hp := Bs.pack_length l
  have hr : rd (Bs.pack l ++ [0]) ((l.length / 8 : Nat) : Int) = 0 := by
    rw [rd_at _ _ (by rw [List.length_append, List.length_singleton]; omega), List.getElem_append_right (by omega)]
    simp
  rw [hr, Bs.pack_snoc0 h, List.set_append_right _ _ (by omega), h, show l.length / 8 - (Bs.pack l).length = 0 from by omega, List.set_cons_zero]
  rcases hx with rfl | rfl
  · rw [show Go.bits .or .u8 0 (shl .u8 0 ((7 - 0 : Nat) : Int)) = 0 * 128 from by decide +kernel]
  · rw [show Go.bits .or .u8 0 (shl .u8 1 ((7 - 0 : Nat) : Int)) = 1 * 128 from by decide +kernel]
theorem put_next {l : List Int} (hb : Bs.Bits l) (h : l.length % 8 ≠ 0) (x : Int) (hx : x = 0 ∨ x = 1) :
    (Bs.pack l).set (l.length / 8) (Go.bits .or .u8 (rd (Bs.pack l) ((l.length / 8 : Nat) : Int)) (shl .u8 x ((7 - l.length % 8 : Nat) : Int))) = Bs.pack (l ++ [x]) := by
  have hp := Bs.pack_length l
  have hlt : l.length / 8 < (Bs.pack l).length := by omega
  have hby := Bs.pack_bytes hb _ (List.getElem_mem hlt)
  obtain ⟨t, ht⟩ := Bs.pack_last h
  have hg : (Bs.pack l).getD (l.length / 8) 0 = (Bs.pack l)[l.length / 8] := by simp [List.getD_eq_getElem?_getD, hlt]
  have hrd : rd (Bs.pack l) ((l.length / 8 : Nat) : Int) = t * 2 ^ (8 - l.length % 8) := by rw [rd_at _ _ hlt, ← hg, ht]
  rw [← hg, ht] at hby
  rw [Bs.pack_snoc h, hrd, ht]
  have hr : l.length % 8 < 8 := Nat.mod_lt _ (by decide)
  generalize l.length % 8 = r at h hby hr ⊢
  have h1 : (2 : Int) ^ (8 - r) = 2 * 2 ^ (7 - r) := by rw [show 8 - r = (7 - r) + 1 from by omega, Int.pow_succ, Int.mul_comm]
  have h2 : (2 : Int) ^ (7 - r) ≤ 2 ^ 6 := pow_le (by omega)
  rw [show (2 : Int) ^ 6 = 64 from by decide] at h2
  have h3 := Bs.pow_pos (7 - r)
  have h4 : 0 ≤ x * 2 ^ (7 - r) ∧ x * 2 ^ (7 - r) < 2 ^ (8 - r) := by
    rcases hx with rfl | rfl
    · rw [Int.zero_mul]; omega
    · rw [Int.one_mul]; omega
  rw [shl_u8 _ _ (by omega), show x * 2 ^ (7 - r) % 256 = x * 2 ^ (7 - r) from Int.emod_eq_of_lt h4.1 (by omega), or_u8_sum t _ _ (by omega) hby h4]
theorem Put_l0 (v : Int) (hv : 0 ≤ v ∧ v < 18446744073709551616) : ∀ (m : Nat) (l : List Int), Bs.Bits l → m ≤ 64 → l.length + m < 140737488355328 →
    Ev (fun k => bits_Put.l0 k v ((m : Int) - 1) (Bs.pack l) (l.length : Int)) (Bs.pack (l ++ Bs.low v m), ((l.length + m : Nat) : Int)) := by
  intro m
  induction m with
  | zero =>
    intro l hl _ _
    refine Ev.step (fun k => ?_) (Ev.now _)
    simp only [bits_Put.l0]
    rw [if_neg (by omega)]
    simp only [Bs.low, List.append_nil, Nat.add_zero]
  | succ m ih =>
    intro l hl hm hlen
    have hp := Bs.pack_length l
    have hn2 : l.length < 140737488355328 := by omega
    have hn3 : l.length < 9223372036854775808 := by omega
    have hlp : (Bs.pack l).length < 140737488355328 := by omega
    have hm63 : m ≤ 63 := by omega
    have hm47 : m < 140737488355328 := by omega
    have hm64 : m ≤ 64 := by omega
    have hlm : (l ++ [v / 2 ^ m % 2]).length + m < 140737488355328 := by rw [List.length_append, List.length_singleton]; omega
    have h7 : ((m + 1 : Nat) : Int) - 1 = (m : Int) := by omega
    have hm0 : (m : Int) ≥ 0 := Int.natCast_nonneg _
    have hi1 : l.length % 8 = 0 → ((l.length / 8 : Nat) : Int) < ((Bs.pack l ++ [0]).length : Int) := by intro h; rw [List.length_append, List.length_singleton]; omega
    have hi2 : l.length % 8 ≠ 0 → ((l.length / 8 : Nat) : Int) < ((Bs.pack l).length : Int) := by intro h; omega
    have hz1 : l.length % 8 = 0 → ((l.length % 8 : Nat) : Int) = 0 := by omega
    have hz2 : l.length % 8 ≠ 0 → ¬ ((l.length % 8 : Nat) : Int) = 0 := by omega
    have hx : v / 2 ^ m % 2 = 0 ∨ v / 2 ^ m % 2 = 1 := Int.emod_two_eq _
    have hb := bit_of v m hv hm63
    have hw1 := wr_pred m hm47
    have hw2 := wr_succ l.length hn2
    have ht1 := tmod8 l.length
    have := ih (l ++ [v / 2 ^ m % 2]) (hl.append (Bs.Bits.cons hx Bs.Bits.nil)) hm64 hlm
    rw [List.append_assoc, List.singleton_append, ← Bs.low_top, List.length_append, List.length_singleton] at this
    rw [show l.length + (m + 1) = l.length + 1 + m from by rw [Nat.add_comm m 1, Nat.add_assoc]]
    refine Ev.step (fun k => ?_) this
    simp only [bits_Put.l0]
    rw [h7, if_pos hm0, at_byte _ hn3, at_bit _ hn3, ht1, hw1, hw2, hb]
    by_cases h8 : l.length % 8 = 0
    · rw [if_pos (hz1 h8), if_pos hlp]
      simp only [Option.bind_some]
      rw [if_pos (Int.natCast_nonneg _), if_pos (hi1 h8), if_pos hm0, if_pos (Int.natCast_nonneg _), Int.toNat_natCast, put_first h8 _ hx]
    · rw [if_neg (hz2 h8), if_pos (Int.natCast_nonneg _), if_pos (hi2 h8), if_pos hm0, if_pos (Int.natCast_nonneg _), Int.toNat_natCast, put_next hl h8 _ hx]
theorem Put_is (l : List Int) (hl : Bs.Bits l) (hlen : l.length + 64 < 140737488355328) (v : Int) (hv : 0 ≤ v ∧ v < 18446744073709551616) (n : Int) :
    Ev (fun k => bits_Put.f k (Bs.pack l) (l.length : Int) v n) (if n < 0 ∨ n > 64 then (Bs.pack l, (l.length : Int)) else (Bs.pack (l ++ Bs.low v n.toNat), ((l.length + n.toNat : Nat) : Int))) := by
  have hp := Bs.pack_length l
  unfold bits_Put.f slices_Clone_byte_byte.f
  rw [if_pos (by omega)]
  simp only [Option.bind_some]
  by_cases c1 : n < 0
  · rw [if_pos (.inl c1)]
    exact Ev.step (g := fun k => _) (fun k => by rw [if_pos c1]; simp only [bits_Put.j0, if_true]) (Ev.now _)
  by_cases c2 : n > 64
  · rw [if_pos (.inr c2)]
    exact Ev.step (g := fun k => _) (fun k => by rw [if_neg c1, decide_eq_true c2]; simp only [bits_Put.j0, if_true]) (Ev.now _)
  rw [if_neg (by omega)]
  refine Ev.step (g := fun k => _) (fun k => ?_) (Put_l0 v hv n.toNat l hl (by omega) (by omega))
  rw [if_neg c1, decide_eq_false c2]
  simp only [bits_Put.j0]
  rw [if_neg (by decide), w64 _ (by omega), show ((n.toNat : Nat) : Int) = n from by omega]
end Go.Proofs.YtiahbcaoikoogaaDoor.PBits
namespace Go.Proofs.YtiahbcaoikoogaaDoor.PDod
open Go Go.RowKit Go.Proofs.YtiahbcaoikoogaaDoor Go.Proofs.YtiahbcaoikoogaaDoor.All Go.Proofs.YtiahbcaoikoogaaDoorW.PrintWords Go.Proofs.YtiahbcaoikoogaaDoorW.PrintLast
def restL (L : List Int) (a : Int) : List Int := if a < 0 ∨ a > (L.length : Int) then [] else L.drop a.toNat
theorem restL_bits {L : List Int} (hL : Bs.Bits L) (a : Int) : Bs.Bits (restL L a) := by
  unfold restL
  split
  · exact Bs.Bits.nil
  · exact hL.drop _
theorem restL_length (L : List Int) (a : Int) : (restL L a).length ≤ L.length := by
  unfold restL
  split
  · exact Nat.zero_le _
  · rw [List.length_drop]; omega
theorem Rest_is (b : List Int) (hb : Bs.Bytes b) (hl : 8 * b.length < 140737488355328) (a : Int) : Ev (fun k => gaiterlaw00_Rest.f k b a) (restL (Bs.flat b) a) := by
  unfold gaiterlaw00_Rest.f
  refine Ev.bind (PBits.Flat_is b hb hl) ?_
  by_cases c1 : a < 0
  · rw [show restL (Bs.flat b) a = [] from if_pos (.inl c1)]
    simp only [if_pos c1]
    exact Ev.now _
  by_cases c2 : a > ((Bs.flat b).length : Int)
  · rw [show restL (Bs.flat b) a = [] from if_pos (.inr c2)]
    simp only [if_neg c1, if_pos c2]
    exact Ev.now _
  · have c3 : 0 ≤ a := by omega
    have c4 : a ≤ ((Bs.flat b).length : Int) := by omega
    rw [show restL (Bs.flat b) a = (Bs.flat b).drop a.toNat from if_neg (fun h => h.elim c1 c2)]
    simp only [if_neg c1, if_neg c2, if_pos c3, if_pos c4]
    exact Ev.now _
end Go.Proofs.YtiahbcaoikoogaaDoor.PDod
namespace Go.Proofs.YtiahbcaoikoogaaDoor.PBits
open Go Go.RowKit Go.Proofs.YtiahbcaoikoogaaDoor Go.Proofs.YtiahbcaoikoogaaDoor.All Go.Proofs.YtiahbcaoikoogaaDoorW.PrintWords Go.Proofs.YtiahbcaoikoogaaDoorW.PrintLast
theorem Bytes_l1 (xs acc : List Int) (i : Nat) (r : List Int) (hi : i < 1152921504606846976) (h0 : 0 < acc.length) (h1 : acc.length < 1152921504606846976)
    (h : Ev (fun k => gaiterref01_Bytes.l0 k xs (acc.set (acc.length - 1) ((acc.getD (acc.length - 1) 0 + 2 ^ (7 - i % 8)) % 256)) ((i + 1 : Nat) : Int)) r) :
    ∀ (d j : Nat), j + d = i % 8 → Ev (fun k => gaiterref01_Bytes.l1 k xs acc (i : Int) (2 ^ (7 - j)) (j : Int)) r := by
  intro d
  induction d with
  | zero =>
    intro j hj
    refine Ev.step (fun k => ?_) h
    simp only [gaiterref01_Bytes.l1]
    rw [tmod_nat _ (by omega), if_neg (by omega), w64 _ (by omega), if_pos (by omega), if_pos (by omega), w64 _ (by omega), show j = i % 8 from by omega]
    rw [show ((acc.length : Int) - 1) = ((acc.length - 1 : Nat) : Int) from by omega, Int.toNat_natCast]
    rfl
  | succ d ih =>
    intro j hj
    refine Ev.step (fun k => ?_) (ih (j + 1) (by omega))
    simp only [gaiterref01_Bytes.l1]
    rw [tmod_nat _ (by omega), if_pos (by omega), tdiv_nat _ (Int.le_of_lt (Bs.pow_pos _)), w64 _ (by omega)]
    have hp : (2 : Int) ^ (7 - j) = 2 * 2 ^ (7 - (j + 1)) := by rw [show 7 - j = (7 - (j + 1)) + 1 from by omega, Int.pow_succ, Int.mul_comm]
    have hq : (2 : Int) ^ (7 - (j + 1)) ≤ 2 ^ 7 := pow_le (by omega)
    have hq2 : (2 : Int) ^ 7 = 128 := by decide
    have hq3 := Bs.pow_pos (7 - (j + 1))
    rw [show (2 : Int) ^ (7 - j) / 2 % 256 = 2 ^ (7 - (j + 1)) from by omega]
    rfl
theorem pack_snoc_one {l : List Int} (hb : Bs.Bits l) (h : l.length % 8 ≠ 0) : Bs.pack (l ++ [1]) = (Bs.pack l).set ((Bs.pack l).length - 1) (((Bs.pack l).getD ((Bs.pack l).length - 1) 0 + 2 ^ (7 - l.length % 8)) % 256) := by
  rw [Bs.pack_length, show (l.length + 7) / 8 - 1 = l.length / 8 from by omega]
  have h1 := Bs.pack_snoc h 1
  rw [Int.one_mul] at h1
  have h2 := Bs.pack_bytes (hb.append (Bs.Bits.cons (.inr rfl) Bs.Bits.nil))
  have hlen : l.length / 8 < (Bs.pack l).length := by rw [Bs.pack_length]; omega
  have h3 : (Bs.pack l).getD (l.length / 8) 0 + 2 ^ (7 - l.length % 8) ∈ Bs.pack (l ++ [1]) := by
    rw [h1]; exact List.mem_set hlen _
  have h4 := h2 _ h3
  rw [Int.emod_eq_of_lt h4.1 h4.2]
  exact h1
theorem Bytes_l0 (xs : List Int) (hx : Bs.Bits xs) (hl : xs.length < 140737488355328) : ∀ (d i : Nat), i + d = xs.length →
    Ev (fun k => gaiterref01_Bytes.l0 k xs (Bs.pack (xs.take i)) (i : Int)) (Bs.pack xs) := by
  intro d
  induction d with
  | zero =>
    intro i hi
    refine Ev.step (fun k => ?_) (Ev.now _)
    simp only [gaiterref01_Bytes.l0]
    rw [if_neg (by omega), List.take_of_length_le (by omega)]
  | succ d ih =>
    intro i hi
    have hlt : i < xs.length := by omega
    have hc := hx xs[i] (List.getElem_mem hlt)
    have hti : (xs.take i).length = i := by rw [List.length_take]; omega
    have hbt : Bs.Bits (xs.take i) := hx.take i
    have hpl : (Bs.pack (xs.take i)).length = (i + 7) / 8 := by rw [Bs.pack_length, hti]
    have htk : xs.take (i + 1) = xs.take i ++ [xs[i]] := by rw [List.take_add_one, List.getElem?_eq_getElem hlt]; rfl
    have := ih (i + 1) (by omega)
    rw [htk] at this
    -- the byte is there
    obtain ⟨acc, hacc⟩ : ∃ acc, acc = (if i % 8 = 0 then Bs.pack (xs.take i) ++ [0] else Bs.pack (xs.take i)) := ⟨_, rfl⟩
    have hal : acc.length = i / 8 + 1 := by
      rw [hacc]; split
      · rw [List.length_append, hpl, List.length_singleton]; omega
      · rw [hpl]; omega
    have h0 : xs[i] = 0 → acc = Bs.pack (xs.take i ++ [xs[i]]) := by
      intro e
      rw [hacc, e]; split
      · rename_i h8; rw [Bs.pack_snoc0 (by omega)]; rfl
      · rename_i h8
        rw [Bs.pack_snoc (by omega), Int.zero_mul, Int.add_zero, hti]
        rw [List.getD_eq_getElem?_getD, List.getElem?_eq_getElem (by omega), Option.getD_some, List.set_getElem_self]
    have h1 : xs[i] = 1 → acc.set (acc.length - 1) ((acc.getD (acc.length - 1) 0 + 2 ^ (7 - i % 8)) % 256) = Bs.pack (xs.take i ++ [xs[i]]) := by
      intro e
      rw [hacc, e]; split
      · rename_i h8
        rw [Bs.pack_snoc0 (by omega), List.length_append, List.length_singleton, Nat.add_sub_cancel, List.set_append_right _ _ (by omega), h8]
        simp [List.getD_eq_getElem?_getD]
      · rename_i h8
        have := pack_snoc_one hbt (by omega)
        rw [hti] at this
        exact this.symm
    have h2 : Ev (fun k => gaiterref01_Bytes.j1 k xs acc (i : Int)) (Bs.pack xs) := by
      rcases hc with hc | hc
      · refine Ev.step (fun k => ?_) this
        simp only [gaiterref01_Bytes.j1]
        rw [if_pos (by omega), if_pos (by omega), rd_at xs i hlt, hc, if_neg (by decide), w64 _ (by omega), h0 hc, hc]
        rfl
      · refine Ev.step (fun k => ?_) (Bytes_l1 xs acc i _ (by omega) (by omega) (by omega) (by rw [h1 hc]; exact this) (i % 8) 0 (by omega))
        simp only [gaiterref01_Bytes.j1]
        rw [if_pos (by omega), if_pos (by omega), rd_at xs i hlt, hc, if_pos rfl]
        rfl
    refine Ev.step (fun k => ?_) h2
    simp only [gaiterref01_Bytes.l0]
    rw [if_pos (by omega), tmod_nat _ (by omega), hacc]
    by_cases h8 : i % 8 = 0
    · rw [if_pos (by omega), if_pos (by omega), if_pos h8]
    · rw [if_neg (by omega), if_neg h8]
theorem Bytes_is (xs : List Int) (hx : Bs.Bits xs) (hl : xs.length < 140737488355328) : Ev (fun k => gaiterref01_Bytes.f k xs) (Bs.pack xs) := by
  have := Bytes_l0 xs hx hl xs.length 0 (by omega)
  rw [List.take_zero, Bs.pack_nil] at this
  exact this
theorem Is_is (l : List Int) (hl : Bs.Bits l) (hlen : l.length < 140737488355328) : Ev (fun k => gaiterlaw00_Is.f k (Bs.pack l) (l.length : Int) l) 1 := by
  unfold gaiterlaw00_Is.f
  refine Ev.congr (f := fun k => (gaiterref01_Bytes.f k l).bind fun t108 => (if (strOfNums (Bs.pack l)).toList = (strOfNums t108).toList then (some 1) else (some 0))) (fun k => by rw [if_pos rfl]) ?_
  exact Ev.bind (Bytes_is l hl hlen) (Ev.congr (fun k => by rw [if_pos rfl]) (Ev.now _))
end Go.Proofs.YtiahbcaoikoogaaDoor.PBits
namespace Go.Proofs.YtiahbcaoikoogaaDoor.PBits
open Go Go.RowKit Go.Proofs.YtiahbcaoikoogaaDoor Go.Proofs.YtiahbcaoikoogaaDoor.All Go.Proofs.YtiahbcaoikoogaaDoorW.PrintWords Go.Proofs.YtiahbcaoikoogaaDoorW.PrintLast
def par (xs : List Int) : List Int := xs.map (· % 2)
theorem par_bits (xs : List Int) : Bs.Bits (par xs) := by
  intro x hx; obtain ⟨y, _, rfl⟩ := List.mem_map.1 hx; omega
theorem par_length (xs : List Int) : (par xs).length = xs.length := List.length_map ..
theorem Bits_l0 (xs : List Int) (hx : Bs.Bytes xs) (hl : xs.length < 140737488355328) : ∀ (d i : Nat), i + d = xs.length →
    Ev (fun k => gaiterlaw00_Bits.l0 k xs (par (xs.take i)) (i : Int)) (Bs.pack (par xs), (xs.length : Int)) := by
  intro d
  induction d with
  | zero =>
    intro i hi
    refine Ev.step (f := fun k => (gaiterref01_Bytes.f k (par xs)).bind fun t => some (t, (xs.length : Int))) (fun k => ?_) (Ev.bind (Bytes_is (par xs) (par_bits xs) (by rw [par_length]; exact hl)) (Ev.now _))
    simp only [gaiterlaw00_Bits.l0]
    rw [if_neg (by omega), List.take_of_length_le (by omega)]
  | succ d ih =>
    intro i hi
    have hlt : i < xs.length := by omega
    have hc := hx xs[i] (List.getElem_mem hlt)
    have := ih (i + 1) (by omega)
    have htk : xs.take (i + 1) = xs.take i ++ [xs[i]] := by rw [List.take_add_one, List.getElem?_eq_getElem hlt]; rfl
    rw [htk] at this
    refine Ev.step (fun k => ?_) this
    simp only [gaiterlaw00_Bits.l0]
    rw [if_pos (by omega), if_pos (by omega), if_pos (by rw [par_length, List.length_take]; omega), rd_at xs i hlt, tmod_nat _ hc.1, w64 _ (by omega)]
    congr 1
    simp only [par, List.map_append, List.map_cons, List.map_nil]
theorem Bits_is (xs : List Int) (hx : Bs.Bytes xs) (hl : xs.length < 140737488355328) : Ev (fun k => gaiterlaw00_Bits.f k xs) (Bs.pack (par xs), (xs.length : Int)) :=
  Bits_l0 xs hx hl xs.length 0 (by omega)
theorem join_byte {l : List Int} (hb : Bs.Bits l) (h : l.length % 8 ≠ 0) (c : Int) (hc : 0 ≤ c ∧ c < 256) :
    (Bs.pack l).set (l.length / 8) (Go.bits .or .u8 (rd (Bs.pack l) ((l.length / 8 : Nat) : Int)) (shr .u8 c ((l.length % 8 : Nat) : Int))) ++ [shl .u8 c ((8 - l.length % 8 : Nat) : Int)] = Bs.pack (l ++ Bs.low c 8) := by
  have hp := Bs.pack_length l
  have hlt : l.length / 8 < (Bs.pack l).length := by omega
  have hby := Bs.pack_bytes hb _ (List.getElem_mem hlt)
  obtain ⟨t, ht⟩ := Bs.pack_last h
  have hg : (Bs.pack l).getD (l.length / 8) 0 = (Bs.pack l)[l.length / 8] := by simp [List.getD_eq_getElem?_getD, hlt]
  have hrd : rd (Bs.pack l) ((l.length / 8 : Nat) : Int) = t * 2 ^ (8 - l.length % 8) := by rw [rd_at _ _ hlt, ← hg, ht]
  rw [← hg, ht] at hby
  rw [Bs.pack_byte h c hc, hrd, ht]
  have hr : l.length % 8 < 8 := Nat.mod_lt _ (by decide)
  generalize l.length % 8 = r at h hby hr ⊢
  rw [shr_u8 _ _ (by omega), shl_u8 _ _ (by omega), or_u8_sum t _ _ (by omega) hby]
  have h3 := Bs.pow_pos r
  refine ⟨Int.ediv_nonneg hc.1 (Int.le_of_lt h3), Int.ediv_lt_of_lt_mul h3 ?_⟩
  rw [← Int.pow_add, show 8 - r + r = 8 from by omega]
  exact hc.2
theorem Join_l0 (l m : List Int) (hl : Bs.Bits l) (hm : Bs.Bits m) (h8 : l.length % 8 ≠ 0) (hlen : l.length + m.length + 16 < 140737488355328) : ∀ (d i : Nat), i + d = (Bs.pack m).length →
    Ev (fun k => bits_Join.l0 k ((l.length % 8 : Nat) : Int) (Bs.pack m) ((Bs.pack m).length : Int) (i : Int) (Bs.pack (l ++ Bs.flat ((Bs.pack m).take i))) (l.length : Int) (Bs.pack m) (m.length : Int)) (Bs.pack (l ++ m), ((l.length + m.length : Nat) : Int)) := by
  have hpm := Bs.pack_length m
  have hBm := Bs.pack_bytes hm
  intro d
  induction d with
  | zero =>
    intro i hi
    refine Ev.step (fun k => ?_) (Ev.now _)
    simp only [bits_Join.l0]
    have hz := Bs.pack_zeros (hl.append hm) (8 * ((m.length + 7) / 8) - m.length)
    rw [List.append_assoc, ← Bs.flat_pack hm] at hz
    have hpl := Bs.pack_length (l ++ Bs.flat (Bs.pack m))
    rw [List.length_append, Bs.flat_length] at hpl
    rw [List.length_append] at hz
    have hno : ¬ ((i : Int) < ((Bs.pack m).length : Int)) := by omega
    have hle : (((l.length + m.length + 7) / 8 : Nat) : Int) ≤ ((Bs.pack (l ++ Bs.flat (Bs.pack m))).length : Int) := by omega
    have htot : l.length + m.length < 140737488355328 := by omega
    have hfull : (Bs.pack m).length ≤ i := by omega
    have hw1 := wr_add l.length m.length htot
    have hw2 := wr_bytes (l.length + m.length) htot
    rw [if_neg hno, List.take_of_length_le hfull, hw1, hw2, if_pos (Int.natCast_nonneg _), if_pos hle, Int.toNat_natCast, hz]
  | succ d ih =>
    intro i hi
    have hlt : i < (Bs.pack m).length := by omega
    have hti : ((Bs.pack m).take i).length = i := by rw [List.length_take]; omega
    have hcl : (l ++ Bs.flat ((Bs.pack m).take i)).length = l.length + 8 * i := by rw [List.length_append, Bs.flat_length, hti]
    have hpl := Bs.pack_length (l ++ Bs.flat ((Bs.pack m).take i))
    have hcb : Bs.Bits (l ++ Bs.flat ((Bs.pack m).take i)) := hl.append (Bs.flat_bits _)
    have hin : (i : Int) < ((Bs.pack m).length : Int) := by omega
    have hr8 : l.length % 8 = (l ++ Bs.flat ((Bs.pack m).take i)).length % 8 := by omega
    have hpi : (((l ++ Bs.flat ((Bs.pack m).take i)).length / 8 : Nat) : Int) < ((Bs.pack (l ++ Bs.flat ((Bs.pack m).take i))).length : Int) := by omega
    have hps : (Bs.pack (l ++ Bs.flat ((Bs.pack m).take i))).length < 140737488355328 := by omega
    have hp0 : 0 < (Bs.pack (l ++ Bs.flat ((Bs.pack m).take i))).length := by omega
    have hpe : (Bs.pack (l ++ Bs.flat ((Bs.pack m).take i))).length - 1 = (l ++ Bs.flat ((Bs.pack m).take i)).length / 8 := by omega
    have hi47 : i < 140737488355328 := by omega
    have hcr : (l ++ Bs.flat ((Bs.pack m).take i)).length % 8 ≠ 0 := by omega
    have hid : i + 1 + d = (Bs.pack m).length := by omega
    have hw1 := wr_succ i hi47
    have hw2 := wr_eight (l.length % 8) (Nat.le_of_lt (Nat.mod_lt _ (by decide)))
    have hw3 := wr_pred' _ hp0 hps
    rw [hpe] at hw3
    have hc := hBm _ (List.getElem_mem hlt)
    have := ih (i + 1) hid
    rw [List.take_add_one, List.getElem?_eq_getElem hlt, Option.toList_some, Bs.flat_append, show Bs.flat [(Bs.pack m)[i]] = Bs.low (Bs.pack m)[i] 8 from by simp [Bs.flat], ← List.append_assoc] at this
    rw [← join_byte hcb hcr _ hc] at this
    refine Ev.step (fun k => ?_) this
    simp only [bits_Join.l0]
    rw [if_pos hin, if_pos (Int.natCast_nonneg _), if_pos hin, hw3, if_pos (Int.natCast_nonneg _), if_pos hpi, if_pos (Int.natCast_nonneg _)]
    simp only [Option.bind_some]
    rw [hw2, if_pos (Int.natCast_nonneg _), List.length_set, if_pos hps, rd_at _ _ hlt, hw1, Int.toNat_natCast, hr8]
theorem Join_is (l m : List Int) (hl : Bs.Bits l) (hm : Bs.Bits m) (hlen : l.length + m.length + 16 < 140737488355328) :
    Ev (fun k => bits_Join.f k (Bs.pack l) (l.length : Int) (Bs.pack m) (m.length : Int)) (Bs.pack (l ++ m), ((l.length + m.length : Nat) : Int)) := by
  have hpl := Bs.pack_length l
  have hpm := Bs.pack_length m
  have hsm : (Bs.pack l).length + (Bs.pack m).length < 140737488355328 := by omega
  have hsl : (Bs.pack l).length < 140737488355328 := by omega
  have htot : l.length + m.length < 140737488355328 := by omega
  have hz1 : l.length % 8 = 0 → ((l.length % 8 : Nat) : Int) = 0 := by omega
  have hz2 : l.length % 8 ≠ 0 → ¬ ((l.length % 8 : Nat) : Int) = 0 := by omega
  have ht1 := tmod8 l.length
  have hw1 := wr_add l.length m.length htot
  unfold bits_Join.f slices_Clone_byte_byte.f slices_Concat_byte_byte.f
  rw [ht1]
  by_cases h8 : l.length % 8 = 0
  · refine Ev.congr (fun k => ?_) (Ev.now _)
    have hs : sumTo [Bs.pack l, Bs.pack m] [Bs.pack l, Bs.pack m].length = (Bs.pack l).length + (Bs.pack m).length := by simp [sumTo]
    rw [if_pos (hz1 h8), hs, if_pos hsm]
    simp only [Option.bind_some, List.flatten_cons, List.flatten_nil, List.append_nil]
    rw [hw1, Bs.pack_mod8 h8]
  · refine Ev.congr (fun k => ?_) (Join_l0 l m hl hm h8 hlen (Bs.pack m).length 0 (Nat.zero_add _))
    rw [if_neg (hz2 h8), if_pos hsl]
    simp only [Option.bind_some, List.take_zero, Bs.flat_nil, List.append_nil]
    rfl
end Go.Proofs.YtiahbcaoikoogaaDoor.PBits
namespace Go.Proofs.YtiahbcaoikoogaaDoor.PXor
open Go Go.RowKit Go.Proofs.YtiahbcaoikoogaaDoor Go.Proofs.YtiahbcaoikoogaaDoor.All Go.Proofs.YtiahbcaoikoogaaDoorW.PrintWords Go.Proofs.YtiahbcaoikoogaaDoorW.PrintLast
def LL (d : Int) : Nat := 64 - Lib.bitLen d.toNat
def SS (d : Int) : Nat := Lib.bitLen d.toNat - Lib.ctz 64 d.toNat
structure Win (d : Int) : Prop where
  lt : LL d < 64
  pos : 1 ≤ SS d
  le : LL d + SS d ≤ 64
  hi : d < 2 ^ (64 - LL d)
  top : d / 2 ^ (63 - LL d) = 1
  mul : d = (d / 2 ^ (64 - LL d - SS d)) * 2 ^ (64 - LL d - SS d)
  odd : d / 2 ^ (64 - LL d - SS d) % 2 = 1
theorem win (d : Int) (h0 : 0 < d) (h1 : d < 18446744073709551616) : Win d := by
  obtain ⟨x, rfl⟩ := Int.eq_ofNat_of_zero_le (Int.le_of_lt h0)
  have hx0 : x ≠ 0 := by omega
  have hx : x < 2 ^ 64 := by omega
  obtain ⟨b1, b2, b3⟩ := Lib.bitLenAux_bounds 64 x hx hx0
  have b4 := Lib.bitLen_le x 64 (by omega) hx
  obtain ⟨m, hm, hk⟩ := Lib.ctzFrom_spec 64 x (by omega) hx
  have e : Lib.ctz 64 x = Lib.ctzFrom 64 x := by simp [Lib.ctz, hx0]
  have en : Lib.bitLen x = Lib.bitLenAux 64 x := rfl
  have hlt : Lib.ctzFrom 64 x < Lib.bitLenAux 64 x := by
    apply Nat.lt_of_not_le
    intro hle
    have h2 : 2 ^ Lib.bitLenAux 64 x ≤ 2 ^ Lib.ctzFrom 64 x := Nat.pow_le_pow_right (by decide) hle
    have h3 : 2 ^ Lib.ctzFrom 64 x ≤ x := by
      conv => rhs; rw [hm]
      exact Nat.le_mul_of_pos_right _ (by omega)
    omega
  have eL : LL (x : Int) = 64 - Lib.bitLenAux 64 x := by unfold LL; rw [Int.toNat_natCast, en]
  have eS : SS (x : Int) = Lib.bitLenAux 64 x - Lib.ctzFrom 64 x := by unfold SS; rw [Int.toNat_natCast, en, e]
  rw [en] at b4
  generalize hn : Lib.bitLenAux 64 x = n at *
  generalize ht : Lib.ctzFrom 64 x = t at *
  have q1 : 64 - LL (x : Int) = n := by omega
  have q2 : 63 - LL (x : Int) = n - 1 := by omega
  have q3 : 64 - LL (x : Int) - SS (x : Int) = t := by omega
  have hp : 0 < 2 ^ t := Nat.two_pow_pos t
  have hd : x / 2 ^ t = 2 * m + 1 := by rw [hm, Nat.mul_div_cancel_left _ hp]
  have hcast : ∀ j : Nat, ((x : Int) / 2 ^ j) = ((x / 2 ^ j : Nat) : Int) := fun j => by simp
  refine ⟨by omega, by omega, by omega, ?_, ?_, ?_, ?_⟩
  · rw [q1]; exact_mod_cast b3
  · rw [q2, hcast]
    have : x / 2 ^ (n - 1) = 1 := by
      have h5 : 2 ^ n = 2 * 2 ^ (n - 1) := by
        conv => lhs; rw [show n = (n - 1) + 1 from by omega]
        rw [Nat.pow_succ]; omega
      exact Nat.div_eq_of_lt_le (by omega) (by omega)
    rw [this]; rfl
  · rw [q3, hcast, hd]
    have : x = (2 * m + 1) * 2 ^ t := by rw [Nat.mul_comm]; exact hm
    exact_mod_cast this
  · rw [q3, hcast, hd]; omega
def cb (l n : Nat) (d : Int) : List Int :=
  if d = 0 then [0]
  else if 0 < n ∧ l ≤ LL d ∧ LL d + SS d ≤ l + n then [1, 0] ++ Bs.low (d / 2 ^ (64 - l - n)) n
  else [1, 1] ++ Bs.low (LL d) 6 ++ Bs.low ((SS d : Int) - 1) 6 ++ Bs.low (d / 2 ^ (64 - LL d - SS d)) (SS d)
def cl (l n : Nat) (d : Int) : Nat := if d = 0 then l else if 0 < n ∧ l ≤ LL d ∧ LL d + SS d ≤ l + n then l else LL d
def cn (l n : Nat) (d : Int) : Nat := if d = 0 then n else if 0 < n ∧ l ≤ LL d ∧ LL d + SS d ≤ l + n then n else SS d
theorem cb_bits (l n : Nat) (d : Int) : Bs.Bits (cb l n d) := by
  have h : Bs.Bits [(1 : Int), 0] := .cons (.inr rfl) (.cons (.inl rfl) .nil)
  have h' : Bs.Bits [(1 : Int), 1] := .cons (.inr rfl) (.cons (.inr rfl) .nil)
  unfold cb
  split
  · exact .cons (.inl rfl) .nil
  · split
    · exact h.append (Bs.low_bits _ _)
    · exact ((h'.append (Bs.low_bits _ _)).append (Bs.low_bits _ _)).append (Bs.low_bits _ _)
theorem cb_length (l n : Nat) (d : Int) : (cb l n d).length = if d = 0 then 1 else if 0 < n ∧ l ≤ LL d ∧ LL d + SS d ≤ l + n then 2 + n else 14 + SS d := by
  unfold cb
  split
  · rfl
  · split
    · simp only [List.length_append, List.length_cons, List.length_nil, Bs.low_length]
    · simp only [List.length_append, List.length_cons, List.length_nil, Bs.low_length]
theorem cb_ok (l n : Nat) (d : Int) (h : l + n ≤ 64) (h0 : 0 ≤ d) (h1 : d < 18446744073709551616) : cl l n d + cn l n d ≤ 64 := by
  unfold cl cn
  by_cases hd : d = 0
  · rw [if_pos hd, if_pos hd]; exact h
  · rw [if_neg hd, if_neg hd]
    split
    · exact h
    · exact (win d (by omega) h1).le
theorem SS_le (d : Int) (h0 : 0 < d) (h1 : d < 18446744073709551616) : SS d ≤ 64 := by have := (win d h0 h1).le; omega
theorem cb_short (l n : Nat) (d : Int) (h : l + n ≤ 64) (h0 : 0 ≤ d) (h1 : d < 18446744073709551616) : 1 ≤ (cb l n d).length ∧ (cb l n d).length ≤ 78 := by
  rw [cb_length]
  by_cases hd : d = 0
  · rw [if_pos hd]; omega
  · rw [if_neg hd]
    have := SS_le d (by omega) h1
    split <;> omega
theorem xor_range (a b : Int) (ha : 0 ≤ a ∧ a < 18446744073709551616) (hb : 0 ≤ b ∧ b < 18446744073709551616) : 0 ≤ Go.bits .xor .u64 a b ∧ Go.bits .xor .u64 a b < 18446744073709551616 := by
  rw [Ib.xor_u64 a b ha hb]
  have := Nat.xor_lt_two_pow (x := a.toNat) (y := b.toNat) (n := 64) (by omega) (by omega)
  omega
theorem xor_back (p x : Int) (hp : 0 ≤ p ∧ p < 18446744073709551616) (hx : 0 ≤ x ∧ x < 18446744073709551616) : Go.bits .xor .u64 (Go.bits .xor .u64 p x) p = x := by
  have hr := xor_range p x hp hx
  rw [Ib.xor_u64 _ p hr hp, Ib.xor_u64 p x hp hx, Int.toNat_natCast, Nat.xor_comm p.toNat, Nat.xor_assoc, Nat.xor_self, Nat.xor_zero]
  omega
theorem xor_comm (a b : Int) (ha : 0 ≤ a ∧ a < 18446744073709551616) (hb : 0 ≤ b ∧ b < 18446744073709551616) : Go.bits .xor .u64 a b = Go.bits .xor .u64 b a := by
  rw [Ib.xor_u64 a b ha hb, Ib.xor_u64 b a hb ha, Nat.xor_comm]
theorem window_is (d : Int) (h0 : 0 < d) (h1 : d < 18446744073709551616) : xor_window.f d = some ((LL d : Int), (SS d : Int)) := by
  have hw := win d h0 h1
  have b4 : Lib.bitLen d.toNat ≤ 64 := Lib.bitLen_le d.toNat 64 (by omega) (by omega)
  have b5 := hw.lt
  have b6 := hw.pos
  unfold xor_window.f bits_LeadingZeros64.f bits_TrailingZeros64.f
  rw [if_pos (by omega)]
  simp only [Option.bind_some]
  rw [if_pos (by omega)]
  simp only [Option.bind_some]
  unfold LL SS at *
  have e1 : wrap64 (64 - (64 - (Lib.bitLen d.toNat : Int))) = (Lib.bitLen d.toNat : Int) := by rw [PBits.w64 _ (by omega)]; omega
  rw [e1, PBits.w64 _ (by omega)]
  congr 2
  · omega
  · omega
theorem shr_is (x : Int) (s : Nat) (h : s ≤ 64) : shr .u64 x (s : Int) = x / 2 ^ s := by
  unfold shr
  simp only [Int.toNat_natCast]
  rw [show min s IntKind.u64.bits = s from Nat.min_eq_left h]
theorem nil_pack : Bs.pack [] = [] := Bs.pack_nil
theorem putk (l : List Int) (hl : Bs.Bits l) (hlen : l.length ≤ 1000) (v : Int) (hv : 0 ≤ v ∧ v < 18446744073709551616) (m : Nat) (hm : m ≤ 64) {n : Int} (hn : n = (m : Int)) :
    Ev (fun k => bits_Put.f k (Bs.pack l) (l.length : Int) v n) (Bs.pack (l ++ Bs.low v m), ((l ++ Bs.low v m).length : Int)) := by
  have h := PBits.Put_is l hl (by omega) v hv n
  rw [if_neg (by omega)] at h
  subst hn
  rw [Int.toNat_natCast] at h
  rw [List.length_append, Bs.low_length]
  exact h
theorem putk0 (v : Int) (hv : 0 ≤ v ∧ v < 18446744073709551616) (m : Nat) (hm : m ≤ 64) {n : Int} (hn : n = (m : Int)) :
    Ev (fun k => bits_Put.f k [] 0 v n) (Bs.pack (Bs.low v m), ((Bs.low v m).length : Int)) := by
  have := putk [] .nil (by simp) v hv m hm hn
  simp only [List.nil_append, Bs.pack_nil] at this
  exact this
theorem div_range (d : Int) (h0 : 0 ≤ d) (h1 : d < 18446744073709551616) (s : Nat) : 0 ≤ d / 2 ^ s ∧ d / 2 ^ s < 18446744073709551616 := by
  have hp : (0 : Int) < 2 ^ s := Bs.pow_pos s
  refine ⟨Int.ediv_nonneg h0 (Int.le_of_lt hp), Int.lt_of_le_of_lt (Int.ediv_le_self _ h0) h1⟩
theorem Code_is (p v : Int) (l n : Nat) (hp : 0 ≤ p ∧ p < 18446744073709551616) (hv : 0 ≤ v ∧ v < 18446744073709551616) (hln : l + n ≤ 64) {d : Int} (hd : Go.bits .xor .u64 v p = d) :
    Ev (fun k => xor_Code.f k p (l : Int) (n : Int) v) (Bs.pack (cb l n d), ((cb l n d).length : Int), v, (cl l n d : Int), (cn l n d : Int)) := by
  have hr := xor_range v p hv hp
  rw [hd] at hr
  by_cases h0 : d = 0
  · subst h0
    have := putk0 0 (by omega) 1 (by omega) (n := 1) rfl
    refine Ev.congr (fun k => by unfold xor_Code.f; rw [hd, if_pos rfl]) (Ev.bind this ?_)
    unfold cb cl cn
    simp only [if_true]
    exact Ev.now _
  have hw := win d (by omega) hr.2
  have hs := SS_le d (by omega) hr.2
  have g1 := hw.lt
  have g2 := hw.pos
  have g3 := hw.le
  have ew := window_is d (by omega) hr.2
  have main : ∀ b : Bool, b = decide (0 < n ∧ l ≤ LL d ∧ LL d + SS d ≤ l + n) → Ev (fun k => xor_Code.j0 k d (LL d : Int) (SS d : Int) b v (l : Int) (n : Int)) (Bs.pack (cb l n d), ((cb l n d).length : Int), v, (cl l n d : Int), (cn l n d : Int)) := by
    intro b hb
    by_cases hc : 0 < n ∧ l ≤ LL d ∧ LL d + SS d ≤ l + n
    · have hb' : b = true := by rw [hb]; exact decide_eq_true hc
      subst hb'
      have e64 : wrap64 (wrap64 (64 - (l : Int)) - (n : Int)) = ((64 - l - n : Nat) : Int) := by rw [PBits.w64 (64 - (l : Int)) (by omega), PBits.w64 _ (by omega)]; omega
      have hput := putk0 2 (by omega) 2 (by omega) (n := 2) rfl
      have l2 : Bs.low 2 2 = [1, 0] := by decide
      rw [l2] at hput
      have hput2 := putk [1, 0] (.cons (.inr rfl) (.cons (.inl rfl) .nil)) (by simp) (d / 2 ^ (64 - l - n)) (div_range d hr.1 hr.2 _) n (by omega) (n := (n : Int)) rfl
      refine Ev.step (fun k => by rw [xor_Code.j0, if_pos rfl, e64]) (Ev.bind hput ?_)
      refine Ev.congr (fun k => by rw [if_pos (Int.natCast_nonneg _), shr_is _ _ (by omega)]) (Ev.bind hput2 ?_)
      unfold cb cl cn
      rw [if_neg h0, if_neg h0, if_neg h0, if_pos hc, if_pos hc, if_pos hc]
      exact Ev.now _
    · have hb' : b = false := by rw [hb]; exact decide_eq_false hc
      subst hb'
      have e64 : wrap64 (wrap64 (64 - (LL d : Int)) - (SS d : Int)) = ((64 - LL d - SS d : Nat) : Int) := by rw [PBits.w64 (64 - (LL d : Int)) (by omega), PBits.w64 _ (by omega)]; omega
      have u1 : IntKind.u64.wrap ((LL d : Int)) = (LL d : Int) := by rw [Ib.wrap_u64]; omega
      have u2 : IntKind.u64.wrap (wrap64 ((SS d : Int) - 1)) = (SS d : Int) - 1 := by rw [PBits.w64 _ (by omega), Ib.wrap_u64]; omega
      have hput := putk0 3 (by omega) 2 (by omega) (n := 2) rfl
      have l2 : Bs.low 3 2 = [1, 1] := by decide
      rw [l2] at hput
      have b1 : Bs.Bits [(1 : Int), 1] := .cons (.inr rfl) (.cons (.inr rfl) .nil)
      have hput2 := putk [1, 1] b1 (by simp) (LL d : Int) (by omega) 6 (by omega) (n := 6) rfl
      have b2 := b1.append (Bs.low_bits 6 (LL d : Int))
      have hput3 := putk _ b2 (by simp [Bs.low_length]) ((SS d : Int) - 1) (by omega) 6 (by omega) (n := 6) rfl
      have b3 := b2.append (Bs.low_bits 6 ((SS d : Int) - 1))
      have hput4 := putk _ b3 (by simp [Bs.low_length]) (d / 2 ^ (64 - LL d - SS d)) (div_range d hr.1 hr.2 _) (SS d) (by omega) (n := (SS d : Int)) rfl
      refine Ev.step (fun k => by rw [xor_Code.j0, if_neg (by decide), e64, u1, u2]) (Ev.bind hput ?_)
      refine Ev.bind hput2 ?_
      refine Ev.bind hput3 ?_
      refine Ev.congr (fun k => by rw [if_pos (Int.natCast_nonneg _), shr_is _ _ (by omega)]) (Ev.bind hput4 ?_)
      unfold cb cl cn
      rw [if_neg h0, if_neg h0, if_neg h0, if_neg hc, if_neg hc, if_neg hc]
      exact Ev.now _
  have w1 : wrap64 ((LL d : Int) + (SS d : Int)) = ((LL d + SS d : Nat) : Int) := by rw [PBits.w64 _ (by omega)]; omega
  have w2 : wrap64 ((l : Int) + (n : Int)) = ((l + n : Nat) : Int) := by rw [PBits.w64 _ (by omega)]; omega
  by_cases c1 : 0 < n
  · by_cases c2 : l ≤ LL d
    · refine Ev.congr (fun k => ?_) (main (decide (wrap64 ((LL d : Int) + (SS d : Int)) ≤ wrap64 ((l : Int) + (n : Int)))) ?_)
      · unfold xor_Code.f
        rw [hd, if_neg h0, ew]
        simp only [Option.bind_some]
        rw [if_pos (by omega), if_pos (by omega)]
      · rw [w1, w2]
        congr 1
        exact propext ⟨fun h => ⟨c1, c2, by omega⟩, fun h => by omega⟩
    · refine Ev.congr (fun k => ?_) (main false ?_)
      · unfold xor_Code.f
        rw [hd, if_neg h0, ew]
        simp only [Option.bind_some]
        rw [if_pos (by omega), if_neg (by omega)]
      · exact (decide_eq_false (by omega)).symm
  · refine Ev.congr (fun k => ?_) (main false ?_)
    · unfold xor_Code.f
      rw [hd, if_neg h0, ew]
      simp only [Option.bind_some]
      rw [if_neg (by omega)]
    · exact (decide_eq_false (by omega)).symm
end Go.Proofs.YtiahbcaoikoogaaDoor.PXor
namespace Go.Proofs.YtiahbcaoikoogaaDoor.PXor
open Go Go.RowKit Go.Proofs.YtiahbcaoikoogaaDoor Go.Proofs.YtiahbcaoikoogaaDoor.All Go.Proofs.YtiahbcaoikoogaaDoorW.PrintWords Go.Proofs.YtiahbcaoikoogaaDoorW.PrintLast
def xv (R : List Int) (h lead size : Nat) : Int := Bs.number ((R.drop h).take size) * 2 ^ (64 - lead - size)
abbrev G := Int × Int × Int × Int × Int × Int
def bd (p : Int) (l n : Nat) (R : List Int) (h lead size : Nat) : G :=
  if size = 0 ∨ lead + size > 64 then (0, 0, 0, 0, 0, 3)
  else if R.length < h + size then (0, 0, 0, 0, 0, 2)
  else if cb l n (xv R h lead size) = R.take (h + size) then
    (Go.bits .xor .u64 p (xv R h lead size), Go.bits .xor .u64 p (xv R h lead size), (cl l n (xv R h lead size) : Int), (cn l n (xv R h lead size) : Int), ((h + size : Nat) : Int), 0)
  else (0, 0, 0, 0, 0, 3)
def ld (R : List Int) : Nat := (Bs.number ((R.drop 2).take 6)).toNat
def sd (R : List Int) : Nat := (Bs.number ((R.drop 8).take 6)).toNat + 1
def xg (p : Int) (l n : Nat) (R : List Int) : G :=
  if R.length = 0 then (0, 0, 0, 0, 0, 2)
  else if rd R 0 = 0 then (p, p, (l : Int), (n : Int), 1, 0)
  else if R.length = 1 then (0, 0, 0, 0, 0, 2)
  else if rd R 1 = 1 then (if R.length < 14 then (0, 0, 0, 0, 0, 2) else bd p l n R 14 (ld R) (sd R))
  else bd p l n R 2 l n
def gi (g : G) : Int × Int × Int × Int × Int × Option Int := (g.1, g.2.1, g.2.2.1, g.2.2.2.1, g.2.2.2.2.1, if g.2.2.2.2.2 = 0 then none else some g.2.2.2.2.2)
theorem bits_take {R : List Int} (hR : Bs.Bits R) (h m : Nat) : Bs.Bits ((R.drop h).take m) := (hR.drop h).take m
theorem cut_len (R : List Int) (h m : Nat) (hh : h + m ≤ R.length) : ((R.drop h).take m).length = m := by rw [List.length_take, List.length_drop]; omega
theorem num_range {R : List Int} (hR : Bs.Bits R) (h m : Nat) (hh : h + m ≤ R.length) : 0 ≤ Bs.number ((R.drop h).take m) ∧ Bs.number ((R.drop h).take m) < 2 ^ m := by
  have := Bs.number_range (bits_take hR h m)
  rw [cut_len R h m hh] at this
  exact this
theorem pow_mul (a b : Nat) : (2 : Int) ^ (a + b) = 2 ^ a * 2 ^ b := Int.pow_add ..
theorem xv_range {R : List Int} (hR : Bs.Bits R) (h lead size : Nat) (hh : h + size ≤ R.length) (hs : lead + size ≤ 64) : 0 ≤ xv R h lead size ∧ xv R h lead size < 18446744073709551616 := by
  have hn := num_range hR h size hh
  unfold xv
  have hp := Bs.pow_pos (64 - lead - size)
  refine ⟨Int.mul_nonneg hn.1 (Int.le_of_lt hp), ?_⟩
  have h1 : Bs.number ((R.drop h).take size) * 2 ^ (64 - lead - size) < 2 ^ size * 2 ^ (64 - lead - size) := Int.mul_lt_mul_of_pos_right hn.2 hp
  rw [← pow_mul] at h1
  have h2 : (2 : Int) ^ (size + (64 - lead - size)) ≤ 2 ^ 64 := PBits.pow_le (by omega)
  have h3 : (2 : Int) ^ 64 = 18446744073709551616 := by decide
  omega
theorem ld_lt {R : List Int} (hR : Bs.Bits R) (h : 14 ≤ R.length) : (ld R : Int) = Bs.number ((R.drop 2).take 6) ∧ ld R < 64 := by
  have := num_range hR 2 6 (by omega)
  unfold ld
  omega
theorem sd_lt {R : List Int} (hR : Bs.Bits R) (h : 14 ≤ R.length) : (sd R : Int) = Bs.number ((R.drop 8).take 6) + 1 ∧ sd R ≤ 64 ∧ 1 ≤ sd R := by
  have := num_range hR 8 6 (by omega)
  unfold sd
  omega
theorem split14 (R : List Int) (size : Nat) (h : 14 + size ≤ R.length) : R.take (14 + size) = R.take 2 ++ (R.drop 2).take 6 ++ (R.drop 8).take 6 ++ (R.drop 14).take size := by
  have e : ∀ a b : Nat, R.take (a + b) = R.take a ++ (R.drop a).take b := fun a b => List.take_add ..
  rw [e 14 size, show (14 : Nat) = 8 + 6 from rfl, e 8 6, show (8 : Nat) = 2 + 6 from rfl, e 2 6]
theorem split2 (R : List Int) (size : Nat) : R.take (2 + size) = R.take 2 ++ (R.drop 2).take size := List.take_add ..
theorem take_two (R : List Int) (h : 2 ≤ R.length) : R.take 2 = [rd R 0, rd R 1] := by
  match R, h with
  | a :: b :: R, _ => rfl
theorem low_of_num {R : List Int} (hR : Bs.Bits R) (h m : Nat) (hh : h + m ≤ R.length) {v : Int} (hv : v = Bs.number ((R.drop h).take m)) : Bs.low v m = (R.drop h).take m := by
  have := Bs.low_number (bits_take hR h m)
  rw [cut_len R h m hh] at this
  rw [hv]
  exact this
theorem xv_body {R : List Int} (hR : Bs.Bits R) (h lead size : Nat) (hh : h + size ≤ R.length) : Bs.low (xv R h lead size / 2 ^ (64 - lead - size)) size = (R.drop h).take size := by
  unfold xv
  rw [Int.mul_ediv_cancel _ (Int.ne_of_gt (Bs.pow_pos _))]
  exact low_of_num hR h size hh rfl
theorem full {R : List Int} (hR : Bs.Bits R) (l n h lead size : Nat) (hh : h + size ≤ R.length) (hs : lead + size ≤ 64) (h0 : 0 < size) (hln : l + n ≤ 64) (hr0 : rd R 0 = 1)
    (hk : (h = 2 ∧ lead = l ∧ size = n ∧ rd R 1 = 0) ∨ (h = 14 ∧ lead = ld R ∧ size = sd R ∧ rd R 1 = 1))
    (hN : (cb l n (xv R h lead size)).length = h + size) (he : R.take (min (h + size) 64) = (cb l n (xv R h lead size)).take (min (h + size) 64)) : cb l n (xv R h lead size) = R.take (h + size) := by
  have hx := xv_range hR h lead size hh hs
  have hbody := xv_body hR h lead size hh
  have h2 : 2 ≤ R.length := by omega
  have t2 : R.take 2 = (cb l n (xv R h lead size)).take 2 := by
    have := congrArg (List.take 2) he
    rw [List.take_take, List.take_take, Nat.min_eq_left (by omega)] at this
    exact this
  rw [take_two R h2, hr0] at t2
  generalize hX : xv R h lead size = x at *
  unfold cb at hN he t2 ⊢
  by_cases c0 : x = 0
  · rw [if_pos c0] at hN
    simp at hN
    omega
  rw [if_neg c0] at hN he t2 ⊢
  have hw := win x (by omega) hx.2
  have g1 := hw.lt
  have g2 := hw.pos
  have g3 := hw.le
  by_cases c1 : 0 < n ∧ l ≤ LL x ∧ LL x + SS x ≤ l + n
  · rw [if_pos c1] at hN he t2 ⊢
    have e1 : rd R 1 = 0 := by simpa using t2
    rcases hk with ⟨rfl, rfl, rfl, _⟩ | ⟨_, _, _, h1⟩
    · rw [hbody, split2, take_two R h2, hr0, e1]
    · omega
  · rw [if_neg c1] at hN he t2 ⊢
    have e1 : rd R 1 = 1 := by simpa using t2
    rcases hk with ⟨_, _, _, h1⟩ | ⟨rfl, rfl, rfl, _⟩
    · omega
    have hl14 : 14 ≤ R.length := by omega
    have t14 : R.take 14 = [1, 1] ++ Bs.low (LL x : Int) 6 ++ Bs.low ((SS x : Int) - 1) 6 := by
      have := congrArg (List.take 14) he
      rw [List.take_take, List.take_take, Nat.min_eq_left (by omega)] at this
      rw [this, List.take_append_of_le_length (by simp [Bs.low_length]), List.take_of_length_le (by simp [Bs.low_length])]
    have hR14 : R.take 14 = R.take 2 ++ (R.drop 2).take 6 ++ (R.drop 8).take 6 := by
      have := split14 R 0 (by omega)
      simpa using this
    rw [hR14, take_two R h2, hr0, e1] at t14
    obtain ⟨p1, q2⟩ := List.append_inj t14 (by simp only [List.length_append, List.length_cons, List.length_nil, cut_len R 2 6 (by omega), Bs.low_length])
    have q1 : (R.drop 2).take 6 = Bs.low (LL x : Int) 6 := List.append_cancel_left p1
    have hl := ld_lt hR hl14
    have hsd := sd_lt hR hl14
    rw [q1, Bs.number_low] at hl
    rw [q2, Bs.number_low] at hsd
    have k6 : (2 : Int) ^ 6 = 64 := by decide
    rw [k6] at hl hsd
    have eL : ld R = LL x := by omega
    have eS : sd R = SS x := by omega
    rw [eL, eS] at hbody
    rw [split14 R (sd R) hh, take_two R h2, hr0, e1, q1, q2, eS, hbody]
theorem take_k (b : List Int) (hb : Bs.Bytes b) (hl : 8 * b.length < 140737488355328) (a n : Int) (ok : Bool) :
    Ev (fun k => xor_reader_take.f k b a ok n) ((PBits.tk (Bs.flat b) a n).1, b, wrap64 (a + n), ok && (PBits.tk (Bs.flat b) a n).2) := by
  refine Ev.bind (PBits.Take_is b hb hl a n) ?_
  cases ok
  · exact Ev.now _
  · exact Ev.now _
theorem tk_yes (L : List Int) (A c n : Nat) (hn : n ≤ 64) (hA : A ≤ L.length) (h : c + n ≤ (L.drop A).length) : PBits.tk L ((A + c : Nat) : Int) (n : Int) = (Bs.number (((L.drop A).drop c).take n), true) := by
  rw [List.length_drop] at h
  rw [PBits.tk_yes (by omega), Int.toNat_natCast, Int.toNat_natCast, List.drop_drop]
theorem tk_no (L : List Int) (A c n : Nat) (hn : n ≤ 64) (hA : A ≤ L.length) (h : (L.drop A).length < c + n) : PBits.tk L ((A + c : Nat) : Int) (n : Int) = (0, false) := by
  rw [List.length_drop] at h
  exact PBits.tk_no (by omega)
theorem wr_at (A c n : Nat) (h : A + c + n < 140737488355328) : wrap64 (((A + c : Nat) : Int) + (n : Int)) = ((A + (c + n) : Nat) : Int) := by rw [PBits.w64 _ (by omega)]; omega
theorem wrk (A : Nat) (hA : A < 70368744177664) (c n : Nat) (h : c + n ≤ 1000) : wrap64 (((A + c : Nat) : Int) + (n : Int)) = ((A + (c + n) : Nat) : Int) := wr_at A c n (by omega)
theorem nz {x : Nat} (h : ¬ x = 0) : ¬ ((x : Int) = 0) := by omega
theorem gtc {x : Nat} (h : x > 64) : ((x : Nat) : Int) > 64 := by omega
theorem gtc' {x : Nat} (h : ¬ x > 64) : ¬ ((x : Nat) : Int) > 64 := by omega
theorem wadd (a c : Nat) (h : a ≤ 64) (h' : c ≤ 64) : wrap64 ((a : Int) + (c : Int)) = ((a + c : Nat) : Int) := by rw [PBits.w64 _ (by omega)]; omega
theorem wsub (a c : Nat) (h : a + c ≤ 64) : wrap64 (wrap64 (64 - (a : Int)) - (c : Int)) = ((64 - a - c : Nat) : Int) := by rw [PBits.w64 (64 - (a : Int)) (by omega), PBits.w64 _ (by omega)]; omega
theorem shl_u64 (x : Int) (s : Nat) (h : s ≤ 64) (h0 : 0 ≤ x * 2 ^ s ∧ x * 2 ^ s < 18446744073709551616) : shl .u64 x (s : Int) = x * 2 ^ s := by
  unfold shl
  simp only [Int.toNat_natCast]
  rw [show min s IntKind.u64.bits = s from Nat.min_eq_left h, Ib.wrap_u64]
  exact Int.emod_eq_of_lt h0.1 h0.2
theorem shl_xv (R : List Int) (h lead size : Nat) (hs : lead + size ≤ 64) (hx : 0 ≤ xv R h lead size ∧ xv R h lead size < 18446744073709551616) : shl .u64 (Bs.number ((R.drop h).take size)) ((64 - lead - size : Nat) : Int) = xv R h lead size := shl_u64 _ _ (Nat.le_trans (Nat.sub_le _ _) (Nat.sub_le _ _)) hx
theorem wsm (x : Nat) (h : x < 64) : wrap64 (x : Int) = (x : Int) := PBits.w64 _ (by omega)
theorem wsn (x : Nat) (h1 : 1 ≤ x) (h : x ≤ 64) : wrap64 (wrap64 ((x : Int) - 1) + 1) = (x : Int) := by rw [PBits.w64 ((x : Int) - 1) (by omega), PBits.w64 _ (by omega)]; omega
theorem number_one (x : Int) : Bs.number [x] = x := by simp [Bs.number]
theorem num1' (R : List Int) (c : Nat) (hc : c < R.length) : Bs.number ((R.drop c).take 1) = rd R (c : Int) := by
  rw [PBits.rd_at _ _ hc, List.drop_eq_getElem_cons hc]
  rw [show (R[c] :: R.drop (c + 1)).take 1 = [R[c]] from rfl]
  exact number_one _
theorem num1 (R : List Int) (hc : 0 < R.length) : Bs.number (R.take 1) = rd R 0 := num1' R 0 hc
theorem bit01 {R : List Int} (hR : Bs.Bits R) (c : Nat) (hc : c < R.length) : rd R (c : Int) = 0 ∨ rd R (c : Int) = 1 := by
  rw [PBits.rd_at _ _ hc]
  exact hR _ (List.getElem_mem hc)
theorem take1 (R : List Int) (h : 0 < R.length) (h0 : rd R 0 = 0) : R.take 1 = [0] := by
  match R, h with
  | a :: R, _ =>
    have : a = 0 := h0
    rw [this]; rfl
section
variable (b : List Int) (hb : Bs.Bytes b) (hl : 8 * b.length < 70368744177664) (p : Int) (hp : 0 ≤ p ∧ p < 18446744073709551616) (l n : Nat) (hln : l + n ≤ 64) (A : Nat) (hA : A ≤ (Bs.flat b).length)
include hb hl hp hln hA
theorem Get_j3 (x : Int) (hx : 0 ≤ x ∧ x < 18446744073709551616) (c : Nat) (h1 : 1 ≤ c) (hc : c ≤ ((Bs.flat b).drop A).length) :
    Ev (fun k => xor_Get.j3 k b (A : Int) x p (l : Int) (n : Int) b ((A + c : Nat) : Int) true)
      (if (cb l n x).length = c ∧ ((Bs.flat b).drop A).take (min c 64) = (cb l n x).take (min c 64) then (Go.bits .xor .u64 p x, Go.bits .xor .u64 p x, (cl l n x : Int), (cn l n x : Int), (c : Int), none) else (0, 0, 0, 0, 0, some 3)) := by
  have hfl := Bs.flat_length b
  have hfb := Bs.flat_bits b
  have hdl := List.length_drop (l := Bs.flat b) (i := A)
  have hxr := xor_range p x hp hx
  have hcode := Code_is p (Go.bits .xor .u64 p x) l n hp hxr hln (xor_back p x hp hx)
  have hN := cb_short l n x hln hx.1 hx.2
  have hcb := cb_bits l n x
  have hpl := Bs.pack_length (cb l n x)
  generalize hK : cb l n x = C at *
  have hm : mn (C.length : Int) 64 = ((min C.length 64 : Nat) : Int) := by unfold mn; split <;> omega
  refine Ev.step (fun k => by rw [xor_Get.j3, if_pos rfl]) (Ev.bind hcode ?_)
  have ht1 := PBits.Take_is b hb (by omega) (A : Int) ((min C.length 64 : Nat) : Int)
  have ht2 := PBits.Take_is (Bs.pack C) (Bs.pack_bytes hcb) (by omega) 0 ((min C.length 64 : Nat) : Int)
  refine Ev.congr (fun k => by rw [hm]) (Ev.bind ht1 (Ev.bind ht2 ?_))
  have hw : wrap64 (((A + c : Nat) : Int) - (A : Int)) = (c : Int) := by rw [PBits.w64 _ (by omega)]; omega
  have hwant : PBits.tk (Bs.flat (Bs.pack C)) 0 ((min C.length 64 : Nat) : Int) = (Bs.number (C.take (min C.length 64)), true) := by
    have hfp := Bs.flat_pack hcb
    have hlen : (Bs.flat (Bs.pack C)).length = 8 * ((C.length + 7) / 8) := by rw [Bs.flat_length, hpl]
    rw [PBits.tk_yes (by omega)]
    simp only [Int.toNat_natCast, Int.toNat_zero, List.drop_zero]
    rw [hfp, List.take_append_of_le_length (by omega)]
  rw [hwant]
  by_cases e : C.length = c
  · subst e
    have hraw := tk_yes (Bs.flat b) A 0 (min C.length 64) (by omega) hA (by omega)
    rw [Nat.add_zero, List.drop_zero] at hraw
    rw [hraw]
    refine Ev.congr (fun k => by rw [hw, if_pos rfl]) ?_
    by_cases e2 : ((Bs.flat b).drop A).take (min C.length 64) = C.take (min C.length 64)
    · have e3 : C.length = C.length ∧ ((Bs.flat b).drop A).take (min C.length 64) = C.take (min C.length 64) := ⟨rfl, e2⟩
      rw [if_pos e3]
      refine Ev.congr (fun k => by rw [if_pos (by rw [e2])]) (Ev.now _)
    · have e3 : ¬ (C.length = C.length ∧ ((Bs.flat b).drop A).take (min C.length 64) = C.take (min C.length 64)) := fun h => e2 h.2
      rw [if_neg e3]
      refine Ev.congr (fun k => ?_) (Ev.now _)
      rw [if_neg]
      · rfl
      · intro h
        refine e2 (Bs.number_inj ((hfb.drop A).take _) (hcb.take _) ?_ h)
        rw [List.length_take, List.length_take]
        omega
  · have e3 : ¬ (C.length = c ∧ ((Bs.flat b).drop A).take (min c 64) = C.take (min c 64)) := fun h => e h.1
    rw [if_neg e3]
    refine Ev.congr (fun k => ?_) (Ev.now _)
    rw [hw, if_neg (show ¬ ((C.length : Int) = (c : Int)) by omega)]
    rfl
theorem Get_fail (k : Nat) (x : Int) (b' : List Int) (a' : Int) : xor_Get.j3 (k + 1) b (A : Int) x p (l : Int) (n : Int) b' a' false = some (gi (0, 0, 0, 0, 0, 2)) := by
  rw [xor_Get.j3, if_neg (by decide)]
  rfl
theorem Get_fail3 (k : Nat) (x y : Int) (b' : List Int) (a' : Int) (q : Bool) (z : Int) : xor_Get.j2 (k + 1) b (A : Int) x y true z (l : Int) (n : Int) b' a' q = some (gi (0, 0, 0, 0, 0, 3)) := by
  rw [xor_Get.j2, if_pos rfl]
  rfl
theorem Get_j1 (hA47 : A < 70368744177664) (hb8 : 8 * b.length < 140737488355328) (hRb : Bs.Bits ((Bs.flat b).drop A)) (h lead size : Nat) (hs : size ≤ 64) (hld : lead ≤ 64) (hh : h ≤ ((Bs.flat b).drop A).length) (h2 : 2 ≤ h) (h14 : h ≤ 14) (hr0 : rd ((Bs.flat b).drop A) 0 = 1)
    (hk : (h = 2 ∧ lead = l ∧ size = n ∧ rd ((Bs.flat b).drop A) 1 = 0) ∨ (h = 14 ∧ lead = ld ((Bs.flat b).drop A) ∧ size = sd ((Bs.flat b).drop A) ∧ rd ((Bs.flat b).drop A) 1 = 1)) (z : Bool) :
    Ev (fun k => xor_Get.j1 k b (A : Int) (lead : Int) (size : Int) z p (l : Int) (n : Int) b ((A + h : Nat) : Int) true) (gi (bd p l n ((Bs.flat b).drop A) h lead size)) := by
  unfold bd
  by_cases c0 : size = 0
  · rw [if_pos (.inl c0)]
    subst c0
    refine Ev.step (fun k => by rw [xor_Get.j1, if_pos (by decide)]) ?_
    exact Ev.step (g := fun k => _) (fun k => Get_fail3 b hb hl p hp l n hln A hA k _ _ _ _ _ _) (Ev.now (gi (0, 0, 0, 0, 0, 3)))
  refine Ev.step (fun k => by rw [xor_Get.j1, if_neg (nz c0), wadd lead size hld hs]) ?_
  by_cases c1 : lead + size > 64
  · rw [if_pos (.inr c1), decide_eq_true (gtc c1)]
    exact Ev.step (g := fun k => _) (fun k => Get_fail3 b hb hl p hp l n hln A hA k _ _ _ _ _ _) (Ev.now (gi (0, 0, 0, 0, 0, 3)))
  have c1' : lead + size ≤ 64 := Nat.le_of_not_lt c1
  rw [if_neg (fun h => h.elim c0 c1), decide_eq_false (gtc' c1)]
  have ht := take_k b hb hb8 ((A + h : Nat) : Int) (size : Int) true
  refine Ev.step (fun k => by rw [xor_Get.j2, if_neg Bool.false_ne_true, wsub lead size c1']) (Ev.bind ht ?_)
  refine Ev.congr (fun k => by rw [if_pos (Int.natCast_nonneg _)]) ?_
  by_cases c2 : ((Bs.flat b).drop A).length < h + size
  · rw [if_pos c2, tk_no (Bs.flat b) A h size hs hA c2]
    exact Ev.step (g := fun k => _) (fun k => Get_fail b hb hl p hp l n hln A hA k _ _ _) (Ev.now _)
  have c2' : h + size ≤ ((Bs.flat b).drop A).length := Nat.le_of_not_lt c2
  rw [if_neg c2, tk_yes (Bs.flat b) A h size hs hA c2', wrk A hA47 h size (Nat.le_trans (Nat.add_le_add h14 hs) (by decide))]
  have hxr := xv_range hRb h lead size c2' c1'
  simp only [Bool.and_true]
  rw [shl_xv _ _ _ _ c1' hxr]
  have h3 := Get_j3 b hb hl p hp l n hln A hA _ hxr (h + size) (Nat.le_trans (Nat.le_trans (by decide) h2) (Nat.le_add_right _ _)) c2'
  by_cases e : cb l n (xv ((Bs.flat b).drop A) h lead size) = ((Bs.flat b).drop A).take (h + size)
  · rw [if_pos e]
    rw [e] at h3
    have e3 : (((Bs.flat b).drop A).take (h + size)).length = h + size ∧ ((Bs.flat b).drop A).take (min (h + size) 64) = (((Bs.flat b).drop A).take (h + size)).take (min (h + size) 64) := by
      refine ⟨by rw [List.length_take]; exact Nat.min_eq_left c2', by rw [List.take_take, Nat.min_eq_left (Nat.min_le_left _ _)]⟩
    rw [if_pos e3] at h3
    exact h3
  · rw [if_neg e]
    rw [if_neg (fun hc => e (full hRb l n h lead size c2' c1' (Nat.pos_of_ne_zero c0) hln hr0 hk hc.1 hc.2))] at h3
    exact h3
theorem Get_11 (hA47 : A < 70368744177664) (hb8 : 8 * b.length < 140737488355328) (hRb : Bs.Bits ((Bs.flat b).drop A)) (z : Bool) (hr0 : rd ((Bs.flat b).drop A) 0 = 1) (hr1 : rd ((Bs.flat b).drop A) 1 = 1) (h2 : 2 ≤ ((Bs.flat b).drop A).length) :
    Ev (fun k => (xor_reader_take.f k b ((A + 2 : Nat) : Int) true 6).bind fun bt171 => (xor_reader_take.f k bt171.2.1 bt171.2.2.1 bt171.2.2.2 6).bind fun bt175 => if bt175.2.2.2 = true then (xor_Get.j1 k b (A : Int) (wrap64 (bt171.1)) (wrap64 ((wrap64 (bt175.1)) + 1)) z p (l : Int) (n : Int) bt175.2.1 bt175.2.2.1 bt175.2.2.2) else ((xor_Get_1.f 2).bind fun bt179 => (some (bt179.1, bt179.2.1, bt179.2.2.1, bt179.2.2.2.1, bt179.2.2.2.2.1, bt179.2.2.2.2.2))))
      (gi (if ((Bs.flat b).drop A).length < 14 then (0, 0, 0, 0, 0, 2) else bd p l n ((Bs.flat b).drop A) 14 (ld ((Bs.flat b).drop A)) (sd ((Bs.flat b).drop A)))) := by
  have t3 := take_k b hb hb8 ((A + 2 : Nat) : Int) 6 true
  rw [show wrap64 (((A + 2 : Nat) : Int) + 6) = ((A + 8 : Nat) : Int) from wrk A hA47 2 6 (by decide)] at t3
  refine Ev.bind t3 ?_
  have t4 := take_k b hb hb8 ((A + 8 : Nat) : Int) 6 (true && (PBits.tk (Bs.flat b) ((A + 2 : Nat) : Int) 6).2)
  rw [show wrap64 (((A + 8 : Nat) : Int) + 6) = ((A + 14 : Nat) : Int) from wrk A hA47 8 6 (by decide)] at t4
  refine Ev.bind t4 ?_
  by_cases c4 : ((Bs.flat b).drop A).length < 14
  · rw [if_pos c4]
    have hno := tk_no (Bs.flat b) A 8 6 (by decide) hA c4
    rw [show PBits.tk (Bs.flat b) ((A + 8 : Nat) : Int) 6 = (0, false) from hno]
    simp only [Bool.and_false]
    exact Ev.congr (fun k => if_neg (by simp)) (Ev.now _)
  rw [if_neg c4]
  have c4' : 14 ≤ ((Bs.flat b).drop A).length := Nat.le_of_not_lt c4
  have hy2 := tk_yes (Bs.flat b) A 2 6 (by decide) hA (Nat.le_trans (by decide) c4')
  have hy3 := tk_yes (Bs.flat b) A 8 6 (by decide) hA c4'
  rw [show PBits.tk (Bs.flat b) ((A + 2 : Nat) : Int) 6 = _ from hy2, show PBits.tk (Bs.flat b) ((A + 8 : Nat) : Int) 6 = _ from hy3]
  have hl1 := ld_lt hRb c4'
  have hs1 := sd_lt hRb c4'
  have h3 := Get_j1 b hb hl p hp l n hln A hA hA47 hb8 hRb 14 (ld ((Bs.flat b).drop A)) (sd ((Bs.flat b).drop A)) hs1.2.1 (Nat.le_of_lt hl1.2) c4' (by decide) (by decide) hr0 (.inr ⟨rfl, rfl, rfl, hr1⟩) z
  rw [← hl1.1]
  have e8 : Bs.number ((((Bs.flat b).drop A).drop 8).take 6) = (sd ((Bs.flat b).drop A) : Int) - 1 := by rw [hs1.1]; exact (Int.add_sub_cancel _ _).symm
  rw [e8]
  refine Ev.congr (fun k => ?_) h3
  simp only [Bool.and_true, if_true]
  rw [wsm _ hl1.2, wsn _ hs1.2.2 hs1.2.1]
theorem Get_in (hA47 : A < 70368744177664) (hb8 : 8 * b.length < 140737488355328) (hRb : Bs.Bits ((Bs.flat b).drop A)) : Ev (fun k => xor_Get.j0 k b (A : Int) false p (l : Int) (n : Int)) (gi (xg p l n ((Bs.flat b).drop A))) := by
  have t1 := take_k b hb hb8 (A : Int) 1 true
  rw [show wrap64 ((A : Int) + 1) = ((A + 1 : Nat) : Int) from wrk A hA47 0 1 (by decide)] at t1
  refine Ev.step (fun k => by rw [xor_Get.j0, if_neg (by decide)]) (Ev.bind t1 ?_)
  unfold xg
  by_cases c0 : ((Bs.flat b).drop A).length = 0
  · rw [if_pos c0]
    have := tk_no (Bs.flat b) A 0 1 (by decide) hA (by rw [c0]; decide)
    rw [show PBits.tk (Bs.flat b) (A : Int) 1 = (0, false) from this]
    refine Ev.congr (fun k => if_neg (by simp)) ?_
    exact Ev.step (g := fun k => _) (fun k => Get_fail b hb hl p hp l n hln A hA k _ _ _) (Ev.now _)
  rw [if_neg c0]
  have c0' : 1 ≤ ((Bs.flat b).drop A).length := Nat.pos_of_ne_zero c0
  have hy := tk_yes (Bs.flat b) A 0 1 (by decide) hA c0'
  rw [List.drop_zero, num1 _ c0'] at hy
  rw [show PBits.tk (Bs.flat b) (A : Int) 1 = (rd ((Bs.flat b).drop A) 0, true) from hy]
  simp only [Bool.and_true]
  by_cases c1 : rd ((Bs.flat b).drop A) 0 = 0
  · rw [if_pos c1]
    refine Ev.congr (fun k => if_neg (by rw [c1]; decide)) ?_
    have h3 := Get_j3 b hb hl p hp l n hln A hA 0 (by decide) 1 (Nat.le_refl _) c0'
    have hcz : cb l n 0 = [0] := by unfold cb; rw [if_pos rfl]
    have ht : ((Bs.flat b).drop A).take 1 = [0] := take1 _ c0' c1
    have e1 : cl l n 0 = l := by unfold cl; rw [if_pos rfl]
    have e2 : cn l n 0 = n := by unfold cn; rw [if_pos rfl]
    rw [hcz, Ib.xor_u64_zero p hp, e1, e2] at h3
    have e3 : ([0] : List Int).length = 1 ∧ ((Bs.flat b).drop A).take (min 1 64) = ([0] : List Int).take (min 1 64) := ⟨rfl, ht⟩
    rw [if_pos e3] at h3
    exact h3
  rw [if_neg c1]
  have r0 : rd ((Bs.flat b).drop A) 0 = 1 := (bit01 hRb 0 c0').resolve_left c1
  have t2 := take_k b hb hb8 ((A + 1 : Nat) : Int) 1 true
  rw [show wrap64 (((A + 1 : Nat) : Int) + 1) = ((A + 2 : Nat) : Int) from wrk A hA47 1 1 (by decide)] at t2
  refine Ev.congr (fun k => if_pos r0) (Ev.bind t2 ?_)
  by_cases c2 : ((Bs.flat b).drop A).length = 1
  · rw [if_pos c2]
    have := tk_no (Bs.flat b) A 1 1 (by decide) hA (by rw [c2]; decide)
    rw [show PBits.tk (Bs.flat b) ((A + 1 : Nat) : Int) 1 = (0, false) from this]
    exact Ev.congr (fun k => if_neg (by simp)) (Ev.now _)
  rw [if_neg c2]
  have c2' : 2 ≤ ((Bs.flat b).drop A).length := Nat.lt_of_le_of_ne c0' (Ne.symm c2)
  have hy1 := tk_yes (Bs.flat b) A 1 1 (by decide) hA c2'
  rw [num1' _ 1 c2'] at hy1
  rw [show PBits.tk (Bs.flat b) ((A + 1 : Nat) : Int) 1 = (rd ((Bs.flat b).drop A) 1, true) from hy1]
  simp only [Bool.and_true, if_true]
  by_cases c3 : rd ((Bs.flat b).drop A) 1 = 1
  · rw [if_pos c3]
    refine Ev.congr (fun k => if_pos c3) ?_
    exact Get_11 b hb hl p hp l n hln A hA hA47 hb8 hRb _ r0 c3 c2'
  · rw [if_neg c3]
    have r1 : rd ((Bs.flat b).drop A) 1 = 0 := (bit01 hRb 1 c2').resolve_right c3
    refine Ev.congr (fun k => if_neg c3) ?_
    exact Get_j1 b hb hl p hp l n hln A hA hA47 hb8 hRb 2 l n (Nat.le_trans (Nat.le_add_left _ _) hln) (Nat.le_trans (Nat.le_add_right _ _) hln) c2' (by decide) (by decide) r0 (.inl ⟨rfl, rfl, rfl, r1⟩) _
end
theorem xg_nil (p : Int) (l n : Nat) : xg p l n [] = (0, 0, 0, 0, 0, 2) := by unfold xg; exact if_pos rfl
theorem Get_is (b : List Int) (hb : Bs.Bytes b) (hl : 8 * b.length < 70368744177664) (p : Int) (hp : 0 ≤ p ∧ p < 18446744073709551616) (l n : Nat) (hln : l + n ≤ 64) (a : Int) :
    Ev (fun k => xor_Get.f k p (l : Int) (n : Int) b a) (gi (xg p l n (PDod.restL (Bs.flat b) a))) := by
  have hfl := Bs.flat_length b
  have w8 : wrap64 (8 * (b.length : Int)) = 8 * (b.length : Int) := PBits.w64 _ (by omega)
  unfold PDod.restL
  by_cases c1 : a < 0
  · rw [if_pos (.inl c1), xg_nil]
    refine Ev.congr (fun k => by unfold xor_Get.f; rw [if_pos c1]) ?_
    exact Ev.step (g := fun k => _) (fun k => by rw [xor_Get.j0, if_pos rfl]; rfl) (Ev.now (gi (0, 0, 0, 0, 0, 2)))
  by_cases c2 : a > ((Bs.flat b).length : Int)
  · rw [if_pos (.inr c2), xg_nil]
    refine Ev.congr (fun k => by unfold xor_Get.f; rw [if_neg c1, w8, decide_eq_true (by omega)]) ?_
    exact Ev.step (g := fun k => _) (fun k => by rw [xor_Get.j0, if_pos rfl]; rfl) (Ev.now (gi (0, 0, 0, 0, 0, 2)))
  rw [if_neg (by omega)]
  have h := Get_in b hb hl p hp l n hln a.toNat (by omega) (by omega) (by omega) ((Bs.flat_bits b).drop a.toNat)
  rw [show ((a.toNat : Nat) : Int) = a from by omega] at h
  refine Ev.congr (fun k => by unfold xor_Get.f; rw [if_neg c1, w8, decide_eq_false (by omega)]) h
end Go.Proofs.YtiahbcaoikoogaaDoor.PXor
namespace Go.Proofs.YtiahbcaoikoogaaDoor.PXor
open Go Go.RowKit Go.Proofs.YtiahbcaoikoogaaDoor Go.Proofs.YtiahbcaoikoogaaDoor.All Go.Proofs.YtiahbcaoikoogaaDoorW.PrintWords Go.Proofs.YtiahbcaoikoogaaDoorW.PrintLast
theorem window_back (d : Int) (h0 : 0 < d) (h1 : d < 18446744073709551616) (l n : Nat) (h : l + n ≤ 64) (hl : l ≤ LL d) (hn : LL d + SS d ≤ l + n) : (d / 2 ^ (64 - l - n) % 2 ^ n) * 2 ^ (64 - l - n) = d := by
  have hw := win d h0 h1
  have g1 := hw.lt
  have g2 := hw.pos
  have g3 := hw.le
  have hhi := hw.hi
  have hmul := hw.mul
  have p1 : (2 : Int) ^ (64 - LL d) ≤ 2 ^ (64 - l) := PBits.pow_le (by omega)
  have p2 : (2 : Int) ^ (64 - l) = 2 ^ n * 2 ^ (64 - l - n) := by rw [← pow_mul]; congr 1; omega
  have p3 : (2 : Int) ^ (64 - LL d - SS d) = 2 ^ (64 - LL d - SS d - (64 - l - n)) * 2 ^ (64 - l - n) := by rw [← pow_mul]; congr 1; omega
  have hp := Bs.pow_pos (64 - l - n)
  have hlt : d / 2 ^ (64 - l - n) < 2 ^ n := Int.ediv_lt_of_lt_mul hp (by omega)
  have hge : 0 ≤ d / 2 ^ (64 - l - n) := Int.ediv_nonneg (Int.le_of_lt h0) (Int.le_of_lt hp)
  rw [Int.emod_eq_of_lt hge hlt]
  refine Int.ediv_mul_cancel ?_
  refine ⟨d / 2 ^ (64 - LL d - SS d) * 2 ^ (64 - LL d - SS d - (64 - l - n)), ?_⟩
  generalize d / 2 ^ (64 - LL d - SS d) = q at hmul
  rw [p3, ← Int.mul_assoc] at hmul
  rw [Int.mul_comm (2 ^ (64 - l - n))]
  exact hmul
theorem xv_low (d : Int) (h0 : 0 < d) (h1 : d < 18446744073709551616) (l n : Nat) (h : l + n ≤ 64) (hl : l ≤ LL d) (hn : LL d + SS d ≤ l + n) (H S : List Int) : xv (H ++ (Bs.low (d / 2 ^ (64 - l - n)) n ++ S)) H.length l n = d := by
  unfold xv
  rw [List.drop_left, List.take_append_of_le_length (by rw [Bs.low_length]; exact Nat.le_refl _), List.take_of_length_le (by rw [Bs.low_length]; exact Nat.le_refl _), Bs.number_low]
  exact window_back d h0 h1 l n h hl hn
theorem xg_own (p v : Int) (hp : 0 ≤ p ∧ p < 18446744073709551616) (hv : 0 ≤ v ∧ v < 18446744073709551616) (l n : Nat) (hln : l + n ≤ 64) {d : Int} (hd : Go.bits .xor .u64 v p = d) (S : List Int) :
    xg p l n (cb l n d ++ S) = (v, v, (cl l n d : Int), (cn l n d : Int), ((cb l n d).length : Int), 0) := by
  have hr := xor_range v p hv hp
  have hback : Go.bits .xor .u64 p d = v := by
    rw [← hd, xor_comm p _ hp hr]
    rw [xor_comm v p hv hp]
    exact xor_back p v hp hv
  rw [hd] at hr
  unfold xg
  by_cases h0 : d = 0
  · subst h0
    have e : cb l n 0 = [0] := by unfold cb; rw [if_pos rfl]
    rw [e]
    have ev : p = v := by rw [← hback, Ib.xor_u64_zero p hp]
    rw [if_neg (by simp), if_pos (show rd ([0] ++ S) 0 = 0 from rfl), ev]
    unfold cl cn
    rw [if_pos rfl, if_pos rfl]
    rfl
  have hw := win d (by omega) hr.2
  have hs := SS_le d (by omega) hr.2
  have g1 := hw.lt
  have g2 := hw.pos
  have g3 := hw.le
  by_cases hc : 0 < n ∧ l ≤ LL d ∧ LL d + SS d ≤ l + n
  · have e : cb l n d = [1, 0] ++ Bs.low (d / 2 ^ (64 - l - n)) n := by unfold cb; rw [if_neg h0, if_pos hc]
    have ecl : cl l n d = l := by unfold cl; rw [if_neg h0, if_pos hc]
    have ecn : cn l n d = n := by unfold cn; rw [if_neg h0, if_pos hc]
    have hx : xv (cb l n d ++ S) 2 l n = d := by
      rw [e, List.append_assoc]
      exact xv_low d (by omega) hr.2 l n hln hc.2.1 hc.2.2 [1, 0] S
    have hlen : (cb l n d).length = 2 + n := by rw [e, List.length_append, Bs.low_length]; rfl
    have r0 : rd (cb l n d ++ S) 0 = 1 := by rw [e]; rfl
    have r1 : rd (cb l n d ++ S) 1 = 0 := by rw [e]; rfl
    have l1 : (cb l n d ++ S).length = 2 + n + S.length := by rw [List.length_append, hlen]
    rw [if_neg (by omega), r0, if_neg (by decide), if_neg (by omega), r1, if_neg (by decide)]
    unfold bd
    rw [if_neg (by omega), if_neg (by omega), hx, if_pos (by rw [← hlen, List.take_left]), hback, hlen]
  · have e : cb l n d = [1, 1] ++ Bs.low (LL d : Int) 6 ++ Bs.low ((SS d : Int) - 1) 6 ++ Bs.low (d / 2 ^ (64 - LL d - SS d)) (SS d) := by unfold cb; rw [if_neg h0, if_neg hc]
    have ecl : cl l n d = LL d := by unfold cl; rw [if_neg h0, if_neg hc]
    have ecn : cn l n d = SS d := by unfold cn; rw [if_neg h0, if_neg hc]
    have hlen : (cb l n d).length = 14 + SS d := by
      rw [e, List.length_append, List.length_append, List.length_append, Bs.low_length, Bs.low_length, Bs.low_length]; rfl
    have r0 : rd (cb l n d ++ S) 0 = 1 := by rw [e]; rfl
    have r1 : rd (cb l n d ++ S) 1 = 1 := by rw [e]; rfl
    have l1 : (cb l n d ++ S).length = 14 + SS d + S.length := by rw [List.length_append, hlen]
    have d2 : ((cb l n d ++ S).drop 2).take 6 = Bs.low (LL d : Int) 6 := by
      rw [e]
      simp only [List.append_assoc]
      show (Bs.low (LL d : Int) 6 ++ (Bs.low ((SS d : Int) - 1) 6 ++ (Bs.low (d / 2 ^ (64 - LL d - SS d)) (SS d) ++ S))).take 6 = _
      rw [List.take_append_of_le_length (by rw [Bs.low_length]; exact Nat.le_refl _), List.take_of_length_le (by rw [Bs.low_length]; exact Nat.le_refl _)]
    have e14 : ([1, 1] ++ Bs.low (LL d : Int) 6).length = 8 := by rw [List.length_append, Bs.low_length]; rfl
    have e14' : ([1, 1] ++ Bs.low (LL d : Int) 6 ++ Bs.low ((SS d : Int) - 1) 6).length = 14 := by rw [List.length_append, Bs.low_length, e14]
    have d8 : ((cb l n d ++ S).drop 8).take 6 = Bs.low ((SS d : Int) - 1) 6 := by
      rw [e, List.append_assoc, List.append_assoc, ← e14, List.drop_left, List.take_append_of_le_length (by rw [Bs.low_length]; exact Nat.le_refl _), List.take_of_length_le (by rw [Bs.low_length]; exact Nat.le_refl _)]
    have k6 : (2 : Int) ^ 6 = 64 := by decide
    have eld : ld (cb l n d ++ S) = LL d := by
      unfold ld
      rw [d2, Bs.number_low, k6]
      omega
    have esd : sd (cb l n d ++ S) = SS d := by
      unfold sd
      rw [d8, Bs.number_low, k6]
      omega
    have hx : xv (cb l n d ++ S) 14 (LL d) (SS d) = d := by
      rw [e, List.append_assoc, ← e14']
      exact xv_low d (by omega) hr.2 (LL d) (SS d) g3 (Nat.le_refl _) (Nat.le_refl _) _ S
    rw [if_neg (by omega), r0, if_neg (by decide), if_neg (by omega), r1, if_pos rfl, if_neg (by omega), eld, esd]
    unfold bd
    rw [if_neg (by omega), if_neg (by omega), hx, if_pos (by rw [← hlen, List.take_left]), hback, hlen]
theorem xg_ok (p : Int) (l n : Nat) (hln : l + n ≤ 64) (hp : 0 ≤ p ∧ p < 18446744073709551616) (R : List Int) (hR : Bs.Bits R) (h : (xg p l n R).2.2.2.2.2 = 0) :
    ∃ (d : Int) (m : Nat), 0 ≤ d ∧ d < 18446744073709551616 ∧ 1 ≤ m ∧ m ≤ R.length ∧ cb l n d = R.take m ∧ xg p l n R = (Go.bits .xor .u64 p d, Go.bits .xor .u64 p d, (cl l n d : Int), (cn l n d : Int), (m : Int), 0) := by
  have hbd : ∀ (h lead size : Nat), (bd p l n R h lead size).2.2.2.2.2 = 0 → ∃ (d : Int) (m : Nat), 0 ≤ d ∧ d < 18446744073709551616 ∧ 1 ≤ m ∧ m ≤ R.length ∧ cb l n d = R.take m ∧ bd p l n R h lead size = (Go.bits .xor .u64 p d, Go.bits .xor .u64 p d, (cl l n d : Int), (cn l n d : Int), (m : Int), 0) := by
    intro h lead size hh
    unfold bd at hh ⊢
    by_cases c0 : size = 0 ∨ lead + size > 64
    · rw [if_pos c0] at hh
      exact absurd hh (by decide)
    rw [if_neg c0] at hh ⊢
    by_cases c1 : R.length < h + size
    · rw [if_pos c1] at hh
      exact absurd hh (by decide)
    rw [if_neg c1] at hh ⊢
    by_cases c2 : cb l n (xv R h lead size) = R.take (h + size)
    · rw [if_pos c2]
      have hx := xv_range hR h lead size (by omega) (by omega)
      exact ⟨_, _, hx.1, hx.2, by omega, by omega, c2, rfl⟩
    · rw [if_neg c2] at hh
      exact absurd hh (by decide)
  unfold xg at h ⊢
  by_cases c0 : R.length = 0
  · rw [if_pos c0] at h
    exact absurd h (by decide)
  rw [if_neg c0] at h ⊢
  by_cases c1 : rd R 0 = 0
  · rw [if_pos c1]
    refine ⟨0, 1, by decide, by decide, by decide, by omega, ?_, ?_⟩
    · rw [take1 R (by omega) c1]
      unfold cb
      rw [if_pos rfl]
    · unfold cl cn
      rw [if_pos rfl, if_pos rfl, Ib.xor_u64_zero p hp]
      rfl
  rw [if_neg c1] at h ⊢
  by_cases c2 : R.length = 1
  · rw [if_pos c2] at h
    exact absurd h (by decide)
  rw [if_neg c2] at h ⊢
  by_cases c3 : rd R 1 = 1
  · rw [if_pos c3] at h ⊢
    by_cases c4 : R.length < 14
    · rw [if_pos c4] at h
      exact absurd h (by decide)
    rw [if_neg c4] at h ⊢
    exact hbd _ _ _ h
  · rw [if_neg c3] at h ⊢
    exact hbd _ _ _ h
end Go.Proofs.YtiahbcaoikoogaaDoor.PXor
namespace Go.Proofs.YtiahbcaoikoogaaDoor.Pure
open Go Go.RowKit Go.Proofs.YtiahbcaoikoogaaDoor Go.Proofs.YtiahbcaoikoogaaDoor.All Go.Proofs.YtiahbcaoikoogaaDoorW.PrintWords Go.Proofs.YtiahbcaoikoogaaDoorW.PrintLast Go.Proofs.YtiahbcaoikoogaaDoor.PXor
theorem XorBack_up : Ev (fun k => gaiterlaw07_up.f k) true :=
  Ev.of gaiterlaw07_up.mono (k := 300) (by decide +kernel)
abbrev dx (v p : Int) : Int := Go.bits .xor .u64 v p
def codes : Int → Nat → Nat → List Int → List Int
  | _, _, _, [] => []
  | p, l, n, v :: vs => cb l n (dx v p) ++ codes v (cl l n (dx v p)) (cn l n (dx v p)) vs
theorem codes_bits : ∀ (vs : List Int) (p : Int) (l n : Nat), Bs.Bits (codes p l n vs) := by
  intro vs
  induction vs with
  | nil => intro p l n; exact Bs.Bits.nil
  | cons v vs ih => intro p l n; exact (cb_bits _ _ _).append (ih _ _ _)
theorem codes_length : ∀ (vs : List Int) (p : Int) (l n : Nat), (∀ x ∈ vs, 0 ≤ x ∧ x < 18446744073709551616) → 0 ≤ p ∧ p < 18446744073709551616 → l + n ≤ 64 → (codes p l n vs).length ≤ 78 * vs.length := by
  intro vs
  induction vs with
  | nil => intro p l n _ _ _; exact Nat.le_refl _
  | cons v vs ih =>
    intro p l n hv hp hln
    have hd := xor_range v p (hv v (by simp)) hp
    have h1 := cb_short l n _ hln hd.1 hd.2
    have h2 := ih v (cl l n (dx v p)) (cn l n (dx v p)) (fun x hx => hv x (by simp [hx])) (hv v (by simp)) (cb_ok l n _ hln hd.1 hd.2)
    unfold codes
    rw [List.length_append, List.length_cons]
    have h3 : (cb l n (dx v p)).length ≤ 78 := h1.2
    omega
section
variable (x0 x1 x2 x3 : List Int) (h0 : Bs.Bytes x0) (h1 : ∀ x ∈ x1, 0 ≤ x ∧ x < 18446744073709551616) (h2 : Bs.Bytes x2) (h3 : Bs.Bytes x3) (n0 : x0.length ≤ 300) (n1 : x1.length ≤ 50) (n2 : x2.length ≤ 300) (n3 : x3.length ≤ 300)
include h3 n3
theorem XorBack_j3 (p d : Int) (l n m : Nat) (hp : 0 ≤ p ∧ p < 18446744073709551616) (hd : 0 ≤ d ∧ d < 18446744073709551616) (hln : l + n ≤ 64) (hm : m ≤ (Bs.flat x3).length) (he : cb l n d = (Bs.flat x3).take m) :
    Ev (fun k => gaiterlaw07_XorBack.j3 k x3 true (dx p d) (m : Int) false p (l : Int) (n : Int) (dx p d) (cl l n d : Int) (cn l n d : Int)) true := by
  have hr := xor_range p d hp hd
  have hc := Code_is p (dx p d) l n hp hr hln (xor_back p d hp hd)
  have hcs := cb_short l n d hln hd.1 hd.2
  have hi := PBits.Is_is (cb l n d) (cb_bits l n d) (by omega)
  have hf := PBits.Flat_is x3 h3 (by omega)
  rw [he] at hc hi
  have hle : (m : Int) ≤ ((Bs.flat x3).length : Int) := Int.ofNat_le.mpr hm
  refine Ev.step (fun k => by rw [gaiterlaw07_XorBack.j3, if_neg Bool.false_ne_true]) (Ev.bind hc ?_)
  simp only [if_true, beq_self_eq_true, Bool.and_self]
  refine Ev.bind hf ?_
  simp only [if_pos (Int.natCast_nonneg m), if_pos hle, Int.toNat_natCast]
  refine Ev.bind hi ?_
  simp only [beq_self_eq_true]
  exact Ev.now _
include h1
theorem XorBack_l1 (F Q : List Int) (hF : Bs.Bits F) (hFl : F.length ≤ 10000) :
    ∀ (e i : Nat) (H : List Int) (p : Int) (l n : Nat), i + e = x1.length → x1.length ≤ 50 → 0 ≤ p ∧ p < 18446744073709551616 → l + n ≤ 64 → F = H ++ (codes p l n (x1.drop i) ++ Q) →
      Ev (fun k => gaiterlaw07_XorBack.l1 k x1 x3 true (H.length : Int) (i : Int) (Bs.pack F) (F.length : Int) p (l : Int) (n : Int)) true := by
  intro e
  induction e with
  | zero =>
    intro i H p l n hi n1 hp hln hE
    have hnl : ¬ (i : Int) < (x1.length : Int) := by omega
    have hfl := Bs.flat_length x3
    have hget := Get_is x3 h3 (by omega) p hp l n hln 0
    have hr0 : PDod.restL (Bs.flat x3) 0 = Bs.flat x3 := by
      unfold PDod.restL
      rw [if_neg (by omega)]
      rfl
    rw [hr0] at hget
    have hok := xg_ok p l n hln hp (Bs.flat x3) (Bs.flat_bits x3)
    have hj := XorBack_j3 x3 h3 n3 p
    have hw8 : wrap64 (8 * (x3.length : Int)) = ((Bs.flat x3).length : Int) := by rw [PBits.w64 _ (by omega), hfl]; omega
    generalize xg p l n (Bs.flat x3) = G at hget hok
    refine Ev.step (fun k => by rw [gaiterlaw07_XorBack.l1, if_neg hnl]) (Ev.bind hget ?_)
    by_cases c : G.2.2.2.2.2 = 0
    · obtain ⟨d, m, d0, d1, m1, m2, m3, hG⟩ := hok c
      subst hG
      have g1 : ¬ (m : Int) < 1 := by omega
      have g2 : decide ((m : Int) > ((Bs.flat x3).length : Int)) = false := decide_eq_false (by omega)
      simp only [gi, if_true, Option.isNone_none, if_neg g1, hw8, g2]
      exact hj d l n m hp ⟨d0, d1⟩ hln m2 m3
    · simp only [gi, if_neg c, Option.isNone_some, Bool.false_eq_true, if_false]
      exact Ev.now _
  | succ e ih =>
    intro i H p l n hi n1 hp hln hE
    have hil : i < x1.length := by omega
    have hlt : (i : Int) < (x1.length : Int) := by omega
    have hrd := PBits.rd_at x1 i hil
    have hv := h1 x1[i] (List.getElem_mem hil)
    have hdrop : x1.drop i = x1[i] :: x1.drop (i + 1) := List.drop_eq_getElem_cons hil
    rw [hdrop] at hE
    generalize x1[i] = v at hrd hv hE
    have hd := xor_range v p hv hp
    have hcode := Code_is p v l n hp hv hln (d := dx v p) rfl
    have hcs := cb_short l n (dx v p) hln hd.1 hd.2
    have hok := cb_ok l n (dx v p) hln hd.1 hd.2
    have hown := fun S => xg_own p v hp hv l n hln (d := dx v p) rfl S
    have hE2 : F = (H ++ cb l n (dx v p)) ++ (codes v (cl l n (dx v p)) (cn l n (dx v p)) (x1.drop (i + 1)) ++ Q) := by
      rw [hE]
      show H ++ ((cb l n (dx v p) ++ _) ++ Q) = _
      simp only [List.append_assoc]
    have hnext := ih (i + 1) (H ++ cb l n (dx v p)) v (cl l n (dx v p)) (cn l n (dx v p)) (by omega) n1 hv hok hE2
    have hpl : 8 * (Bs.pack F).length < 70368744177664 := by rw [Bs.pack_length]; omega
    have hget := Get_is _ (Bs.pack_bytes hF) hpl p hp l n hln (H.length : Int)
    have hHF : H.length + (cb l n (dx v p)).length ≤ F.length := by rw [hE2]; simp only [List.length_append]; omega
    have hrest : ∃ S, PDod.restL (Bs.flat (Bs.pack F)) (H.length : Int) = cb l n (dx v p) ++ S := by
      unfold PDod.restL
      rw [Bs.flat_pack hF]
      refine ⟨codes v (cl l n (dx v p)) (cn l n (dx v p)) (x1.drop (i + 1)) ++ Q ++ List.replicate (8 * ((F.length + 7) / 8) - F.length) 0, ?_⟩
      rw [if_neg (by rw [List.length_append]; omega), Int.toNat_natCast]
      conv => lhs; rw [show F ++ List.replicate (8 * ((F.length + 7) / 8) - F.length) (0 : Int) = H ++ (cb l n (dx v p) ++ (codes v (cl l n (dx v p)) (cn l n (dx v p)) (x1.drop (i + 1)) ++ Q ++ List.replicate (8 * ((F.length + 7) / 8) - F.length) 0)) from by
        conv => lhs; arg 1; rw [hE2]
        simp only [List.append_assoc]]
      rw [List.drop_left]
    obtain ⟨S, hS⟩ := hrest
    rw [hS, hown S] at hget
    have wo : wrap64 ((H.length : Int) + ((cb l n (dx v p)).length : Int)) = ((H ++ cb l n (dx v p)).length : Int) := by rw [List.length_append, PBits.w64 _ (by omega)]; omega
    have wi : wrap64 ((i : Int) + 1) = ((i + 1 : Nat) : Int) := by rw [PBits.w64 _ (by omega)]; omega
    refine Ev.step (fun k => by rw [gaiterlaw07_XorBack.l1, if_pos hlt, if_pos (Int.natCast_nonneg i), hrd]) (Ev.bind hcode (Ev.bind hget ?_))
    simp only [gi, if_true, Option.isNone_none, beq_self_eq_true, Bool.not_true, Bool.or_self, Bool.false_eq_true, if_false, wo, wi]
    exact hnext
omit h3 n3
theorem XorBack_l0 (T : List Int) (hend : Ev (fun k => (gaiterlaw00_Bits.f k x2).bind fun bt422 => ((bits_Join.f k (Bs.pack T) (T.length : Int) bt422.1 bt422.2).bind fun bt426 => (gaiterlaw07_XorBack.l1 k x1 x3 true (x0.length : Int) 0 bt426.1 bt426.2 0 0 0))) true) :
    ∀ (e i : Nat) (E : List Int) (p : Int) (l n : Nat), i + e = x1.length → x1.length ≤ 50 → Bs.Bits E → E.length ≤ 300 + 78 * i → 0 ≤ p ∧ p < 18446744073709551616 → l + n ≤ 64 → E ++ codes p l n (x1.drop i) = T →
      Ev (fun k => gaiterlaw07_XorBack.l0 k x0 x1 x2 x3 true (i : Int) (Bs.pack E) (E.length : Int) p (l : Int) (n : Int)) true := by
  intro e
  induction e with
  | zero =>
    intro i E p l n hi n1 hEb hEl hp hln hE
    have hnl : ¬ (i : Int) < (x1.length : Int) := by omega
    rw [List.drop_of_length_le (by omega)] at hE
    have : E = T := by rw [← hE]; exact (List.append_nil E).symm
    subst this
    exact Ev.step (fun k => by rw [gaiterlaw07_XorBack.l0, if_neg hnl]) hend
  | succ e ih =>
    intro i E p l n hi n1 hEb hEl hp hln hE
    have hil : i < x1.length := by omega
    have hlt : (i : Int) < (x1.length : Int) := by omega
    have hrd := PBits.rd_at x1 i hil
    have hv := h1 x1[i] (List.getElem_mem hil)
    have hdrop : x1.drop i = x1[i] :: x1.drop (i + 1) := List.drop_eq_getElem_cons hil
    rw [hdrop] at hE
    generalize x1[i] = v at hrd hv hE
    have hd := xor_range v p hv hp
    have hcode := Code_is p v l n hp hv hln (d := dx v p) rfl
    have hcs : 1 ≤ (cb l n (dx v p)).length ∧ (cb l n (dx v p)).length ≤ 78 := cb_short l n (dx v p) hln hd.1 hd.2
    have hok := cb_ok l n (dx v p) hln hd.1 hd.2
    have hcb := cb_bits l n (dx v p)
    have hE2 : (E ++ cb l n (dx v p)) ++ codes v (cl l n (dx v p)) (cn l n (dx v p)) (x1.drop (i + 1)) = T := by
      rw [← hE]
      show _ = E ++ (cb l n (dx v p) ++ _)
      simp only [List.append_assoc]
    have hjoin := PBits.Join_is E (cb l n (dx v p)) hEb hcb (by omega)
    rw [← List.length_append] at hjoin
    have hnext := ih (i + 1) (E ++ cb l n (dx v p)) v (cl l n (dx v p)) (cn l n (dx v p)) (by omega) n1 (hEb.append hcb) (by rw [List.length_append]; omega) hv hok hE2
    have wi : wrap64 ((i : Int) + 1) = ((i + 1 : Nat) : Int) := by rw [PBits.w64 _ (by omega)]; omega
    refine Ev.step (fun k => by rw [gaiterlaw07_XorBack.l0, if_pos hlt, if_pos (Int.natCast_nonneg i), hrd, wi]) (Ev.bind hcode (Ev.bind hjoin ?_))
    exact hnext
end
theorem XorBack_main (x0 x1 x2 x3 : List Int) (h0 : Bs.Bytes x0) (h1 : ∀ x ∈ x1, 0 ≤ x ∧ x < 18446744073709551616) (h2 : Bs.Bytes x2) (h3 : Bs.Bytes x3) (n0 : x0.length ≤ 300) (n1 : x1.length ≤ 50) (n2 : x2.length ≤ 300) (n3 : x3.length ≤ 300) :
    Ev (fun k => gaiterlaw07_XorBack.j0 k x0 x1 x2 x3 true false) true := by
  have lP : (PBits.par x0).length = x0.length := PBits.par_length x0
  have lQ : (PBits.par x2).length = x2.length := PBits.par_length x2
  have hP := PBits.par_bits x0
  have hQ := PBits.par_bits x2
  have b0 := PBits.Bits_is x0 h0 (by omega)
  have b2 := PBits.Bits_is x2 h2 (by omega)
  rw [← lP] at b0
  rw [← lQ] at b2
  have hC := codes_bits x1 0 0 0
  have lC := codes_length x1 0 0 0 h1 (by decide) (by decide)
  generalize PBits.par x0 = P at *
  generalize PBits.par x2 = Q at *
  have hT := hP.append hC
  have lT : (P ++ codes 0 0 0 x1).length ≤ 4200 := by rw [List.length_append]; omega
  have hjoin := PBits.Join_is (P ++ codes 0 0 0 x1) Q hT hQ (by omega)
  rw [← List.length_append] at hjoin
  have hF : (P ++ codes 0 0 0 x1 ++ Q).length ≤ 10000 := by rw [List.length_append]; omega
  have hl1 := XorBack_l1 x1 x3 h1 h3 n3 (P ++ codes 0 0 0 x1 ++ Q) Q (hT.append hQ) hF x1.length 0 P 0 0 0 (by omega) n1 (by decide) (by decide) (by rw [List.drop_zero, List.append_assoc])
  rw [lP] at hl1
  have hend : Ev (fun k => (gaiterlaw00_Bits.f k x2).bind fun bt422 => ((bits_Join.f k (Bs.pack (P ++ codes 0 0 0 x1)) ((P ++ codes 0 0 0 x1).length : Int) bt422.1 bt422.2).bind fun bt426 => (gaiterlaw07_XorBack.l1 k x1 x3 true (x0.length : Int) 0 bt426.1 bt426.2 0 0 0))) true := by
    refine Ev.bind b2 (Ev.bind hjoin ?_)
    exact hl1
  have hl0 := XorBack_l0 x0 x1 x2 x3 h1 (P ++ codes 0 0 0 x1) hend x1.length 0 P 0 0 0 (by omega) n1 hP (by omega) (by decide) (by decide) (by rw [List.drop_zero])
  refine Ev.step (fun k => by rw [gaiterlaw07_XorBack.j0, if_neg Bool.false_ne_true]) (Ev.bind b0 ?_)
  exact hl0
theorem XorBack : gaiterlaw07_XorBack.Pure := by
  intro x0 x1 x2 x3 _ _ h0 _ _ h1 _ _ h2 _ _ h3
  have h1 : ∀ x ∈ x1, 0 ≤ x ∧ x < 18446744073709551616 := fun x h => Ib.wf_u64 (h1 x h)
  have h0 : Bs.Bytes x0 := fun x h => Ib.wf_u8 (h0 x h)
  have h2 : Bs.Bytes x2 := fun x h => Ib.wf_u8 (h2 x h)
  have h3 : Bs.Bytes x3 := fun x h => Ib.wf_u8 (h3 x h)
  refine Ev.rounds (g := fun k => gaiterlaw07_XorBack.f k x0 x1 x2 x3) ?_
  unfold gaiterlaw07_XorBack.f
  refine Ev.bind XorBack_up ?_
  have hout : ∀ x, x = true → Ev (fun k => gaiterlaw07_XorBack.j0 k x0 x1 x2 x3 true x) true := by
    intro x hx
    subst hx
    exact Ev.step (fun k => by rw [gaiterlaw07_XorBack.j0, if_pos rfl]) (Ev.now _)
  by_cases c0 : (x0.length : Int) > 300
  · simp only [if_pos c0]
    exact hout _ rfl
  simp only [if_neg c0]
  by_cases c1 : (x1.length : Int) > 50
  · simp only [if_pos c1]
    exact hout _ rfl
  simp only [if_neg c1]
  by_cases c2 : (x2.length : Int) > 300
  · simp only [if_pos c2]
    exact hout _ rfl
  simp only [if_neg c2]
  by_cases c3 : (x3.length : Int) > 300
  · exact hout _ (decide_eq_true c3)
  rw [decide_eq_false c3]
  exact XorBack_main x0 x1 x2 x3 h0 h1 h2 h3 (by omega) (by omega) (by omega) (by omega)
end Go.Proofs.YtiahbcaoikoogaaDoor.Pure
namespace Go.Proofs.YtiahbcaoikoogaaDoor
open Go Go.ChangeShapes Go.WideShapes Go.ChangeAt Go.WideMaps Go.WideElems Go.RowKit
set_option maxRecDepth 100000
def tabLaid {H : Type} : List (String × DataW H) := [("math/bits.deBruijn64tab", Rows.laid_math_bits_deBruijn64tab)]
theorem gTab : Tryd.prog.globalNamed "math/bits.deBruijn64tab" = some 0 := by kernel_rfl
theorem tTab : (Tryd.prog.globals[0]?).map (·.type) = some 134 := by kernel_rfl
theorem uTab : Tryd.prog.underlying 134 = some (.array 64 5) := by kernel_rfl
theorem uByte : Tryd.prog.underlying 5 = some (.int .u8) := by kernel_rfl
theorem cByte : Tryd.prog.cellsOf 5 = 1 := by kernel_rfl
theorem dTab {H : Type} : (Rows.laid_math_bits_deBruijn64tab : DataW H) = .agg ((List.range 64).map fun j => .lit (.int .u8 (Lib.deBruijn64tab.getD j 0))) := by kernel_rfl
theorem tab_of_laid {W : World} (h : laidMetH Tryd.prog tabLaid W) : TabOk W := by
  rw [MakeChecks.laidMetH_plain _ _ _ (by kernel_rfl)] at h
  obtain ⟨ps, ⟨g0, t0, cs0, f0, p0, q0, hg0, ht0, hv0, hd0, _, _⟩, _, _⟩ := h
  obtain rfl := Option.some.inj (gTab.symm.trans hg0)
  obtain rfl := Option.some.inj (tTab.symm.trans ht0)
  obtain ⟨xs, m, rfl, hx, hlen, hn, hel⟩ := DataW.trod_array uTab hd0
  intro j hj
  rw [cByte] at hel
  have hj' := hel j hj
  obtain ⟨x, hxj⟩ : ∃ x, xs[j]? = some x := ⟨xs[j]'(by omega), List.getElem?_eq_getElem (by omega)⟩
  rw [hxj] at hj'
  obtain ⟨k, e1, e2, _⟩ := DataW.trod_int uByte hj'
  rw [dTab] at hx
  simp only [Prod.mk.injEq, DataW.agg.injEq] at hx
  have h1 : (xs.map (·.1))[j]? = some x.1 := by rw [List.getElem?_map, hxj]; rfl
  rw [← hx.1, List.getElem?_map, List.getElem?_range hj, e2] at h1
  simp only [Option.map_some, Option.some.injEq, DataW.lit.injEq, Lit.int.injEq, true_and] at h1
  rw [World.var?_cell hg0 hv0 j]
  have h2 : (cs0.toList.drop (j * 1))[0]? = some (.int .u8 k) := by
    have : ((cs0.toList.drop (j * 1)).take 1)[0]? = some (.int .u8 k) := by rw [e1]; rfl
    rw [List.getElem?_take] at this
    simpa using this
  rw [List.getElem?_drop, Nat.mul_one, Nat.add_zero] at h2
  rw [h1]
  simpa using h2
theorem door_met (os : Os) (args : Array Value) : laidMetH Tryd.prog tabLaid ((World.doorLaid Tryd.prog 600 os).forCall (fun _ _ => 0) ⟨#[], args, []⟩).memory :=
  laidMetH_of_parts3 (fuel := 8) (laidMet_of_run' 8 (by kernel_rfl) (by kernel_rfl)) (by kernel_rfl) (by kernel_rfl)
end Go.Proofs.YtiahbcaoikoogaaDoor
namespace Go.Proofs.YtiahbcaoikoogaaDoor.xorBack
open Go.ChangeShapes Go.WideShapes Go.ChangeAt Go.RowKit
open Go.ChangeMaps (open_string shut_string)
theorem own : ownKnob Tryd.prog.godebug = none := by kernel_rfl
theorem laidOut : laidOutB Tryd.prog = true := by kernel_rfl
def IsRow (k : IntKind) (w : World) (a : Option Addr) (len cap : Nat) (zs : List Int) : Prop :=
  (a = none ∧ len = 0 ∧ cap = 0 ∧ zs = []) ∨
  ∃ x, a = some x ∧ len ≤ cap ∧ cap ≤ maxLen ∧ zs.length = cap ∧ (∀ i, i < zs.length → w.cell? (x.add i) = some (.int k (zs.getD i 0))) ∧ ∀ n ∈ zs, (Lit.int k n).wf = true
set_option maxRecDepth 100000 in
theorem lifted (os : Os) (started : os.Started) (H : Type) (enc : TypeId × Value → H) :
    ReturnsInHanded {} Tryd.checked os 4 .any (fun w args => (Rows.xorBackSpec.pre enc Tryd.prog Tryd.f4 [] false w args ∧ laidMetH Tryd.prog tabLaid w) ∧ sizedMet enc Tryd.prog Tryd.f4 (OpenSpec.ofChange Rows.xorBackSpec) false w args)
      (Rows.xorBackSpec.post enc Tryd.prog Tryd.f4 false true false false) := by
  refine returnsInHanded_of_change_and (C := Tryd.checked) (X := fun w _ => laidMetH Tryd.prog tabLaid w) (fun _ _ _ hh h => h.of_heap hh) own started (by kernel_rfl) Tryd.func4
    (ChangeSpec.witness_shaped (enc := enc) (C := Tryd.checked) (os := os) (X := fun w _ => laidMetH Tryd.prog tabLaid w) false (World.doorLaid Tryd.prog 600 os) #[.slice none 0 0, .slice none 0 0, .slice none 0 0, .slice none 0 0] 8 rfl (World.shaped_of_RefB (by kernel_rfl) (by kernel_rfl)) (by kernel_rfl) (by kernel_rfl) (by kernel_rfl) (door_met os _)) ?_
  intro W base args ds gs before hval0 hW _ hsz0 hL _
  have hT := tab_of_laid hL
  have hsz : (DataW.weightsEach Tryd.prog (Tryd.f4.params.toList ++ Rows.xorBackSpec.plain.varTypes Tryd.prog) (ds ++ gs)).all (· ≤ reachBytes) = true := hsz0
  have hval : ∀ (j : Nat) t v, Tryd.f4.params[j]? = some t → args[j]? = some v → Value.okWide Tryd.prog W .any base t v := hval0
  have hW' := hW
  obtain ⟨p, q, hA0, hV, rfl, hfz, hnd⟩ := hW
  have hA : DataW.TrodAll enc Tryd.prog W 0 (fun _ => true) true Tryd.f4.params.toList args.toList ds p := hA0
  rw [Tryd.params4] at hA hval hsz
  obtain ⟨v0, vs0, d0, ds0, p0, q0, hargs, rfl, rfl, h0, r0⟩ := trodAll_cons hA
  obtain ⟨v1, vs1, d1, ds1, p1, q1, rfl, rfl, rfl, h1, r1⟩ := trodAll_cons r0
  obtain ⟨v2, vs2, d2, ds2, p2, q2, rfl, rfl, rfl, h2, r2⟩ := trodAll_cons r1
  obtain ⟨v3, vs3, d3, ds3, p3, q3, rfl, rfl, rfl, h3, r3⟩ := trodAll_cons r2
  obtain ⟨rfl, rfl, rfl⟩ := trodAll_nil r3
  obtain rfl : args = #[v0, v1, v2, v3] := by cases args; simp_all
  obtain ⟨rfl, rfl⟩ := trodVars_none hV
  obtain ⟨a0, len0, cap0, rfl⟩ := okWide_slice Tryd.underlying25 (hval 0 25 v0 rfl rfl)
  have k0 := h0
  have lt0 : ∀ x ∈ p0, x.block < W.heap.size := by obtain ⟨m, hm⟩ := k0; exact DataW.trod_lt m _ _ _ hm
  obtain ⟨z0, w0⟩ : ∃ zs, IsRow .u8 W a0 len0 cap0 zs := by
    obtain ⟨fuel, hf⟩ := h0
    rcases open_ints Tryd.underlying25 Tryd.underlying5 (by kernel_rfl) hf with ⟨hcs, _⟩ | ⟨x, l, c, zs, hcs, _, hl, hm, hz, _, hcell, hwz⟩
    · simp [Value.cells] at hcs
      obtain ⟨rfl, rfl, rfl⟩ := hcs
      exact ⟨[], .inl ⟨rfl, rfl, rfl, rfl⟩⟩
    · simp [Value.cells] at hcs
      obtain ⟨rfl, rfl, rfl⟩ := hcs
      exact ⟨zs, .inr ⟨_, rfl, hl, hm, by simpa using hz, hcell, hwz⟩⟩
  have y0 : len0 * 1 ≤ 140737488351232 := Go.Proofs.YtiahbcaoikoogaaDoorW.PrintWords.sized_ints hsz (j := 0) (t := 25) rfl rfl Tryd.underlying25 Tryd.underlying5 (by kernel_rfl) (by kernel_rfl) h0
  obtain ⟨a1, len1, cap1, rfl⟩ := okWide_slice Tryd.underlying46 (hval 1 46 v1 rfl rfl)
  have k1 := h1
  have lt1 : ∀ x ∈ p1, x.block < W.heap.size := by obtain ⟨m, hm⟩ := k1; exact DataW.trod_lt m _ _ _ hm
  obtain ⟨z1, w1⟩ : ∃ zs, IsRow .u64 W a1 len1 cap1 zs := by
    obtain ⟨fuel, hf⟩ := h1
    rcases open_ints Tryd.underlying46 Tryd.underlying22 (by kernel_rfl) hf with ⟨hcs, _⟩ | ⟨x, l, c, zs, hcs, _, hl, hm, hz, _, hcell, hwz⟩
    · simp [Value.cells] at hcs
      obtain ⟨rfl, rfl, rfl⟩ := hcs
      exact ⟨[], .inl ⟨rfl, rfl, rfl, rfl⟩⟩
    · simp [Value.cells] at hcs
      obtain ⟨rfl, rfl, rfl⟩ := hcs
      exact ⟨zs, .inr ⟨_, rfl, hl, hm, by simpa using hz, hcell, hwz⟩⟩
  have y1 : len1 * 8 ≤ 140737488351232 := Go.Proofs.YtiahbcaoikoogaaDoorW.PrintWords.sized_ints hsz (j := 1) (t := 46) rfl rfl Tryd.underlying46 Tryd.underlying22 (by kernel_rfl) (by kernel_rfl) h1
  obtain ⟨a2, len2, cap2, rfl⟩ := okWide_slice Tryd.underlying25 (hval 2 25 v2 rfl rfl)
  have k2 := h2
  have lt2 : ∀ x ∈ p2, x.block < W.heap.size := by obtain ⟨m, hm⟩ := k2; exact DataW.trod_lt m _ _ _ hm
  obtain ⟨z2, w2⟩ : ∃ zs, IsRow .u8 W a2 len2 cap2 zs := by
    obtain ⟨fuel, hf⟩ := h2
    rcases open_ints Tryd.underlying25 Tryd.underlying5 (by kernel_rfl) hf with ⟨hcs, _⟩ | ⟨x, l, c, zs, hcs, _, hl, hm, hz, _, hcell, hwz⟩
    · simp [Value.cells] at hcs
      obtain ⟨rfl, rfl, rfl⟩ := hcs
      exact ⟨[], .inl ⟨rfl, rfl, rfl, rfl⟩⟩
    · simp [Value.cells] at hcs
      obtain ⟨rfl, rfl, rfl⟩ := hcs
      exact ⟨zs, .inr ⟨_, rfl, hl, hm, by simpa using hz, hcell, hwz⟩⟩
  have y2 : len2 * 1 ≤ 140737488351232 := Go.Proofs.YtiahbcaoikoogaaDoorW.PrintWords.sized_ints hsz (j := 2) (t := 25) rfl rfl Tryd.underlying25 Tryd.underlying5 (by kernel_rfl) (by kernel_rfl) h2
  obtain ⟨a3, len3, cap3, rfl⟩ := okWide_slice Tryd.underlying25 (hval 3 25 v3 rfl rfl)
  have k3 := h3
  have lt3 : ∀ x ∈ p3, x.block < W.heap.size := by obtain ⟨m, hm⟩ := k3; exact DataW.trod_lt m _ _ _ hm
  obtain ⟨z3, w3⟩ : ∃ zs, IsRow .u8 W a3 len3 cap3 zs := by
    obtain ⟨fuel, hf⟩ := h3
    rcases open_ints Tryd.underlying25 Tryd.underlying5 (by kernel_rfl) hf with ⟨hcs, _⟩ | ⟨x, l, c, zs, hcs, _, hl, hm, hz, _, hcell, hwz⟩
    · simp [Value.cells] at hcs
      obtain ⟨rfl, rfl, rfl⟩ := hcs
      exact ⟨[], .inl ⟨rfl, rfl, rfl, rfl⟩⟩
    · simp [Value.cells] at hcs
      obtain ⟨rfl, rfl, rfl⟩ := hcs
      exact ⟨zs, .inr ⟨_, rfl, hl, hm, by simpa using hz, hcell, hwz⟩⟩
  have y3 : len3 * 1 ≤ 140737488351232 := Go.Proofs.YtiahbcaoikoogaaDoorW.PrintWords.sized_ints hsz (j := 3) (t := 25) rfl rfl Tryd.underlying25 Tryd.underlying5 (by kernel_rfl) (by kernel_rfl) h3
  clear hA0 hval0 hsz0 hsz
  refine (All.gaiterlaw07_XorBack.walk Pure.XorBack a0 len0 cap0 z0 a1 len1 cap1 z1 a2 len2 cap2 z2 a3 len3 cap3 z3 W hT w0 y0 w1 y1 w2 y2 w3 y3).mono fun e W' ⟨he, bel⟩ => ?_
  subst he
  exact ⟨_, rfl, _, _, _, [], _, [], hW', trodAll_mk1 (shut_bool Tryd.underlying4 _), (trodAll_cons_mk (Below.trod laidOut (by kernel_rfl) (of_decide_eq_true (by kernel_rfl)) k0 bel lt0) (trodAll_cons_mk (Below.trod laidOut (by kernel_rfl) (of_decide_eq_true (by kernel_rfl)) k1 bel lt1) (trodAll_cons_mk (Below.trod laidOut (by kernel_rfl) (of_decide_eq_true (by kernel_rfl)) k2 bel lt2) (trodAll_cons_mk (Below.trod laidOut (by kernel_rfl) (of_decide_eq_true (by kernel_rfl)) k3 bel lt3) trodAll_mk0)))), rfl, bel.frame _, fun h => by cases h⟩
theorem over : Rows.XorBackSaid :=
  OpenClaim.holds_of_wide 4 Tryd.f4 rfl rfl rfl rfl rfl rfl rfl ⟨rfl, rfl, rfl, rfl, rfl⟩ rfl rfl rfl rfl rfl (by kernel_rfl) Tryd.func4 (by kernel_rfl)
    (of_decide_eq_true (by kernel_rfl)) (by unfold Func.isWrapper; first | (rw [if_pos (by decide +kernel)]; kernel_rfl) | (rw [if_neg (by decide +kernel)]; exact ⟨rfl, rfl⟩))
    (fun os started H enc _ => lifted os started H enc)
theorem card_holds : Rows.XorBackCardSaid :=
  Claim7.holds_tied_plain_at .later [] [.data] true (true, "3c400eb4357e7be91ed5f8ac2ca5e7b92b7ba43be33c7acc7a7894a3470e570a") true
    over (fun _ h => by cases h) (by kernel_rfl) (fun _ h => by cases h) xorBack_row_tie rfl ⟨rfl, rfl⟩ (by kernel_rfl) rfl
    (fun f fn hf hfn => by
      obtain rfl : f = 4 := Option.some.inj ((show Tryd.prog.funcNamed "gaiter/gaiterlaw07.XorBack" = some 4 by kernel_rfl).symm.trans hf) |>.symm
      obtain rfl : fn = Tryd.f4 := (Option.some.inj (Tryd.func4.symm.trans hfn)).symm
      exact ⟨by kernel_rfl, fun j t ht => by
        rw [Tryd.params4] at ht
        have hm : t ∈ [25, 46, 25, 25] := by simpa using Array.mem_of_getElem? ht
        have hall : ([25, 46, 25, 25].all fun u => !Tryd.prog.wantsStandIn u) = true := by kernel_rfl
        exact (show Tryd.prog.wantsStandIn t = false by simpa using List.all_eq_true.1 hall t hm)⟩)
    (by kernel_rfl)
end Go.Proofs.YtiahbcaoikoogaaDoor.xorBack
namespace Go.Proofs.YtiahbcaoikoogaaDoor
theorem xorBack_card : Rows.XorBackCardSaid := xorBack.card_holds
end Go.Proofs.YtiahbcaoikoogaaDoor
