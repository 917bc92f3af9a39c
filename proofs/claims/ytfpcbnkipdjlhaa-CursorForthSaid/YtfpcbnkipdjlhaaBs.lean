/- Plain facts on bits, bytes and the numbers that they are: nothing of the program. -/
set_option linter.unusedVariables false
set_option linter.unusedSimpArgs false
namespace Bs

/-- The number of bits. -/
def number (l : List Int) : Int := l.foldl (fun v b => 2 * v + b) 0
/-- The n lowest bits of a number, the highest one first. -/
def low (v : Int) : Nat → List Int
  | 0 => []
  | n + 1 => low (v / 2) n ++ [v % 2]
def Bits (l : List Int) : Prop := ∀ x ∈ l, x = 0 ∨ x = 1
def Bytes (l : List Int) : Prop := ∀ x ∈ l, 0 ≤ x ∧ x < 256
/-- All bits of bytes. -/
def flat (b : List Int) : List Int := b.flatMap fun c => low c 8
/-- Bits as bytes, 0s up to a whole one. -/
def pack (l : List Int) : List Int :=
  if h : l = [] then [] else number (l.take 8 ++ List.replicate (8 - l.length) 0) :: pack (l.drop 8)
termination_by l.length
decreasing_by
  have := List.length_pos_iff.2 h
  simp only [List.length_drop]; omega

theorem foldl_number (l : List Int) : ∀ a : Int, l.foldl (fun v b => 2 * v + b) a = a * 2 ^ l.length + number l := by
  induction l with
  | nil => intro a; simp [number]
  | cons x l ih =>
    intro a
    simp only [List.foldl_cons, List.length_cons, number]
    rw [ih, ih (2 * 0 + x), Int.pow_succ, Int.add_mul, Int.mul_zero, Int.zero_add, Int.mul_comm (2 ^ l.length) 2, ← Int.mul_assoc, Int.mul_comm 2 a, Int.add_assoc]
theorem number_nil : number [] = 0 := rfl
theorem number_append (l m : List Int) : number (l ++ m) = number l * 2 ^ m.length + number m := by
  rw [number, List.foldl_append]; exact foldl_number m _
theorem number_cons (x : Int) (l : List Int) : number (x :: l) = x * 2 ^ l.length + number l := by
  rw [show x :: l = [x] ++ l from rfl, number_append]; simp [number]
theorem number_snoc (l : List Int) (x : Int) : number (l ++ [x]) = 2 * number l + x := by
  rw [number, List.foldl_append]; rfl

theorem pow_pos (n : Nat) : (0 : Int) < 2 ^ n := Int.pow_pos (by decide)

theorem low_length (n : Nat) : ∀ v, (low v n).length = n := by
  induction n with
  | zero => intro v; rfl
  | succ n ih => intro v; simp [low, ih]
theorem low_bits (n : Nat) : ∀ v, Bits (low v n) := by
  induction n with
  | zero => intro v x hx; simp [low] at hx
  | succ n ih =>
    intro v x hx
    simp only [low, List.mem_append, List.mem_singleton] at hx
    rcases hx with hx | hx
    · exact ih _ x hx
    · omega
theorem Bits.append {l m : List Int} (h : Bits l) (h' : Bits m) : Bits (l ++ m) := by
  intro x hx; rcases List.mem_append.1 hx with hx | hx
  · exact h x hx
  · exact h' x hx
theorem Bits.nil : Bits [] := fun x hx => by simp at hx
theorem Bits.cons {x : Int} {l : List Int} (hx : x = 0 ∨ x = 1) (h : Bits l) : Bits (x :: l) := by
  intro y hy; rcases List.mem_cons.1 hy with rfl | hy
  · exact hx
  · exact h y hy
theorem Bits.left {l m : List Int} (h : Bits (l ++ m)) : Bits l := fun x hx => h x (List.mem_append_left _ hx)
theorem Bits.right {l m : List Int} (h : Bits (l ++ m)) : Bits m := fun x hx => h x (List.mem_append_right _ hx)
theorem Bits.take {l : List Int} (h : Bits l) (n : Nat) : Bits (l.take n) := fun _ hx => h _ (List.mem_of_mem_take hx)
theorem Bits.drop {l : List Int} (h : Bits l) (n : Nat) : Bits (l.drop n) := fun x hx => h x (List.mem_of_mem_drop hx)
theorem Bits.zeros (n : Nat) : Bits (List.replicate n (0 : Int)) := fun _ hx => .inl (List.eq_of_mem_replicate hx)
theorem Bits.ones (n : Nat) : Bits (List.replicate n (1 : Int)) := fun _ hx => .inr (List.eq_of_mem_replicate hx)
theorem Bytes.nil : Bytes [] := fun x hx => by simp at hx
theorem Bytes.append {l m : List Int} (h : Bytes l) (h' : Bytes m) : Bytes (l ++ m) := by
  intro x hx; rcases List.mem_append.1 hx with hx | hx
  · exact h x hx
  · exact h' x hx
theorem Bytes.cons {x : Int} {l : List Int} (hx : 0 ≤ x ∧ x < 256) (h : Bytes l) : Bytes (x :: l) := by
  intro y hy; rcases List.mem_cons.1 hy with rfl | hy
  · exact hx
  · exact h y hy
theorem Bytes.take {l : List Int} (h : Bytes l) (n : Nat) : Bytes (l.take n) := fun x hx => h x (List.mem_of_mem_take hx)
theorem Bytes.drop {l : List Int} (h : Bytes l) (n : Nat) : Bytes (l.drop n) := fun x hx => h x (List.mem_of_mem_drop hx)

theorem number_range {l : List Int} (h : Bits l) : 0 ≤ number l ∧ number l < 2 ^ l.length := by
  induction l with
  | nil => simp [number]
  | cons x l ih =>
    have hx := h x (by simp)
    have ih := ih (fun y hy => h y (by simp [hy]))
    rw [number_cons, List.length_cons, Int.pow_succ]
    have := pow_pos l.length
    rcases hx with rfl | rfl
    · omega
    · omega
theorem mod_two_mul (v m : Int) (hm : 0 < m) : v % (m * 2) = 2 * (v / 2 % m) + v % 2 := by
  have h1 := Int.mul_ediv_add_emod v 2
  have h2 := Int.mul_ediv_add_emod (v / 2) m
  have h3 := Int.emod_nonneg (v / 2) (by omega : m ≠ 0)
  have h4 := Int.emod_lt_of_pos (v / 2) hm
  have h5 : v = m * 2 * (v / 2 / m) + (2 * (v / 2 % m) + v % 2) := by
    have : m * 2 * (v / 2 / m) = 2 * (m * (v / 2 / m)) := by rw [Int.mul_comm m 2, Int.mul_assoc]
    rw [this]; omega
  conv => lhs; rw [h5]
  rw [Int.mul_add_emod_self_left]
  exact Int.emod_eq_of_lt (by omega) (by omega)
theorem number_low (n : Nat) : ∀ v, number (low v n) = v % 2 ^ n := by
  induction n with
  | zero => intro v; simp [low, number]
  | succ n ih => intro v; rw [low, number_snoc, ih, Int.pow_succ, mod_two_mul _ _ (pow_pos n)]
theorem low_number {l : List Int} (h : Bits l) : low (number l) l.length = l := by
  suffices H : ∀ n (l : List Int), l.length = n → Bits l → low (number l) n = l from H _ l rfl h
  intro n
  induction n with
  | zero => intro l hl _; rw [List.length_eq_zero_iff.1 hl]; rfl
  | succ n ih =>
    intro l hl hb
    have hne : l ≠ [] := by intro e; simp [e] at hl
    rw [← List.dropLast_concat_getLast hne] at hb ⊢
    have hx := hb (l.getLast hne) (by simp)
    rw [number_snoc, low]
    have e1 : (2 * number l.dropLast + l.getLast hne) / 2 = number l.dropLast := by omega
    have e2 : (2 * number l.dropLast + l.getLast hne) % 2 = l.getLast hne := by omega
    rw [e1, e2, ih _ (by simp; omega) hb.left]
theorem low_mod (n : Nat) (v : Int) : low (v % 2 ^ n) n = low v n := by
  have := low_number (low_bits n v)
  rwa [low_length, number_low] at this
theorem low_congr {n : Nat} {v u : Int} (h : v % 2 ^ n = u % 2 ^ n) : low v n = low u n := by rw [← low_mod, h, low_mod]
theorem low_inj {n : Nat} {v u : Int} (h : low v n = low u n) : v % 2 ^ n = u % 2 ^ n := by rw [← number_low, h, number_low]
theorem number_inj {l m : List Int} (hl : Bits l) (hm : Bits m) (h : l.length = m.length) (e : number l = number m) : l = m := by
  rw [← low_number hl, ← low_number hm, h, e]
theorem low_append (m : Nat) : ∀ (n : Nat) (v : Int), low v (n + m) = low (v / 2 ^ m) n ++ low v m := by
  induction m with
  | zero => intro n v; simp [low]
  | succ m ih =>
    intro n v
    rw [← Nat.add_assoc, low, low, ih, List.append_assoc]
    congr 2
    rw [Int.pow_succ, Int.mul_comm, Int.ediv_ediv_of_nonneg (by decide)]
theorem low_zero (n : Nat) : low 0 n = List.replicate n 0 := by
  induction n with
  | zero => rfl
  | succ n ih => rw [low, show (0 : Int) / 2 = 0 from rfl, ih, List.replicate_succ']; rfl

theorem flat_nil : flat [] = [] := rfl
theorem flat_cons (c : Int) (b : List Int) : flat (c :: b) = low c 8 ++ flat b := by simp [flat]
theorem flat_append (b c : List Int) : flat (b ++ c) = flat b ++ flat c := by simp [flat]
theorem flat_length (b : List Int) : (flat b).length = 8 * b.length := by
  induction b with
  | nil => rfl
  | cons c b ih => rw [flat_cons, List.length_append, low_length, ih, List.length_cons]; omega
theorem flat_bits (b : List Int) : Bits (flat b) := by
  induction b with
  | nil => exact Bits.nil
  | cons c b ih => rw [flat_cons]; exact (low_bits 8 c).append ih
theorem flat_drop (b : List Int) (k : Nat) : (flat b).drop (8 * k) = flat (b.drop k) := by
  induction k generalizing b with
  | zero => simp
  | succ k ih =>
    cases b with
    | nil => simp [flat]
    | cons c b =>
      rw [flat_cons, List.drop_succ_cons, ← ih, List.drop_append, low_length, List.drop_eq_nil_of_le (by rw [low_length]; omega), List.nil_append]
      congr 1
theorem flat_take (b : List Int) (k : Nat) : (flat b).take (8 * k) = flat (b.take k) := by
  induction k generalizing b with
  | zero => simp [flat]
  | succ k ih =>
    cases b with
    | nil => simp [flat]
    | cons c b =>
      rw [flat_cons, List.take_succ_cons, flat_cons, ← ih, List.take_append, low_length, List.take_of_length_le (by rw [low_length]; omega)]
      congr 2

theorem pack_nil : pack [] = [] := by rw [pack]; simp
theorem pack_ne {l : List Int} (h : l ≠ []) : pack l = number (l.take 8 ++ List.replicate (8 - l.length) 0) :: pack (l.drop 8) := by rw [pack]; simp [h]
theorem pack_block {l : List Int} (m : List Int) (h : l.length = 8) : pack (l ++ m) = number l :: pack m := by
  have hne : l ++ m ≠ [] := by intro e; rw [List.append_eq_nil_iff] at e; rw [e.1] at h; simp at h
  rw [pack_ne hne, List.take_left' h, List.drop_left' h, List.length_append, show 8 - (l.length + m.length) = 0 from by omega]; simp
theorem pack_short {l : List Int} (h0 : l ≠ []) (h : l.length ≤ 8) : pack l = [number (l ++ List.replicate (8 - l.length) 0)] := by
  rw [pack_ne h0, List.take_of_length_le h, List.drop_eq_nil_of_le h, pack_nil]
theorem pack_low (c : Int) (hc : 0 ≤ c ∧ c < 256) (m : List Int) : pack (low c 8 ++ m) = c :: pack m := by
  rw [pack_block m (low_length 8 c), number_low, Int.emod_eq_of_lt hc.1 (by simpa using hc.2)]
theorem pack_flat {b : List Int} (h : Bytes b) (m : List Int) : pack (flat b ++ m) = b ++ pack m := by
  induction b with
  | nil => simp [flat]
  | cons c b ih => rw [flat_cons, List.append_assoc, pack_low c (h c (by simp)), ih (fun x hx => h x (by simp [hx]))]; rfl
theorem pack_flat' {b : List Int} (h : Bytes b) : pack (flat b) = b := by
  have := pack_flat h []
  rwa [List.append_nil, pack_nil, List.append_nil] at this

/-- By chunks of 8 bits. -/
theorem by_eight {P : List Int → Prop} (h0 : P []) (hs : ∀ l, l ≠ [] → l.length < 8 → P l) (hb : ∀ l m, l.length = 8 → P m → P (l ++ m)) (l : List Int) : P l := by
  suffices H : ∀ n (l : List Int), l.length ≤ n → P l from H _ l (Nat.le_refl _)
  intro n
  induction n with
  | zero => intro l hl; obtain rfl : l = [] := List.length_eq_zero_iff.1 (by omega); exact h0
  | succ n ih =>
    intro l hl
    by_cases e : l = []
    · rw [e]; exact h0
    · by_cases h8 : l.length < 8
      · exact hs l e h8
      · rw [← List.take_append_drop 8 l]
        exact hb _ _ (by simp; omega) (ih _ (by simp; omega))
theorem pack_length (l : List Int) : (pack l).length = (l.length + 7) / 8 := by
  induction l using by_eight with
  | h0 => simp [pack_nil]
  | hs l e h => rw [pack_short e (by omega)]; have := List.length_pos_iff.2 e; simp; omega
  | hb l m h ih => rw [pack_block m h]; simp [ih, h]; omega
theorem pack_bytes {l : List Int} (h : Bits l) : Bytes (pack l) := by
  induction l using by_eight with
  | h0 => rw [pack_nil]; exact Bytes.nil
  | hs l e h8 =>
    rw [pack_short e (by omega)]
    have := number_range (h.append (Bits.zeros (8 - l.length)))
    rw [List.length_append, List.length_replicate, show l.length + (8 - l.length) = 8 from by omega] at this
    exact Bytes.cons (by simpa using this) Bytes.nil
  | hb l m h8 ih =>
    rw [pack_block m h8]
    have := number_range h.left
    rw [h8] at this
    exact Bytes.cons (by simpa using this) (ih h.right)
theorem flat_pack {l : List Int} (h : Bits l) : flat (pack l) = l ++ List.replicate (8 * ((l.length + 7) / 8) - l.length) 0 := by
  induction l using by_eight with
  | h0 => simp [pack_nil, flat]
  | hs l e h8 =>
    have hp := List.length_pos_iff.2 e
    have hl := low_number (h.append (Bits.zeros (8 - l.length)))
    rw [List.length_append, List.length_replicate, show l.length + (8 - l.length) = 8 from by omega] at hl
    rw [pack_short e (by omega), flat_cons, flat_nil, List.append_nil, hl, show 8 * ((l.length + 7) / 8) - l.length = 8 - l.length from by omega]
  | hb l m h8 ih =>
    have hl := low_number h.left
    rw [h8] at hl
    rw [pack_block m h8, flat_cons, hl, ih h.right, List.append_assoc, List.length_append]
    congr 3
    omega
theorem take_flat_pack {l : List Int} (h : Bits l) : (flat (pack l)).take l.length = l := by
  rw [flat_pack h, List.take_left' rfl]
theorem pack_inj {l m : List Int} (hl : Bits l) (hm : Bits m) (hn : l.length = m.length) (h : pack l = pack m) : l = m := by
  rw [← take_flat_pack hl, h, hn, take_flat_pack hm]
theorem pack_zeros {l : List Int} (h : Bits l) (z : Nat) : (pack (l ++ List.replicate z 0)).take ((l.length + 7) / 8) = pack l := by
  have h1 : (pack (l ++ List.replicate z 0)).take ((l.length + 7) / 8) = pack ((flat (pack (l ++ List.replicate z 0))).take (8 * ((l.length + 7) / 8))) := by
    rw [flat_take, pack_flat' ((pack_bytes (h.append (Bits.zeros z))).take _)]
  have hz : Bits (l ++ List.replicate z 0) := h.append (Bits.zeros z)
  rw [h1, flat_pack hz]
  have h2 : (l ++ List.replicate z (0 : Int) ++ List.replicate (8 * (((l ++ List.replicate z (0 : Int)).length + 7) / 8) - (l ++ List.replicate z (0 : Int)).length) (0 : Int)).take (8 * ((l.length + 7) / 8)) = flat (pack l) := by
    rw [flat_pack h, List.append_assoc, List.replicate_append_replicate, List.take_append, List.take_of_length_le (by omega), List.take_replicate]
    congr 2
    simp only [List.length_append, List.length_replicate]
    omega
  rw [h2, pack_flat' (pack_bytes h)]

/-- One bit more, at the begin of a byte. -/
theorem pack_snoc0 {l : List Int} (h : l.length % 8 = 0) (x : Int) : pack (l ++ [x]) = pack l ++ [x * 128] := by
  induction l using by_eight with
  | h0 => rw [List.nil_append, pack_short (by simp) (by simp), pack_nil]; simp [number, List.replicate]; omega
  | hs l e h8 => have := List.length_pos_iff.2 e; omega
  | hb l m h8 ih => rw [List.append_assoc, pack_block _ h8, pack_block _ h8, ih (by rw [List.length_append] at h; omega)]; rfl
theorem number_zeros (l : List Int) (n : Nat) : number (l ++ List.replicate n 0) = number l * 2 ^ n := by
  have h0 : number (List.replicate n 0) = 0 := by rw [← low_zero, number_low]; simp
  rw [number_append, List.length_replicate, h0, Int.add_zero]
/-- One bit more, within a byte. -/
theorem pack_snoc {l : List Int} (h : l.length % 8 ≠ 0) (x : Int) : pack (l ++ [x]) = (pack l).set (l.length / 8) ((pack l).getD (l.length / 8) 0 + x * 2 ^ (7 - l.length % 8)) := by
  induction l using by_eight with
  | h0 => simp at h
  | hs l e h8 =>
    rw [pack_short (by simp) (by simp; omega), pack_short e (by omega), show l.length / 8 = 0 from by omega, show l.length % 8 = l.length from by omega]
    simp only [List.set_cons_zero, List.getD_cons_zero, List.length_append, List.length_singleton]
    rw [number_zeros, number_zeros, number_snoc, show 8 - (l.length + 1) = 7 - l.length from by omega, show 8 - l.length = (7 - l.length) + 1 from by omega, Int.pow_succ, Int.add_mul]
    congr 2
    rw [Int.mul_comm 2 (number l), Int.mul_assoc, Int.mul_comm 2]
  | hb l m h8 ih =>
    rw [List.append_assoc, pack_block _ h8, pack_block _ h8, ih (by rw [List.length_append] at h; omega), List.length_append, h8, show (8 + m.length) / 8 = m.length / 8 + 1 from by omega, show (8 + m.length) % 8 = m.length % 8 from by omega]
    simp

theorem pack_mod8 {l : List Int} (h : l.length % 8 = 0) (m : List Int) : pack (l ++ m) = pack l ++ pack m := by
  induction l using by_eight with
  | h0 => simp [pack_nil]
  | hs l e h8 => have := List.length_pos_iff.2 e; omega
  | hb l m' h8 ih => rw [List.append_assoc, pack_block _ h8, pack_block _ h8, ih (by rw [List.length_append] at h; omega)]; rfl
/-- The last byte, if it isn't whole: its low bits are 0. -/
theorem pack_last {l : List Int} (h : l.length % 8 ≠ 0) : ∃ t : Int, (pack l).getD (l.length / 8) 0 = t * 2 ^ (8 - l.length % 8) := by
  induction l using by_eight with
  | h0 => simp at h
  | hs l e h8 =>
    rw [pack_short e (by omega), show l.length / 8 = 0 from by omega, show l.length % 8 = l.length from by omega]
    exact ⟨number l, by simp only [List.getD_cons_zero]; rw [number_zeros]⟩
  | hb l m h8 ih =>
    obtain ⟨t, ht⟩ := ih (by rw [List.length_append] at h; omega)
    refine ⟨t, ?_⟩
    rw [pack_block _ h8, List.length_append, h8, show (8 + m.length) / 8 = m.length / 8 + 1 from by omega, show (8 + m.length) % 8 = m.length % 8 from by omega, ← ht]
    simp
theorem low_one (v : Int) : low v 1 = [v % 2] := rfl
theorem low_top (v : Int) (m : Nat) : low v (m + 1) = (v / 2 ^ m % 2) :: low v m := by
  rw [Nat.add_comm, low_append, low_one]; rfl
/-- One byte more, behind bits that aren't whole bytes. -/
theorem pack_byte {l : List Int} (h : l.length % 8 ≠ 0) (c : Int) (hc : 0 ≤ c ∧ c < 256) : pack (l ++ low c 8) = (pack l).set (l.length / 8) ((pack l).getD (l.length / 8) 0 + c / 2 ^ (l.length % 8)) ++ [c * 2 ^ (8 - l.length % 8) % 256] := by
  induction l using by_eight with
  | h0 => simp at h
  | hs l e h8 =>
    have hp := List.length_pos_iff.2 e
    rw [pack_short e (by omega), show l.length / 8 = 0 from by omega, show l.length % 8 = l.length from by omega]
    simp only [List.set_cons_zero, List.getD_cons_zero]
    have hlow : low c 8 = low (c / 2 ^ l.length) (8 - l.length) ++ low c l.length := by
      rw [← low_append, show 8 - l.length + l.length = 8 from by omega]
    have hq : c / 2 ^ l.length % 2 ^ (8 - l.length) = c / 2 ^ l.length := by
      have h2 : (2 : Int) ^ l.length * 2 ^ (8 - l.length) = 256 := by rw [← Int.pow_add, show l.length + (8 - l.length) = 8 from by omega]; rfl
      have h3 := pow_pos l.length
      exact Int.emod_eq_of_lt (Int.ediv_nonneg hc.1 (by omega)) (Int.ediv_lt_of_lt_mul h3 (by rw [Int.mul_comm, h2]; exact hc.2))
    have hr : c % 2 ^ l.length * 2 ^ (8 - l.length) = c * 2 ^ (8 - l.length) % 256 := by
      have h2 : (2 : Int) ^ l.length * 2 ^ (8 - l.length) = 256 := by rw [← Int.pow_add, show l.length + (8 - l.length) = 8 from by omega]; rfl
      rw [← h2, Int.mul_comm c, Int.mul_comm (2 ^ l.length) (2 ^ (8 - l.length)), Int.mul_emod_mul_of_pos _ _ (pow_pos _), Int.mul_comm]
    rw [hlow, ← List.append_assoc, pack_block _ (by rw [List.length_append, low_length]; omega), pack_short (by intro h0; have := congrArg List.length h0; rw [low_length, List.length_nil] at this; omega) (by rw [low_length]; omega)]
    rw [low_length, number_zeros, number_zeros, number_append, low_length, number_low, number_low, hq, hr]
    rfl
  | hb l m h8 ih =>
    rw [List.append_assoc, pack_block _ h8, pack_block _ h8, ih (by rw [List.length_append] at h; omega), List.length_append, h8, show (8 + m.length) / 8 = m.length / 8 + 1 from by omega, show (8 + m.length) % 8 = m.length % 8 from by omega]
    simp

end Bs
