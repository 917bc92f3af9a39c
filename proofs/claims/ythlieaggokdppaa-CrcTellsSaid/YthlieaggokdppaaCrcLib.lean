/- Plain facts on the register of layer 13: nothing of the program. -/
set_option linter.unusedVariables false
set_option linter.unusedSimpArgs false
namespace Crc

abbrev Reg := BitVec 32
def step (v : Reg) : Reg := (v >>> 1) ^^^ (if v.getLsbD 0 then 0xedb88320#32 else 0#32)
def steps : Nat → Reg → Reg
  | 0, v => v
  | n + 1, v => steps n (step v)
def eat (v : Reg) (b : List Int) : Reg := b.foldl (fun v c => steps 8 (v ^^^ BitVec.ofInt 32 c)) v

theorem step_xor (a b : Reg) : step (a ^^^ b) = step a ^^^ step b := by
  unfold step
  rw [BitVec.ushiftRight_xor_distrib, BitVec.getLsbD_xor]
  cases a.getLsbD 0 <;> cases b.getLsbD 0 <;> simp [BitVec.xor_assoc]
  · rw [BitVec.xor_comm (0xedb88320#32) (b >>> 1)]
  · rw [← BitVec.xor_assoc (0xedb88320#32), BitVec.xor_comm (0xedb88320#32) (b >>> 1), BitVec.xor_assoc (b >>> 1), BitVec.xor_self, BitVec.xor_zero]
theorem step_zero {v : Reg} (h : step v = 0#32) : v = 0#32 := by
  have hm : (step v).getLsbD 31 = v.getLsbD 0 := by
    unfold step
    rw [BitVec.getLsbD_xor, BitVec.getLsbD_ushiftRight, BitVec.getLsbD_of_ge v (1 + 31) (by omega)]
    cases v.getLsbD 0 <;> simp <;> decide
  rw [h] at hm
  have h0 : v.getLsbD 0 = false := by rw [← hm]; simp
  have hs : v >>> 1 = 0#32 := by
    unfold step at h
    rw [h0] at h
    simpa using h
  apply BitVec.eq_of_getLsbD_eq
  intro i hi
  cases i with
  | zero => rw [h0]; simp
  | succ i =>
    have := congrArg (fun x : Reg => x.getLsbD i) hs
    simp only [BitVec.getLsbD_ushiftRight] at this
    rw [Nat.add_comm 1 i] at this
    rw [this]; simp
theorem steps_xor (n : Nat) : ∀ a b : Reg, steps n (a ^^^ b) = steps n a ^^^ steps n b := by
  induction n with
  | zero => intro a b; rfl
  | succ n ih => intro a b; rw [steps, step_xor, ih]; rfl
theorem steps_zero (n : Nat) : ∀ {v : Reg}, steps n v = 0#32 → v = 0#32 := by
  induction n with
  | zero => intro v h; exact h
  | succ n ih => intro v h; exact step_zero (ih h)
theorem steps_inj (n : Nat) {a b : Reg} (h : steps n a = steps n b) : a = b := by
  have : steps n (a ^^^ b) = 0#32 := by rw [steps_xor, h, BitVec.xor_self]
  have := steps_zero n this
  have h2 := congrArg (· ^^^ b) this
  simpa [BitVec.xor_assoc] using h2
theorem steps_add (m : Nat) : ∀ (n : Nat) (v : Reg), steps (n + m) v = steps m (steps n v) := by
  intro n
  induction n with
  | zero => intro v; rw [Nat.zero_add]; rfl
  | succ n ih => intro v; rw [show n + 1 + m = (n + m) + 1 from by omega, steps, ih]; rfl
/-- Bits that are 0 are but shifted out. -/
theorem steps_low (n : Nat) : ∀ (v : Reg), (∀ i, i < n → v.getLsbD i = false) → steps n v = v >>> n := by
  induction n with
  | zero => intro v _; simp [steps]
  | succ n ih =>
    intro v h
    have h1 : step v = v >>> 1 := by unfold step; rw [h 0 (by omega)]; simp
    rw [steps, h1, ih]
    · apply BitVec.eq_of_getLsbD_eq
      intro i hi
      simp only [BitVec.getLsbD_ushiftRight]
      congr 1
      omega
    · intro i hi
      rw [BitVec.getLsbD_ushiftRight]
      exact h (1 + i) (by omega)
theorem eat_append (v : Reg) (a b : List Int) : eat v (a ++ b) = eat (eat v a) b := by simp [eat]
theorem eat_inj (b : List Int) : ∀ {u v : Reg}, eat u b = eat v b → u = v := by
  induction b with
  | nil => intro u v h; exact h
  | cons c b ih =>
    intro u v h
    have h1 : steps 8 (u ^^^ BitVec.ofInt 32 c) = steps 8 (v ^^^ BitVec.ofInt 32 c) := ih h
    have h2 := congrArg (· ^^^ BitVec.ofInt 32 c) (steps_inj 8 h1)
    simpa [BitVec.xor_assoc] using h2

theorem steps_in (n : Nat) (hn : n ≤ 32) (a c : Reg) (h : c.toNat < 2 ^ (32 - n)) : steps n a ^^^ c = steps n (a ^^^ (c <<< n)) := by
  rw [steps_xor]
  congr 1
  rw [steps_low n]
  · apply BitVec.eq_of_getLsbD_eq
    intro i hi
    rw [BitVec.getLsbD_ushiftRight, BitVec.getLsbD_shiftLeft]
    by_cases hc : n + i < 32
    · have h2 : n + i - n = i := by omega
      simp [hc, h2]
    · have : c.getLsbD i = false := by
        rw [BitVec.getLsbD]
        exact Nat.testBit_lt_two_pow (Nat.lt_of_lt_of_le h (Nat.pow_le_pow_right (by decide) (by omega)))
      simp [hc, this]
  · intro i hi
    rw [BitVec.getLsbD_shiftLeft]
    simp [hi]
/-- Four bytes, the first one the lowest. -/
def word (a b c d : Nat) : Reg := BitVec.ofNat 32 a ^^^ (BitVec.ofNat 32 b <<< 8) ^^^ (BitVec.ofNat 32 c <<< 16) ^^^ (BitVec.ofNat 32 d <<< 24)
theorem ofNat_small {c n : Nat} (h : c < 256) (hn : n ≤ 24) : (BitVec.ofNat 32 c).toNat < 2 ^ (32 - n) := by
  rw [BitVec.toNat_ofNat]
  have : 2 ^ 8 ≤ 2 ^ (32 - n) := Nat.pow_le_pow_right (by decide) (by omega)
  omega
theorem eat_four (v : Reg) (a b c d : Nat) (hb : b < 256) (hc : c < 256) (hd : d < 256) : eat v [(a : Int), (b : Int), (c : Int), (d : Int)] = steps 32 (v ^^^ word a b c d) := by
  simp only [eat, List.foldl_cons, List.foldl_nil, BitVec.ofInt_natCast]
  rw [steps_in 8 (by decide) _ _ (ofNat_small hb (by decide)), ← steps_add 8 8, steps_in 16 (by decide) _ _ (ofNat_small hc (by decide)), ← steps_add 8 16, steps_in 24 (by decide) _ _ (ofNat_small hd (by decide)), ← steps_add 8 24]
  simp only [word, BitVec.xor_assoc]
theorem word_of (n : Nat) : word (n % 256) (n / 256 % 256) (n / 65536 % 256) (n / 16777216 % 256) = BitVec.ofNat 32 n := by
  have bit : ∀ (m i : Nat), (m % 256).testBit i = (decide (i < 8) && m.testBit i) := fun m i => by
    rw [show (256 : Nat) = 2 ^ 8 from rfl, Nat.testBit_mod_two_pow]
  have sh : ∀ (j i : Nat), (n / 2 ^ j).testBit i = n.testBit (j + i) := fun j i => by
    rw [← Nat.shiftRight_eq_div_pow, Nat.testBit_shiftRight]
  apply BitVec.eq_of_getLsbD_eq
  intro i hi
  simp only [word, BitVec.getLsbD_xor, BitVec.getLsbD_shiftLeft, BitVec.getLsbD_ofNat, bit]
  rw [show (256 : Nat) = 2 ^ 8 from rfl, show (65536 : Nat) = 2 ^ 16 from rfl, show (16777216 : Nat) = 2 ^ 24 from rfl, sh, sh, sh]
  by_cases h8 : i < 8
  · simp [h8, hi, show i < 16 from by omega, show i < 24 from by omega]
  · by_cases h16 : i < 16
    · simp [h8, h16, hi, show i < 24 from by omega, show i - 8 < 8 from by omega, show i - 8 < 32 from by omega, show 8 + (i - 8) = i from by omega]
    · by_cases h24 : i < 24
      · simp [h8, h16, h24, hi, show ¬ (i - 8 < 8) from by omega, show i - 16 < 8 from by omega, show i - 16 < 32 from by omega, show 16 + (i - 16) = i from by omega]
      · simp [h8, h16, h24, hi, show ¬ (i - 8 < 8) from by omega, show ¬ (i - 16 < 8) from by omega, show i - 24 < 8 from by omega, show i - 24 < 32 from by omega, show 24 + (i - 24) = i from by omega]
theorem word_xor (a b c d a' b' c' d' : Nat) : word (a ^^^ a') (b ^^^ b') (c ^^^ c') (d ^^^ d') = word a b c d ^^^ word a' b' c' d' := by
  have e : ∀ x y : Nat, BitVec.ofNat 32 (x ^^^ y) = BitVec.ofNat 32 x ^^^ BitVec.ofNat 32 y := fun x y => by
    apply BitVec.eq_of_getLsbD_eq
    intro i hi
    simp [Nat.testBit_xor, hi]
  simp only [word, e, BitVec.shiftLeft_xor_distrib]
  apply BitVec.eq_of_getLsbD_eq
  intro i hi
  simp only [BitVec.getLsbD_xor]
  generalize (BitVec.ofNat 32 a).getLsbD i = p1
  generalize (BitVec.ofNat 32 a').getLsbD i = p2
  generalize (BitVec.ofNat 32 b <<< 8).getLsbD i = p3
  generalize (BitVec.ofNat 32 b' <<< 8).getLsbD i = p4
  generalize (BitVec.ofNat 32 c <<< 16).getLsbD i = p5
  generalize (BitVec.ofNat 32 c' <<< 16).getLsbD i = p6
  generalize (BitVec.ofNat 32 d <<< 24).getLsbD i = p7
  generalize (BitVec.ofNat 32 d' <<< 24).getLsbD i = p8
  revert p1 p2 p3 p4 p5 p6 p7 p8
  decide
/-- Turned by a word that is not 0 the register is another one, whatever comes behind. -/
theorem turned (v : Reg) (x y : Nat) (b : List Int) (hy : y < 2 ^ 32) (c0 c1 c2 c3 : Nat) (h0 : c0 = (x % 256) ^^^ (y % 256)) (h1 : c1 = (x / 256 % 256) ^^^ (y / 256 % 256)) (h2 : c2 = (x / 65536 % 256) ^^^ (y / 65536 % 256)) (h3 : c3 = (x / 16777216 % 256) ^^^ (y / 16777216 % 256)) :
    eat v ([((x % 256 : Nat) : Int), ((x / 256 % 256 : Nat) : Int), ((x / 65536 % 256 : Nat) : Int), ((x / 16777216 % 256 : Nat) : Int)] ++ b) = eat v ([(c0 : Int), (c1 : Int), (c2 : Int), (c3 : Int)] ++ b) ↔ y = 0 := by
  have lt : ∀ p q : Nat, (p % 256) ^^^ (q % 256) < 256 := fun p q => by
    have := Nat.xor_lt_two_pow (n := 8) (show p % 256 < 2 ^ 8 by omega) (show q % 256 < 2 ^ 8 by omega)
    simpa using this
  rw [eat_append, eat_append, eat_four _ _ _ _ _ (by omega) (by omega) (by omega), eat_four _ _ _ _ _ (by rw [h1]; exact lt _ _) (by rw [h2]; exact lt _ _) (by rw [h3]; exact lt _ _), h0, h1, h2, h3, word_xor, word_of, word_of]
  constructor
  · intro h
    have h1 := steps_inj 32 (eat_inj b h)
    have h2 : BitVec.ofNat 32 y = 0#32 := by
      have := congrArg (fun z => BitVec.ofNat 32 x ^^^ (v ^^^ z)) h1
      simpa [← BitVec.xor_assoc] using (by
        have h3 := congrArg (fun z => (v ^^^ BitVec.ofNat 32 x) ^^^ z) h1
        simp only [BitVec.xor_self] at h3
        rw [← BitVec.xor_assoc v, ← BitVec.xor_assoc (v ^^^ BitVec.ofNat 32 x), BitVec.xor_self, BitVec.zero_xor] at h3
        exact h3.symm : BitVec.ofNat 32 y = 0#32)
    have h3 := congrArg BitVec.toNat h2
    rw [BitVec.toNat_ofNat, Nat.mod_eq_of_lt hy] at h3
    exact h3
  · intro h
    rw [h]
    simp

end Crc
