/- What Go's operations on bits come to, in plain numbers. -/
import Derived.Laws.Entries
import Derived.RowKit
set_option linter.unusedVariables false
set_option linter.unusedSimpArgs false
namespace Ib
open Go

theorem wrap_u64 (n : Int) : IntKind.u64.wrap n = n % 18446744073709551616 := by simp [IntKind.wrap, IntKind.bits, IntKind.signed]
theorem wrap_u32 (n : Int) : IntKind.u32.wrap n = n % 4294967296 := by simp [IntKind.wrap, IntKind.bits, IntKind.signed]
theorem wrap_u8 (n : Int) : IntKind.u8.wrap n = n % 256 := by simp [IntKind.wrap, IntKind.bits, IntKind.signed]
theorem wrap_i64 (n : Int) : IntKind.i64.wrap n = (n + 9223372036854775808) % 18446744073709551616 - 9223372036854775808 := by
  simp [IntKind.wrap, IntKind.bits, IntKind.signed]
  split <;> omega
theorem wf_i64 {a : Int} (h : (Lit.int .i64 a).wf = true) : -9223372036854775808 ≤ a ∧ a < 9223372036854775808 := by
  simp [Lit.wf, IntKind.min, IntKind.max, IntKind.bits, IntKind.signed] at h; omega
theorem wf_u64 {a : Int} (h : (Lit.int .u64 a).wf = true) : 0 ≤ a ∧ a < 18446744073709551616 := by
  simp [Lit.wf, IntKind.min, IntKind.max, IntKind.bits, IntKind.signed] at h; omega
theorem wf_u8 {a : Int} (h : (Lit.int .u8 a).wf = true) : 0 ≤ a ∧ a < 256 := by
  simp [Lit.wf, IntKind.min, IntKind.max, IntKind.bits, IntKind.signed] at h; omega
theorem wf_u32 {a : Int} (h : (Lit.int .u32 a).wf = true) : 0 ≤ a ∧ a < 4294967296 := by
  simp [Lit.wf, IntKind.min, IntKind.max, IntKind.bits, IntKind.signed] at h; omega

theorem ofInt_toNat (w : Nat) (x : Int) (h0 : 0 ≤ x) (h : x < 2 ^ w) : (BitVec.ofInt w x).toNat = x.toNat := by
  rw [BitVec.toNat_ofInt]
  congr 1
  exact Int.emod_eq_of_lt h0 (by exact_mod_cast h)
theorem xor_u64 (x y : Int) (hx : 0 ≤ x ∧ x < 18446744073709551616) (hy : 0 ≤ y ∧ y < 18446744073709551616) : bits .xor .u64 x y = ((x.toNat ^^^ y.toNat : Nat) : Int) := by
  simp only [bits, wrap_u64]
  rw [show IntKind.u64.bits = 64 from rfl, BitVec.toNat_xor, ofInt_toNat 64 x hx.1 hx.2, ofInt_toNat 64 y hy.1 hy.2]
  have : x.toNat ^^^ y.toNat < 2 ^ 64 := Nat.xor_lt_two_pow (by omega) (by omega)
  omega
theorem xor_u64_ones (x : Int) (hx : 0 ≤ x ∧ x < 18446744073709551616) : bits .xor .u64 x 18446744073709551615 = 18446744073709551615 - x := by
  simp only [bits, wrap_u64]
  rw [show IntKind.u64.bits = 64 from rfl, show BitVec.ofInt 64 18446744073709551615 = BitVec.allOnes 64 from by decide, BitVec.xor_allOnes, BitVec.toNat_not, ofInt_toNat 64 x hx.1 hx.2]
  omega
theorem xor_u64_zero (x : Int) (hx : 0 ≤ x ∧ x < 18446744073709551616) : bits .xor .u64 x 0 = x := by
  rw [xor_u64 x 0 hx (by omega)]; simp; omega
theorem xor_i64_ones (x : Int) (hx : -9223372036854775808 ≤ x ∧ x < 9223372036854775808) : bits .xor .i64 x (-1) = -1 - x := by
  simp only [bits, wrap_i64]
  rw [show IntKind.i64.bits = 64 from rfl, show BitVec.ofInt 64 (-1) = BitVec.allOnes 64 from by decide, BitVec.xor_allOnes, BitVec.toNat_not, BitVec.toNat_ofInt]
  omega
theorem xor_i64_zero (x : Int) (hx : -9223372036854775808 ≤ x ∧ x < 9223372036854775808) : bits .xor .i64 x 0 = x := by
  simp only [bits, wrap_i64]
  rw [show IntKind.i64.bits = 64 from rfl, show BitVec.ofInt 64 0 = 0#64 from by decide, BitVec.xor_zero, BitVec.toNat_ofInt]
  omega
theorem and_u64 (x y : Int) (hx : 0 ≤ x ∧ x < 18446744073709551616) (hy : 0 ≤ y ∧ y < 18446744073709551616) : bits .and .u64 x y = ((x.toNat &&& y.toNat : Nat) : Int) := by
  simp only [bits, wrap_u64]
  rw [show IntKind.u64.bits = 64 from rfl, BitVec.toNat_and, ofInt_toNat 64 x hx.1 hx.2, ofInt_toNat 64 y hy.1 hy.2]
  have : x.toNat &&& y.toNat ≤ x.toNat := Nat.and_le_left
  omega
theorem and_u64_one (x : Int) (hx : 0 ≤ x ∧ x < 18446744073709551616) : bits .and .u64 x 1 = x % 2 := by
  rw [and_u64 x 1 hx (by omega)]
  rw [show (1 : Int).toNat = 2 ^ 1 - 1 from rfl, Nat.and_two_pow_sub_one_eq_mod]; omega
theorem or_u64 (x y : Int) (hx : 0 ≤ x ∧ x < 18446744073709551616) (hy : 0 ≤ y ∧ y < 18446744073709551616) : bits .or .u64 x y = ((x.toNat ||| y.toNat : Nat) : Int) := by
  simp only [bits, wrap_u64]
  rw [show IntKind.u64.bits = 64 from rfl, BitVec.toNat_or, ofInt_toNat 64 x hx.1 hx.2, ofInt_toNat 64 y hy.1 hy.2]
  have : x.toNat ||| y.toNat < 2 ^ 64 := Nat.or_lt_two_pow (by omega) (by omega)
  omega

end Ib
