/- With up to four bytes that stand together turned, so that one of them is another one, layer 13's sum is another one; no condition beside the statement's own bounds of 2000 bytes. -/
import Derived.Test.YthlieaggokdppaaAllx11
import Derived.Test.YthlieaggokdppaaPCrc
set_option linter.unusedVariables false
set_option linter.unusedSimpArgs false
namespace Go.Proofs.Ythlieaggokdppaa.Pure
open Go Go.RowKit Go.Proofs.Ythlieaggokdppaa.All Go.Proofs.YthlieaggokdppaaW.PrintWords Go.Proofs.YthlieaggokdppaaW.PrintLast

theorem xor_u8 (p q : Nat) (hp : p < 256) (hq : q < 256) : Go.bits .xor .u8 (p : Int) (q : Int) = ((p ^^^ q : Nat) : Int) := by
  show IntKind.u8.wrap (((BitVec.ofInt 8 (p : Int)) ^^^ (BitVec.ofInt 8 (q : Int))).toNat : Int) = _
  rw [Ib.wrap_u8, BitVec.ofInt_natCast, BitVec.ofInt_natCast, BitVec.toNat_xor, BitVec.toNat_ofNat, BitVec.toNat_ofNat, Nat.mod_eq_of_lt hp, Nat.mod_eq_of_lt hq]
  have := Nat.xor_lt_two_pow (n := 8) hp hq
  omega
theorem CrcTurned : gaiterlaw13_CrcTurned.Pure := by
  intro a four b by_ _ _ _ hf _ _ _ hy
  have hf := Ib.wf_u32 hf
  have hy := Ib.wf_u32 hy
  obtain ⟨x, rfl⟩ := Int.eq_ofNat_of_zero_le hf.1
  obtain ⟨y, rfl⟩ := Int.eq_ofNat_of_zero_le hy.1
  by_cases hl : (a.length : Int) > 2000 ∨ (b.length : Int) > 2000
  · refine ⟨1, ?_⟩
    unfold gaiterlaw13_CrcTurned.f
    rw [show gaiterlaw13_up.f = some true from rfl]
    simp only [Option.bind_some]
    by_cases h1 : (a.length : Int) > 2000
    · rw [if_pos h1]; rfl
    · rw [if_neg h1, decide_eq_true (hl.resolve_left h1)]; rfl
  · have ha : ¬ (a.length : Int) > 2000 := fun h => hl (.inl h)
    have hb : ¬ (b.length : Int) > 2000 := fun h => hl (.inr h)
    have e0 : ((x : Int)) % 256 = ((x % 256 : Nat) : Int) := by omega
    have e1 : ((x : Int) / 256) % 256 = ((x / 256 % 256 : Nat) : Int) := by omega
    have e2 : ((x : Int) / 65536) % 256 = ((x / 65536 % 256 : Nat) : Int) := by omega
    have e3 : ((x : Int) / 16777216) % 256 = ((x / 16777216 % 256 : Nat) : Int) := by omega
    have f0 : ((y : Int)) % 256 = ((y % 256 : Nat) : Int) := by omega
    have f1 : ((y : Int) / 256) % 256 = ((y / 256 % 256 : Nat) : Int) := by omega
    have f2 : ((y : Int) / 65536) % 256 = ((y / 65536 % 256 : Nat) : Int) := by omega
    have f3 : ((y : Int) / 16777216) % 256 = ((y / 16777216 % 256 : Nat) : Int) := by omega
    have lt : ∀ p : Nat, p % 256 < 256 := fun p => Nat.mod_lt _ (by decide)
    generalize hX : ([((x % 256 : Nat) : Int), ((x / 256 % 256 : Nat) : Int), ((x / 65536 % 256 : Nat) : Int), ((x / 16777216 % 256 : Nat) : Int)] : List Int) = X
    have hr0 : rd X 0 = ((x % 256 : Nat) : Int) := by rw [← hX]; rfl
    have hr1 : rd X 1 = ((x / 256 % 256 : Nat) : Int) := by rw [← hX]; rfl
    have hr2 : rd X 2 = ((x / 65536 % 256 : Nat) : Int) := by rw [← hX]; rfl
    have hr3 : rd X 3 = ((x / 16777216 % 256 : Nat) : Int) := by rw [← hX]; rfl
    have hXl : X.length = 4 := by rw [← hX]; rfl
    generalize hY : ([(((x % 256) ^^^ (y % 256) : Nat) : Int), (((x / 256 % 256) ^^^ (y / 256 % 256) : Nat) : Int), (((x / 65536 % 256) ^^^ (y / 65536 % 256) : Nat) : Int), (((x / 16777216 % 256) ^^^ (y / 16777216 % 256) : Nat) : Int)] : List Int) = Y
    have hYl : Y.length = 4 := by rw [← hY]; rfl
    obtain ⟨K1, h1⟩ := PCrc.sum_is (a ++ X ++ b) (by simp; omega)
    obtain ⟨K2, h2⟩ := PCrc.sum_is (a ++ Y ++ b) (by simp; omega)
    replace h1 : ∀ k, K1 ≤ k → crc_Sum.f k (a ++ X ++ b) = some _ := h1
    replace h2 : ∀ k, K2 ≤ k → crc_Sum.f k (a ++ Y ++ b) = some _ := h2
    refine ⟨K1 + K2 + 1, ?_⟩
    unfold gaiterlaw13_CrcTurned.f
    rw [show gaiterlaw13_up.f = some true from rfl]
    simp only [Option.bind_some]
    rw [if_neg ha, decide_eq_false hb]
    simp only [gaiterlaw13_CrcTurned.j0]
    rw [if_neg (by decide)]
    rw [e0, e1, e2, e3, hX]
    simp only [Option.bind_some, List.nil_append, List.length_nil, hXl, hr0, hr1, hr2, hr3, f0, f1, f2, f3]
    rw [xor_u8 _ _ (lt _) (lt _), xor_u8 _ _ (lt _) (lt _), xor_u8 _ _ (lt _) (lt _), xor_u8 _ _ (lt _) (lt _), hY]
    rw [if_pos (by omega), if_pos (by omega), if_pos (by omega), if_pos (by omega), if_pos (by omega), if_pos (by first | omega | (simp [hXl, hYl]; omega)), if_pos (by first | omega | (simp [hXl, hYl]; omega)), h1 _ (by omega)]
    simp only [Option.bind_some]
    rw [if_pos (by omega), if_pos (by first | omega | (simp [hXl, hYl]; omega)), if_pos (by first | omega | (simp [hXl, hYl]; omega)), h2 _ (by omega)]
    simp only [Option.bind_some, if_true]
    have key := Crc.turned (Crc.eat (BitVec.allOnes 32) a) x y b (by omega) _ _ _ _ rfl rfl rfl rfl
    rw [hX, hY, ← Crc.eat_append, ← Crc.eat_append, ← List.append_assoc, ← List.append_assoc] at key
    congr 1
    rw [Bool.beq_eq_decide_eq, decide_eq_true_eq, Bool.eq_iff_iff, beq_iff_eq, beq_iff_eq]
    constructor
    · intro h
      have h3 : Crc.eat (BitVec.allOnes 32) (a ++ X ++ b) = Crc.eat (BitVec.allOnes 32) (a ++ Y ++ b) := by
        have h4 : (~~~ Crc.eat (BitVec.allOnes 32) (a ++ X ++ b)) = (~~~ Crc.eat (BitVec.allOnes 32) (a ++ Y ++ b)) := BitVec.eq_of_toNat_eq (by exact_mod_cast h)
        simpa using congrArg (fun z => ~~~ z) h4
      have := key.1 h3
      omega
    · intro h
      rw [key.2 (by omega)]

end Go.Proofs.Ythlieaggokdppaa.Pure
