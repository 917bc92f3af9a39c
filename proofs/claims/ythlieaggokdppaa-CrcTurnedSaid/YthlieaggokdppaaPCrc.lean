/- What layer 13's sum and the document's come to: the register after all bytes, turned. -/
import Derived.Test.YthlieaggokdppaaAllx8
import Derived.Test.YthlieaggokdppaaAllx9
import Derived.Test.YthlieaggokdppaaIb
import Derived.Test.YthlieaggokdppaaCrcLib
namespace Go.Proofs.Ythlieaggokdppaa.PCrc
open Go Go.RowKit Go.Proofs.Ythlieaggokdppaa.All Go.Proofs.YthlieaggokdppaaW.PrintWords Go.Proofs.YthlieaggokdppaaW.PrintLast
set_option linter.unusedVariables false
set_option linter.unusedSimpArgs false

theorem xor_ofInt (a : BitVec 32) (y : Int) : Go.bits .xor .u32 (a.toNat : Int) y = ((a ^^^ BitVec.ofInt 32 y).toNat : Int) := by
  show IntKind.u32.wrap (((BitVec.ofInt 32 (a.toNat : Int)) ^^^ (BitVec.ofInt 32 y)).toNat : Int) = _
  rw [Ib.wrap_u32, BitVec.ofInt_natCast, BitVec.ofNat_toNat, BitVec.setWidth_eq]
  have := (a ^^^ BitVec.ofInt 32 y).isLt
  omega
theorem xor_bv (a b : BitVec 32) : Go.bits .xor .u32 (a.toNat : Int) (b.toNat : Int) = ((a ^^^ b).toNat : Int) := by
  rw [xor_ofInt, BitVec.ofInt_natCast, BitVec.ofNat_toNat, BitVec.setWidth_eq]
theorem ofInt_mod (y : Int) : BitVec.ofInt 32 (y % 4294967296) = BitVec.ofInt 32 y := by
  apply BitVec.eq_of_toNat_eq
  rw [BitVec.toNat_ofInt, BitVec.toNat_ofInt]
  congr 1
  omega
theorem toNat_half (a : BitVec 32) : (a.toNat : Int) / (2 : Int) = (((a >>> 1).toNat : Nat) : Int) := by
  rw [BitVec.toNat_ushiftRight, Nat.shiftRight_eq_div_pow]; omega
theorem bit0 (a : BitVec 32) : a.getLsbD 0 = decide (a.toNat % 2 = 1) := by
  rw [BitVec.getLsbD, Nat.testBit_zero]
theorem step_impl (a : BitVec 32) : Go.bits .xor .u32 ((a.toNat : Int) / 2) (Go.bits .and .u32 ((-(Go.bits .and .u32 (a.toNat : Int) 1)) % 4294967296) 3988292384) = ((Crc.step a).toNat : Int) := by
  have h1 : Go.bits .and .u32 (a.toNat : Int) 1 = (a.toNat : Int) % 2 := by
    show IntKind.u32.wrap (((BitVec.ofInt 32 (a.toNat : Int)) &&& (BitVec.ofInt 32 1)).toNat : Int) = _
    rw [Ib.wrap_u32, BitVec.ofInt_natCast, BitVec.ofNat_toNat, BitVec.setWidth_eq, show BitVec.ofInt 32 1 = 1#32 from by decide, BitVec.toNat_and, show (1#32).toNat = 2 ^ 1 - 1 from rfl, Nat.and_two_pow_sub_one_eq_mod]
    omega
  rw [h1, toNat_half]
  unfold Crc.step
  rw [bit0]
  by_cases h : a.toNat % 2 = 1
  · rw [show (a.toNat : Int) % 2 = 1 from by omega, show Go.bits .and .u32 ((-(1 : Int)) % 4294967296) 3988292384 = ((3988292384#32).toNat : Int) from by decide, xor_bv]
    simp [h]
  · rw [show (a.toNat : Int) % 2 = 0 from by omega, show Go.bits .and .u32 ((-(0 : Int)) % 4294967296) 3988292384 = ((0#32).toNat : Int) from by decide, xor_bv]
    simp [h]
theorem sum_l1 (xs : List Int) (x8 : Int) (r : Int) : ∀ (j : Nat) (a : BitVec 32), j ≤ 8 → Ev (fun k => crc_Sum.l0 k ((Crc.steps j a).toNat : Int) xs (xs.length : Int) (wrap64 (x8 + 1))) r →
    Ev (fun k => crc_Sum.l1 k (a.toNat : Int) xs (xs.length : Int) x8 ((8 - j : Nat) : Int)) r := by
  intro j
  induction j with
  | zero => intro a _ h; exact Ev.step (fun k => by simp only [crc_Sum.l1]; rw [if_neg (by omega)]; rfl) h
  | succ j ih =>
    intro a hj h
    refine Ev.step (fun k => ?_) (ih (Crc.step a) (by omega) h)
    simp only [crc_Sum.l1]
    rw [if_pos (by omega), step_impl]
    congr 1
    unfold wrap64; omega
theorem sum_l0 (xs : List Int) (hl : xs.length ≤ 140737488355328) : ∀ (d i : Nat) (a : BitVec 32), i + d = xs.length → Ev (fun k => crc_Sum.l0 k (a.toNat : Int) xs (xs.length : Int) (i : Int)) ((~~~ (Crc.eat a (xs.drop i))).toNat : Int) := by
  intro d
  induction d with
  | zero =>
    intro i a hi
    refine Ev.step (fun k => ?_) (Ev.now _)
    simp only [crc_Sum.l0]
    rw [if_neg (by omega), List.drop_eq_nil_of_le (by omega)]
    rw [show (4294967295 : Int) = ((BitVec.allOnes 32).toNat : Int) from by decide, xor_bv, BitVec.allOnes_xor]
    rfl
  | succ d ih =>
    intro i a hi
    have hlt : i < xs.length := by omega
    have hd : xs.drop i = xs[i] :: xs.drop (i + 1) := List.drop_eq_getElem_cons hlt
    have hrd : rd xs (i : Int) = xs[i] := by simp [rd, List.getD_eq_getElem?_getD, hlt]
    have := ih (i + 1) (Crc.steps 8 (a ^^^ BitVec.ofInt 32 xs[i])) (by omega)
    rw [hd]
    refine Ev.step (fun k => ?_) (sum_l1 xs (i : Int) _ 8 (a ^^^ BitVec.ofInt 32 xs[i]) (by omega) ?_)
    · simp only [crc_Sum.l0]
      rw [if_pos (by omega), if_pos (by omega), if_pos (by omega), hrd, xor_ofInt, ofInt_mod]
      rfl
    · rw [show wrap64 ((i : Int) + 1) = ((i + 1 : Nat) : Int) from by unfold wrap64; omega]
      exact this
theorem sum_is (xs : List Int) (hl : xs.length ≤ 140737488355328) : Ev (fun k => crc_Sum.f k xs) ((~~~ (Crc.eat (BitVec.allOnes 32) xs)).toNat : Int) :=
  sum_l0 xs hl xs.length 0 (BitVec.allOnes 32) (by omega)
theorem step_ref (a : BitVec 32) : (if (Int.tmod (a.toNat : Int) 2) = 1 then Go.bits .xor .u32 ((Int.tdiv (a.toNat : Int) 2) % 4294967296) 3988292384 else (Int.tdiv (a.toNat : Int) 2) % 4294967296) = ((Crc.step a).toNat : Int) := by
  have ha := a.isLt
  rw [Int.tmod_eq_emod_of_nonneg (by omega), Int.tdiv_eq_ediv_of_nonneg (by omega), show ((a.toNat : Int) / 2) % 4294967296 = (a.toNat : Int) / 2 from by omega, toNat_half]
  unfold Crc.step
  rw [bit0]
  by_cases h : a.toNat % 2 = 1
  · rw [if_pos (by omega), show (3988292384 : Int) = ((3988292384#32).toNat : Int) from by decide, xor_bv]
    simp [h]
  · rw [if_neg (by omega)]
    simp [h]
theorem ref_l1 (xs : List Int) (x4 : Int) (r : Int) : ∀ (j : Nat) (a : BitVec 32), j ≤ 8 → Ev (fun k => gaiterref09_Sum.l0 k xs ((Crc.steps j a).toNat : Int) (wrap64 (x4 + 1))) r →
    Ev (fun k => gaiterref09_Sum.l1 k xs (a.toNat : Int) x4 ((8 - j : Nat) : Int)) r := by
  intro j
  induction j with
  | zero => intro a _ h; exact Ev.step (fun k => by simp only [gaiterref09_Sum.l1]; rw [if_neg (by omega)]; rfl) h
  | succ j ih =>
    intro a hj h
    refine Ev.step (fun k => ?_) (ih (Crc.step a) (by omega) h)
    simp only [gaiterref09_Sum.l1]
    rw [if_pos (by omega), ← step_ref, show wrap64 (((8 - (j + 1) : Nat) : Int) + 1) = ((8 - j : Nat) : Int) from by unfold wrap64; omega]
    split <;> rfl
theorem ref_l0 (xs : List Int) (hl : xs.length ≤ 140737488355328) : ∀ (d i : Nat) (a : BitVec 32), i + d = xs.length → Ev (fun k => gaiterref09_Sum.l0 k xs (a.toNat : Int) (i : Int)) ((~~~ (Crc.eat a (xs.drop i))).toNat : Int) := by
  intro d
  induction d with
  | zero =>
    intro i a hi
    refine Ev.step (fun k => ?_) (Ev.now _)
    simp only [gaiterref09_Sum.l0]
    rw [if_neg (by omega), List.drop_eq_nil_of_le (by omega)]
    have ha := a.isLt
    rw [show Crc.eat a [] = a from rfl, BitVec.toNat_not]
    congr 1
    omega
  | succ d ih =>
    intro i a hi
    have hlt : i < xs.length := by omega
    have hd : xs.drop i = xs[i] :: xs.drop (i + 1) := List.drop_eq_getElem_cons hlt
    have hrd : rd xs (i : Int) = xs[i] := by simp [rd, List.getD_eq_getElem?_getD, hlt]
    have := ih (i + 1) (Crc.steps 8 (a ^^^ BitVec.ofInt 32 xs[i])) (by omega)
    rw [hd]
    refine Ev.step (fun k => ?_) (ref_l1 xs (i : Int) _ 8 (a ^^^ BitVec.ofInt 32 xs[i]) (by omega) ?_)
    · simp only [gaiterref09_Sum.l0]
      rw [if_pos (by omega), if_pos (by omega), hrd, xor_ofInt, ofInt_mod]
      rfl
    · rw [show wrap64 ((i : Int) + 1) = ((i + 1 : Nat) : Int) from by unfold wrap64; omega]
      exact this
theorem ref_is (xs : List Int) (hl : xs.length ≤ 140737488355328) : Ev (fun k => gaiterref09_Sum.f k xs) ((~~~ (Crc.eat (BitVec.allOnes 32) xs)).toNat : Int) :=
  ref_l0 xs hl xs.length 0 (BitVec.allOnes 32) (by omega)

end Go.Proofs.Ythlieaggokdppaa.PCrc
