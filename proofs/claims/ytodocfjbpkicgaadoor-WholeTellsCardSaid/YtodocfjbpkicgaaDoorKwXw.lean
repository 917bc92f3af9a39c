-- copied by a program of the session
import Derived.Test.YtodocfjbpkicgaaDoorKwM0
import Derived.Test.YtodocfjbpkicgaaDoorKwXl
import Derived.Lib.BitFns
import Derived.Lib.TrailingZeros
import Derived.Laws.Bits64b
import Derived.Lib.Strings
import Derived.Lib.Slices
import Derived.Lib.Small
import Derived.Lib.Walk
set_option linter.unusedSimpArgs false
set_option linter.unusedVariables false
set_option maxHeartbeats 4000000
set_option maxRecDepth 100000
namespace Go.Proofs.YtodocfjbpkicgaaDoor
open Go.RowKit Go.Zw Go.Zl
def A39 (w : World) : Prop := ∀ j, j < 64 → w.cell? ⟨0, j, none⟩ = some (.int .u8 (Lib.deBruijn64tab.getD j 0))
theorem A39.below {B : Nat} {w w' : World} (h : A39 w) (hb : Below B w w') (hB : w.heap.size ≤ B) : A39 w' := fun j hj =>
 (hb.cell (p := ⟨0, j, none⟩) (Nat.lt_of_lt_of_le (World.block_lt_of_cell? _ _ (h j hj)) hB)).trans (h j hj)
def bits_LeadingZeros64.f (a0 : Int) : Option Int := if 0 ≤ a0 ∧ a0 ≤ 18446744073709551615 then some (64 - (Lib.bitLen a0.toNat : Int)) else none
theorem bits_LeadingZeros64.calls (a0 : Int) (r : Int) (w : World) (h : bits_LeadingZeros64.f a0 = some r) :
    Calls Tryd.prog 122 #[.int .u64 a0] w fun e w' => e = .returned (.int .i64 r) ∧ A0q w w' := by
  unfold bits_LeadingZeros64.f at h
  by_cases hx : 0 ≤ a0 ∧ a0 ≤ 18446744073709551615
  · rw [if_pos hx] at h
    obtain ⟨h0, h1⟩ := hx
    have hr := A0b.mk (Option.some.inj h)
    clear h
    have l := Lib.bitLen_le a0.toNat 64 (by omega) (by omega)
    go_enter Tryd.func122, Tryd.ntmps122
    go_wp2_with (go_at_call 124; refine (Len64_walk a0 _ h0 h1).mono ?_; rintro e w' ⟨rfl, rfl⟩)
    go_ret
    refine ⟨?_, A0q.refl _⟩
    rw [← hr.out]
    first | rfl | (congr 2; omega)
  · rw [if_neg hx] at h
    cases h
theorem tz_core (x k idx : Nat) (w : World) (hx0 : ((x : Int) == 0) = false)
    (key : IntKind.u64.wrap (bits BinOp.and IntKind.u64 (x : Int) (IntKind.u64.wrap (-(x : Int))) * 285870213051353865) / 288230376151711744 = (idx : Int))
    (hi : idx < 64) (hk : k < 64) (hcell : w.cell? ⟨0, idx, none⟩ = some (.int .u8 k)) :
    Calls Tryd.prog 123 #[.int .u64 x] w fun e w' => e = .returned (.int .i64 k) ∧ w' = w := by
  go_enter Tryd.func123, Tryd.ntmps123
  go_wp2_with (simp only [key])
  go_ret
  exact ⟨rfl, rfl⟩
theorem tz_zero (w : World) : Calls Tryd.prog 123 #[.int .u64 0] w fun e w' => e = .returned (.int .i64 64) ∧ w' = w := by
 go_enter Tryd.func123, Tryd.ntmps123
 go_wp2
 go_ret
 exact ⟨rfl, rfl⟩
theorem tz_key (x a : Nat) (hx : x < 18446744073709551616) (hx0 : x ≠ 0) (hlow : x &&& (18446744073709551616 - x) = a) :
    IntKind.u64.wrap (bits BinOp.and IntKind.u64 (x : Int) (IntKind.u64.wrap (-(x : Int))) * 285870213051353865) / 288230376151711744 = ((a * 285870213051353865 % 18446744073709551616 / 288230376151711744 : Nat) : Int) := by
  have e1 : IntKind.u64.wrap (-(x : Int)) = ((18446744073709551616 - x : Nat) : Int) := by rw [IntKind.wrap_u64]; omega
  rw [e1, bits_and_u64_nat x _ hx (by omega), hlow, IntKind.wrap_u64]
  omega
def bits_TrailingZeros64.f (a0 : Int) : Option Int := if 0 ≤ a0 ∧ a0 ≤ 18446744073709551615 then some (Lib.ctz 64 a0.toNat : Int) else none
theorem bits_TrailingZeros64.calls (a0 : Int) (r : Int) (w : World) (hT : A39 w) (h : bits_TrailingZeros64.f a0 = some r) :
    Calls Tryd.prog 123 #[.int .u64 a0] w fun e w' => e = .returned (.int .i64 r) ∧ A0q w w' := by
  unfold bits_TrailingZeros64.f at h
  by_cases hx : 0 ≤ a0 ∧ a0 ≤ 18446744073709551615
  · rw [if_pos hx] at h
    obtain ⟨h0, h1⟩ := hx
    obtain ⟨x, rfl⟩ := Int.eq_ofNat_of_zero_le h0
    rw [Int.toNat_natCast] at h
    obtain rfl := Option.some.inj h
    by_cases hx0 : x = 0
    · subst hx0
      exact (tz_zero w).mono fun e w' hh => ⟨hh.1, hh.2 ▸ A0q.refl _⟩
    · obtain ⟨hlow, hk⟩ := Lib.lowest_bit 64 x hx0 (by omega)
      obtain ⟨hi, htab⟩ := Lib.deBruijn64_at _ hk
      have hcell := hT _ hi
      rw [htab] at hcell
      exact (tz_core x _ _ w (by simp; omega) (tz_key x _ (by omega) hx0 hlow) hi hk hcell).mono fun e w' hh => ⟨hh.1, hh.2 ▸ A0q.refl _⟩
  · rw [if_neg hx] at h
    cases h
end Go.Proofs.YtodocfjbpkicgaaDoor
