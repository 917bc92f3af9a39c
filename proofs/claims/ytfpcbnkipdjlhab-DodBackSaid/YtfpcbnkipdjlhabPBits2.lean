/- What layer 1's Put comes to, in plain words on bits. -/
import Derived.Test.YtfpcbnkipdjlhabAllx5
import Derived.Test.YtfpcbnkipdjlhabPBits
namespace Go.Proofs.Ytfpcbnkipdjlhab.PBits
open Go Go.RowKit Go.Proofs.Ytfpcbnkipdjlhab Go.Proofs.Ytfpcbnkipdjlhab.All Go.Proofs.YtfpcbnkipdjlhabW.PrintWords Go.Proofs.YtfpcbnkipdjlhabW.PrintLast
set_option linter.unusedVariables false
set_option linter.unusedSimpArgs false


theorem wr_succ (i : Nat) (h : i < 140737488355328) : wrap64 ((i : Int) + 1) = ((i + 1 : Nat) : Int) := by rw [w64 _ (by omega)]; omega
theorem wr_pred (m : Nat) (h : m < 140737488355328) : wrap64 ((m : Int) - 1) = (m : Int) - 1 := w64 _ (by omega)
theorem wr_pred' (m : Nat) (h0 : 0 < m) (h : m < 140737488355328) : wrap64 ((m : Int) - 1) = ((m - 1 : Nat) : Int) := by rw [w64 _ (by omega)]; omega
theorem wr_add (i j : Nat) (h : i + j < 140737488355328) : wrap64 ((i : Int) + (j : Int)) = ((i + j : Nat) : Int) := by rw [w64 _ (by omega)]; omega
theorem wr_eight (r : Nat) (h : r ≤ 8) : wrap64 (8 - (r : Int)) = ((8 - r : Nat) : Int) := by rw [w64 _ (by omega)]; omega
theorem wr_bytes (n : Nat) (h : n < 140737488355328) : wrap64 (Int.tdiv (wrap64 ((n : Int) + 7)) 8) = (((n + 7) / 8 : Nat) : Int) := by
  rw [w64 ((n : Int) + 7) (by omega), tdiv_nat _ (by omega), w64 _ (by omega)]; omega
theorem tmod8 (n : Nat) : Int.tmod (n : Int) 8 = ((n % 8 : Nat) : Int) := by rw [tmod_nat _ (by omega)]; omega
theorem shl_u8 (x : Int) (s : Nat) (h : s ≤ 8) : shl .u8 x (s : Int) = x * 2 ^ s % 256 := by
  unfold shl; rw [Int.toNat_natCast, show IntKind.u8.bits = 8 from rfl, Nat.min_eq_left h, Ib.wrap_u8]
theorem bit_of (v : Int) (m : Nat) (hv : 0 ≤ v ∧ v < 18446744073709551616) (hm : m ≤ 63) : Go.bits .and .u64 (shr .u64 v (m : Int)) 1 % 256 = v / 2 ^ m % 2 := by
  unfold shr
  rw [Int.toNat_natCast, show IntKind.u64.bits = 64 from rfl, Nat.min_eq_left (by omega)]
  have h3 := Bs.pow_pos m
  have h4 : 0 ≤ v / 2 ^ m := Int.ediv_nonneg hv.1 (Int.le_of_lt h3)
  have h5 : v / 2 ^ m < 18446744073709551616 := Int.lt_of_le_of_lt (Int.ediv_le_self _ hv.1) hv.2
  generalize v / 2 ^ m = q at h4 h5 ⊢
  rw [Ib.and_u64_one q ⟨h4, h5⟩]
  omega
theorem put_first {l : List Int} (h : l.length % 8 = 0) (x : Int) (hx : x = 0 ∨ x = 1) :
    (Bs.pack l ++ [0]).set (l.length / 8) (Go.bits .or .u8 (rd (Bs.pack l ++ [0]) ((l.length / 8 : Nat) : Int)) (shl .u8 x ((7 - l.length % 8 : Nat) : Int))) = Bs.pack (l ++ [x]) := by
  have hp := Bs.pack_length l
  have hr : rd (Bs.pack l ++ [0]) ((l.length / 8 : Nat) : Int) = 0 := by
    rw [rd_at _ _ (by rw [List.length_append, List.length_singleton]; omega), List.getElem_append_right (by omega)]
    simp
  rw [hr, Bs.pack_snoc0 h, List.set_append_right _ _ (by omega), h, show l.length / 8 - (Bs.pack l).length = 0 from by omega, List.set_cons_zero]
  rcases hx with rfl | rfl
  · rw [show Go.bits .or .u8 0 (shl .u8 0 ((7 - 0 : Nat) : Int)) = 0 * 128 from by decide +kernel]
  · rw [show Go.bits .or .u8 0 (shl .u8 1 ((7 - 0 : Nat) : Int)) = 1 * 128 from by decide +kernel]
theorem put_next {l : List Int} (hb : Bs.Bits l) (h : l.length % 8 ≠ 0) (x : Int) (hx : x = 0 ∨ x = 1) :
    (Bs.pack l).set (l.length / 8) (Go.bits .or .u8 (rd (Bs.pack l) ((l.length / 8 : Nat) : Int)) (shl .u8 x ((7 - l.length % 8 : Nat) : Int))) = Bs.pack (l ++ [x]) := by
  have hp := Bs.pack_length l
  have hlt : l.length / 8 < (Bs.pack l).length := by omega
  have hby := Bs.pack_bytes hb _ (List.getElem_mem hlt)
  obtain ⟨t, ht⟩ := Bs.pack_last h
  have hg : (Bs.pack l).getD (l.length / 8) 0 = (Bs.pack l)[l.length / 8] := by simp [List.getD_eq_getElem?_getD, hlt]
  have hrd : rd (Bs.pack l) ((l.length / 8 : Nat) : Int) = t * 2 ^ (8 - l.length % 8) := by rw [rd_at _ _ hlt, ← hg, ht]
  rw [← hg, ht] at hby
  rw [Bs.pack_snoc h, hrd, ht]
  have hr : l.length % 8 < 8 := Nat.mod_lt _ (by decide)
  generalize l.length % 8 = r at h hby hr ⊢
  have h1 : (2 : Int) ^ (8 - r) = 2 * 2 ^ (7 - r) := by rw [show 8 - r = (7 - r) + 1 from by omega, Int.pow_succ, Int.mul_comm]
  have h2 : (2 : Int) ^ (7 - r) ≤ 2 ^ 6 := pow_le (by omega)
  rw [show (2 : Int) ^ 6 = 64 from by decide] at h2
  have h3 := Bs.pow_pos (7 - r)
  have h4 : 0 ≤ x * 2 ^ (7 - r) ∧ x * 2 ^ (7 - r) < 2 ^ (8 - r) := by
    rcases hx with rfl | rfl
    · rw [Int.zero_mul]; omega
    · rw [Int.one_mul]; omega
  rw [shl_u8 _ _ (by omega), show x * 2 ^ (7 - r) % 256 = x * 2 ^ (7 - r) from Int.emod_eq_of_lt h4.1 (by omega), or_u8_sum t _ _ (by omega) hby h4]
theorem Put_l0 (v : Int) (hv : 0 ≤ v ∧ v < 18446744073709551616) : ∀ (m : Nat) (l : List Int), Bs.Bits l → m ≤ 64 → l.length + m < 140737488355328 →
    Ev (fun k => bits_Put.l0 k v ((m : Int) - 1) (Bs.pack l) (l.length : Int)) (Bs.pack (l ++ Bs.low v m), ((l.length + m : Nat) : Int)) := by
  intro m
  induction m with
  | zero =>
    intro l hl _ _
    refine Ev.step (fun k => ?_) (Ev.now _)
    simp only [bits_Put.l0]
    rw [if_neg (by omega)]
    simp only [Bs.low, List.append_nil, Nat.add_zero]
  | succ m ih =>
    intro l hl hm hlen
    have hp := Bs.pack_length l
    have hn2 : l.length < 140737488355328 := by omega
    have hn3 : l.length < 9223372036854775808 := by omega
    have hlp : (Bs.pack l).length < 140737488355328 := by omega
    have hm63 : m ≤ 63 := by omega
    have hm47 : m < 140737488355328 := by omega
    have hm64 : m ≤ 64 := by omega
    have hlm : (l ++ [v / 2 ^ m % 2]).length + m < 140737488355328 := by rw [List.length_append, List.length_singleton]; omega
    have h7 : ((m + 1 : Nat) : Int) - 1 = (m : Int) := by omega
    have hm0 : (m : Int) ≥ 0 := Int.natCast_nonneg _
    have hi1 : l.length % 8 = 0 → ((l.length / 8 : Nat) : Int) < ((Bs.pack l ++ [0]).length : Int) := by intro h; rw [List.length_append, List.length_singleton]; omega
    have hi2 : l.length % 8 ≠ 0 → ((l.length / 8 : Nat) : Int) < ((Bs.pack l).length : Int) := by intro h; omega
    have hz1 : l.length % 8 = 0 → ((l.length % 8 : Nat) : Int) = 0 := by omega
    have hz2 : l.length % 8 ≠ 0 → ¬ ((l.length % 8 : Nat) : Int) = 0 := by omega
    have hx : v / 2 ^ m % 2 = 0 ∨ v / 2 ^ m % 2 = 1 := Int.emod_two_eq _
    have hb := bit_of v m hv hm63
    have hw1 := wr_pred m hm47
    have hw2 := wr_succ l.length hn2
    have ht1 := tmod8 l.length
    have := ih (l ++ [v / 2 ^ m % 2]) (hl.append (Bs.Bits.cons hx Bs.Bits.nil)) hm64 hlm
    rw [List.append_assoc, List.singleton_append, ← Bs.low_top, List.length_append, List.length_singleton] at this
    rw [show l.length + (m + 1) = l.length + 1 + m from by rw [Nat.add_comm m 1, Nat.add_assoc]]
    refine Ev.step (fun k => ?_) this
    simp only [bits_Put.l0]
    rw [h7, if_pos hm0, at_byte _ hn3, at_bit _ hn3, ht1, hw1, hw2, hb]
    by_cases h8 : l.length % 8 = 0
    · rw [if_pos (hz1 h8), if_pos hlp]
      simp only [Option.bind_some]
      rw [if_pos (Int.natCast_nonneg _), if_pos (hi1 h8), if_pos hm0, if_pos (Int.natCast_nonneg _), Int.toNat_natCast, put_first h8 _ hx]
    · rw [if_neg (hz2 h8), if_pos (Int.natCast_nonneg _), if_pos (hi2 h8), if_pos hm0, if_pos (Int.natCast_nonneg _), Int.toNat_natCast, put_next hl h8 _ hx]
/-- Put: the bits, and behind them the lowest ones of the number. -/
theorem Put_is (l : List Int) (hl : Bs.Bits l) (hlen : l.length + 64 < 140737488355328) (v : Int) (hv : 0 ≤ v ∧ v < 18446744073709551616) (n : Int) :
    Ev (fun k => bits_Put.f k (Bs.pack l) (l.length : Int) v n) (if n < 0 ∨ n > 64 then (Bs.pack l, (l.length : Int)) else (Bs.pack (l ++ Bs.low v n.toNat), ((l.length + n.toNat : Nat) : Int))) := by
  have hp := Bs.pack_length l
  unfold bits_Put.f slices_Clone_byte_byte.f
  rw [if_pos (by omega)]
  simp only [Option.bind_some]
  by_cases c1 : n < 0
  · rw [if_pos (.inl c1)]
    exact Ev.step (g := fun k => _) (fun k => by rw [if_pos c1]; simp only [bits_Put.j0, if_true]) (Ev.now _)
  by_cases c2 : n > 64
  · rw [if_pos (.inr c2)]
    exact Ev.step (g := fun k => _) (fun k => by rw [if_neg c1, decide_eq_true c2]; simp only [bits_Put.j0, if_true]) (Ev.now _)
  rw [if_neg (by omega)]
  refine Ev.step (g := fun k => _) (fun k => ?_) (Put_l0 v hv n.toNat l hl (by omega) (by omega))
  rw [if_neg c1, decide_eq_false c2]
  simp only [bits_Put.j0]
  rw [if_neg (by decide), w64 _ (by omega), show ((n.toNat : Nat) : Int) = n from by omega]

/-! Join -/

end Go.Proofs.Ytfpcbnkipdjlhab.PBits
