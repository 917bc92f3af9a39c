-- copied by a program of the session
import Derived.Test.YtodocfjbpkicgaaDoorRows
import Derived.LaidMore
import Derived.ProofKit
import Derived.OpenShut
import Derived.Stop.Joined
import Derived.Laws.Entries
import Derived.RowKit
import Derived.Test.YtodocfjbpkicgaaDoorKvAllx13
import Derived.Lib.ItoaNum
section
namespace Go.Proofs.YtodocfjbpkicgaaDoor
open Go Go.ChangeShapes Go.WideShapes Go.ChangeAt Go.WideMaps Go.WideElems Go.RowKit
set_option maxRecDepth 100000
def tabLaid {H : Type} : List (String × DataW H) := [("math/bits.deBruijn64tab", Rows.laid_math_bits_deBruijn64tab)]
theorem gTab : Tryd.prog.globalNamed "math/bits.deBruijn64tab" = some 0 := by kernel_rfl
theorem tTab : (Tryd.prog.globals[0]?).map (·.type) = some 207 := by kernel_rfl
theorem uTab : Tryd.prog.underlying 207 = some (.array 64 5) := by kernel_rfl
theorem uByte : Tryd.prog.underlying 5 = some (.int .u8) := by kernel_rfl
theorem cByte : Tryd.prog.cellsOf 5 = 1 := by kernel_rfl
theorem dTab {H : Type} : (Rows.laid_math_bits_deBruijn64tab : DataW H) = .agg ((List.range 64).map fun j => .lit (.int .u8 (Lib.deBruijn64tab.getD j 0))) := by kernel_rfl
theorem tab_of_laid {W : World} (h : laidMetH Tryd.prog tabLaid W) : A3e W := by
 rw [MakeChecks.laidMetH_plain _ _ _ (by kernel_rfl)] at h
 obtain ⟨ps, ⟨g0, t0, cs0, f0, p0, q0, hg0, ht0, hv0, hd0, _, _⟩, _, _⟩ := h
 obtain rfl := Option.some.inj (gTab.symm.trans hg0)
 obtain rfl := Option.some.inj (tTab.symm.trans ht0)
 obtain ⟨xs, m, rfl, hx, hlen, hn, hel⟩ := DataW.trod_array uTab hd0
 intro j hj
 rw [cByte] at hel
 have hj' := hel j hj
 obtain ⟨x, hxj⟩ : ∃ x, xs[j]? = some x := ⟨xs[j]'(by omega), List.getElem?_eq_getElem (by omega)⟩
 rw [hxj] at hj'
 obtain ⟨k, e1, e2, _⟩ := DataW.trod_int uByte hj'
 rw [dTab] at hx
 simp only [Prod.mk.injEq, DataW.agg.injEq] at hx
 have h1 : (xs.map (·.1))[j]? = some x.1 := by rw [List.getElem?_map, hxj]; rfl
 rw [← hx.1, List.getElem?_map, List.getElem?_range hj, e2] at h1
 simp only [Option.map_some, Option.some.injEq, DataW.lit.injEq, Lit.int.injEq, true_and] at h1
 rw [World.var?_cell hg0 hv0 j]
 have h2 : (cs0.toList.drop (j * 1))[0]? = some (.int .u8 k) := by
  have : ((cs0.toList.drop (j * 1)).take 1)[0]? = some (.int .u8 k) := by rw [e1]; rfl
  rw [List.getElem?_take] at this
  simpa using this
 rw [List.getElem?_drop, Nat.mul_one, Nat.add_zero] at h2
 rw [h1]
 simpa using h2
theorem door_met (os : Os) (args : Array Value) : laidMetH Tryd.prog tabLaid ((World.doorLaid Tryd.prog 600 os).forCall (fun _ _ => 0) ⟨#[], args, []⟩).memory :=
 laidMetH_of_parts3 (fuel := 8) (laidMet_of_run' 8 (by kernel_rfl) (by kernel_rfl)) (by kernel_rfl) (by kernel_rfl)
end Go.Proofs.YtodocfjbpkicgaaDoor
end
section
set_option linter.unusedVariables false
set_option linter.unusedSimpArgs false
namespace Ib
open Go
theorem wrap_u64 (n : Int) : IntKind.u64.wrap n = n % 18446744073709551616 := by simp [IntKind.wrap, IntKind.bits, IntKind.signed]
theorem wrap_u8 (n : Int) : IntKind.u8.wrap n = n % 256 := by simp [IntKind.wrap, IntKind.bits, IntKind.signed]
theorem wrap_i64 (n : Int) : IntKind.i64.wrap n = (n + 9223372036854775808) % 18446744073709551616 - 9223372036854775808 := by
 simp [IntKind.wrap, IntKind.bits, IntKind.signed]
 split <;> omega
theorem wf_u8 {a : Int} (h : (Lit.int .u8 a).wf = true) : 0 ≤ a ∧ a < 256 := by
 simp [Lit.wf, IntKind.min, IntKind.max, IntKind.bits, IntKind.signed] at h; omega
theorem A27 (w : Nat) (x : Int) (h0 : 0 ≤ x) (h : x < 2 ^ w) : (BitVec.ofInt w x).toNat = x.toNat := by
 rw [BitVec.toNat_ofInt]
 congr 1
 exact Int.emod_eq_of_lt h0 (by exact_mod_cast h)
theorem xor_u64 (x y : Int) (hx : 0 ≤ x ∧ x < 18446744073709551616) (hy : 0 ≤ y ∧ y < 18446744073709551616) : bits .xor .u64 x y = ((x.toNat ^^^ y.toNat : Nat) : Int) := by
 simp only [bits, wrap_u64]
 rw [show IntKind.u64.bits = 64 from rfl, BitVec.toNat_xor, A27 64 x hx.1 hx.2, A27 64 y hy.1 hy.2]
 have : x.toNat ^^^ y.toNat < 2 ^ 64 := Nat.xor_lt_two_pow (by omega) (by omega)
 omega
theorem xor_u64_zero (x : Int) (hx : 0 ≤ x ∧ x < 18446744073709551616) : bits .xor .u64 x 0 = x := by
 rw [xor_u64 x 0 hx (by omega)]; simp; omega
theorem and_u64 (x y : Int) (hx : 0 ≤ x ∧ x < 18446744073709551616) (hy : 0 ≤ y ∧ y < 18446744073709551616) : bits .and .u64 x y = ((x.toNat &&& y.toNat : Nat) : Int) := by
 simp only [bits, wrap_u64]
 rw [show IntKind.u64.bits = 64 from rfl, BitVec.toNat_and, A27 64 x hx.1 hx.2, A27 64 y hy.1 hy.2]
 have : x.toNat &&& y.toNat ≤ x.toNat := Nat.and_le_left
 omega
theorem and_u64_one (x : Int) (hx : 0 ≤ x ∧ x < 18446744073709551616) : bits .and .u64 x 1 = x % 2 := by
 rw [and_u64 x 1 hx (by omega)]
 rw [show (1 : Int).toNat = 2 ^ 1 - 1 from rfl, Nat.and_two_pow_sub_one_eq_mod]; omega
theorem or_u64 (x y : Int) (hx : 0 ≤ x ∧ x < 18446744073709551616) (hy : 0 ≤ y ∧ y < 18446744073709551616) : bits .or .u64 x y = ((x.toNat ||| y.toNat : Nat) : Int) := by
 simp only [bits, wrap_u64]
 rw [show IntKind.u64.bits = 64 from rfl, BitVec.toNat_or, A27 64 x hx.1 hx.2, A27 64 y hy.1 hy.2]
 have : x.toNat ||| y.toNat < 2 ^ 64 := Nat.or_lt_two_pow (by omega) (by omega)
 omega
end Ib
end
section
set_option linter.unusedVariables false
set_option linter.unusedSimpArgs false
namespace Bs
def number (l : List Int) : Int := l.foldl (fun v b => 2 * v + b) 0
def low (v : Int) : Nat → List Int
 | 0 => []
 | n + 1 => low (v / 2) n ++ [v % 2]
def Bits (l : List Int) : Prop := ∀ x ∈ l, x = 0 ∨ x = 1
def Bytes (l : List Int) : Prop := ∀ x ∈ l, 0 ≤ x ∧ x < 256
def flat (b : List Int) : List Int := b.flatMap fun c => low c 8
def pack (l : List Int) : List Int :=
 if h : l = [] then [] else number (l.take 8 ++ List.replicate (8 - l.length) 0) :: pack (l.drop 8)
termination_by l.length
decreasing_by
 have := List.length_pos_iff.2 h
 simp only [List.length_drop]; omega
theorem foldl_number (l : List Int) : ∀ a : Int, l.foldl (fun v b => 2 * v + b) a = a * 2 ^ l.length + number l := by
 induction l with
 | nil => intro a; simp [number]
 | cons x l ih =>
  intro a
  simp only [List.foldl_cons, List.length_cons, number]
  rw [ih, ih (2 * 0 + x), Int.pow_succ, Int.add_mul, Int.mul_zero, Int.zero_add, Int.mul_comm (2 ^ l.length) 2, ← Int.mul_assoc, Int.mul_comm 2 a, Int.add_assoc]
theorem A3l (l m : List Int) : number (l ++ m) = number l * 2 ^ m.length + number m := by
 rw [number, List.foldl_append]; exact foldl_number m _
theorem number_cons (x : Int) (l : List Int) : number (x :: l) = x * 2 ^ l.length + number l := by
 rw [show x :: l = [x] ++ l from rfl, A3l]; simp [number]
theorem number_snoc (l : List Int) (x : Int) : number (l ++ [x]) = 2 * number l + x := by
 rw [number, List.foldl_append]; rfl
theorem pow_pos (n : Nat) : (0 : Int) < 2 ^ n := Int.pow_pos (by decide)
theorem A1k (n : Nat) : ∀ v, (low v n).length = n := by
 induction n with
 | zero => intro v; rfl
 | succ n ih => intro v; simp [low, ih]
theorem low_bits (n : Nat) : ∀ v, Bits (low v n) := by
 induction n with
 | zero => intro v x hx; simp [low] at hx
 | succ n ih =>
  intro v x hx
  simp only [low, List.mem_append, List.mem_singleton] at hx
  rcases hx with hx | hx
  ·exact ih _ x hx
  ·omega
theorem Bits.append {l m : List Int} (h : Bits l) (h' : Bits m) : Bits (l ++ m) := by
 intro x hx; rcases List.mem_append.1 hx with hx | hx
 ·exact h x hx
 ·exact h' x hx
theorem Bits.nil : Bits [] := fun x hx => by simp at hx
theorem Bits.cons {x : Int} {l : List Int} (hx : x = 0 ∨ x = 1) (h : Bits l) : Bits (x :: l) := by
 intro y hy; rcases List.mem_cons.1 hy with rfl | hy
 ·exact hx
 ·exact h y hy
theorem Bits.left {l m : List Int} (h : Bits (l ++ m)) : Bits l := fun x hx => h x (List.mem_append_left _ hx)
theorem Bits.right {l m : List Int} (h : Bits (l ++ m)) : Bits m := fun x hx => h x (List.mem_append_right _ hx)
theorem Bits.take {l : List Int} (h : Bits l) (n : Nat) : Bits (l.take n) := fun _ hx => h _ (List.mem_of_mem_take hx)
theorem Bits.drop {l : List Int} (h : Bits l) (n : Nat) : Bits (l.drop n) := fun x hx => h x (List.mem_of_mem_drop hx)
theorem Bits.zeros (n : Nat) : Bits (List.replicate n (0 : Int)) := fun _ hx => .inl (List.eq_of_mem_replicate hx)
theorem Bits.ones (n : Nat) : Bits (List.replicate n (1 : Int)) := fun _ hx => .inr (List.eq_of_mem_replicate hx)
theorem Bytes.nil : Bytes [] := fun x hx => by simp at hx
theorem Bytes.append {l m : List Int} (h : Bytes l) (h' : Bytes m) : Bytes (l ++ m) := by
 intro x hx; rcases List.mem_append.1 hx with hx | hx
 ·exact h x hx
 ·exact h' x hx
theorem Bytes.cons {x : Int} {l : List Int} (hx : 0 ≤ x ∧ x < 256) (h : Bytes l) : Bytes (x :: l) := by
 intro y hy; rcases List.mem_cons.1 hy with rfl | hy
 ·exact hx
 ·exact h y hy
theorem Bytes.take {l : List Int} (h : Bytes l) (n : Nat) : Bytes (l.take n) := fun x hx => h x (List.mem_of_mem_take hx)
theorem Bytes.drop {l : List Int} (h : Bytes l) (n : Nat) : Bytes (l.drop n) := fun x hx => h x (List.mem_of_mem_drop hx)
theorem A2j {l : List Int} (h : Bits l) : 0 ≤ number l ∧ number l < 2 ^ l.length := by
 induction l with
 | nil => simp [number]
 | cons x l ih =>
  have hx := h x (by simp)
  have ih := ih (fun y hy => h y (by simp [hy]))
  rw [number_cons, List.length_cons, Int.pow_succ]
  have := pow_pos l.length
  rcases hx with rfl | rfl
  ·omega
  ·omega
theorem mod_two_mul (v m : Int) (hm : 0 < m) : v % (m * 2) = 2 * (v / 2 % m) + v % 2 := by
 have h1 := Int.mul_ediv_add_emod v 2
 have h2 := Int.mul_ediv_add_emod (v / 2) m
 have h3 := Int.emod_nonneg (v / 2) (by omega : m ≠ 0)
 have h4 := Int.emod_lt_of_pos (v / 2) hm
 have h5 : v = m * 2 * (v / 2 / m) + (2 * (v / 2 % m) + v % 2) := by
  have : m * 2 * (v / 2 / m) = 2 * (m * (v / 2 / m)) := by rw [Int.mul_comm m 2, Int.mul_assoc]
  rw [this]; omega
 conv => lhs; rw [h5]
 rw [Int.mul_add_emod_self_left]
 exact Int.emod_eq_of_lt (by omega) (by omega)
theorem A3q (n : Nat) : ∀ v, number (low v n) = v % 2 ^ n := by
 induction n with
 | zero => intro v; simp [low, number]
 | succ n ih => intro v; rw [low, number_snoc, ih, Int.pow_succ, mod_two_mul _ _ (pow_pos n)]
theorem low_number {l : List Int} (h : Bits l) : low (number l) l.length = l := by
 suffices H : ∀ n (l : List Int), l.length = n → Bits l → low (number l) n = l from H _ l rfl h
 intro n
 induction n with
 | zero => intro l hl _; rw [List.length_eq_zero_iff.1 hl]; rfl
 | succ n ih =>
  intro l hl hb
  have hne : l ≠ [] := by intro e; simp [e] at hl
  rw [← List.dropLast_concat_getLast hne] at hb ⊢
  have hx := hb (l.getLast hne) (by simp)
  rw [number_snoc, low]
  have e1 : (2 * number l.dropLast + l.getLast hne) / 2 = number l.dropLast := by omega
  have e2 : (2 * number l.dropLast + l.getLast hne) % 2 = l.getLast hne := by omega
  rw [e1, e2, ih _ (by simp; omega) hb.left]
theorem number_inj {l m : List Int} (hl : Bits l) (hm : Bits m) (h : l.length = m.length) (e : number l = number m) : l = m := by
 rw [← low_number hl, ← low_number hm, h, e]
theorem low_append (m : Nat) : ∀ (n : Nat) (v : Int), low v (n + m) = low (v / 2 ^ m) n ++ low v m := by
 induction m with
 | zero => intro n v; simp [low]
 | succ m ih =>
  intro n v
  rw [← Nat.add_assoc, low, low, ih, List.append_assoc]
  congr 2
  rw [Int.pow_succ, Int.mul_comm, Int.ediv_ediv_of_nonneg (by decide)]
theorem low_zero (n : Nat) : low 0 n = List.replicate n 0 := by
 induction n with
 | zero => rfl
 | succ n ih => rw [low, show (0 : Int) / 2 = 0 from rfl, ih, List.replicate_succ']; rfl
theorem flat_nil : flat [] = [] := rfl
theorem A3g (c : Int) (b : List Int) : flat (c :: b) = low c 8 ++ flat b := by simp [flat]
theorem flat_append (b c : List Int) : flat (b ++ c) = flat b ++ flat c := by simp [flat]
theorem A10 (b : List Int) : (flat b).length = 8 * b.length := by
 induction b with
 | nil => rfl
 | cons c b ih => rw [A3g, List.length_append, A1k, ih, List.length_cons]; omega
theorem flat_bits (b : List Int) : Bits (flat b) := by
 induction b with
 | nil => exact Bits.nil
 | cons c b ih => rw [A3g]; exact (low_bits 8 c).append ih
theorem flat_drop (b : List Int) (k : Nat) : (flat b).drop (8 * k) = flat (b.drop k) := by
 induction k generalizing b with
 | zero => simp
 | succ k ih =>
  cases b with
  | nil => simp [flat]
  | cons c b =>
   rw [A3g, List.drop_succ_cons, ← ih, List.drop_append, A1k, List.drop_eq_nil_of_le (by rw [A1k]; omega), List.nil_append]
   congr 1
theorem flat_take (b : List Int) (k : Nat) : (flat b).take (8 * k) = flat (b.take k) := by
 induction k generalizing b with
 | zero => simp [flat]
 | succ k ih =>
  cases b with
  | nil => simp [flat]
  | cons c b =>
   rw [A3g, List.take_succ_cons, A3g, ← ih, List.take_append, A1k, List.take_of_length_le (by rw [A1k]; omega)]
   congr 2
theorem pack_nil : pack [] = [] := by rw [pack]; simp
theorem pack_ne {l : List Int} (h : l ≠ []) : pack l = number (l.take 8 ++ List.replicate (8 - l.length) 0) :: pack (l.drop 8) := by rw [pack]; simp [h]
theorem A2l {l : List Int} (m : List Int) (h : l.length = 8) : pack (l ++ m) = number l :: pack m := by
 have hne : l ++ m ≠ [] := by intro e; rw [List.append_eq_nil_iff] at e; rw [e.1] at h; simp at h
 rw [pack_ne hne, List.take_left' h, List.drop_left' h, List.length_append, show 8 - (l.length + m.length) = 0 from by omega]; simp
theorem A3m {l : List Int} (h0 : l ≠ []) (h : l.length ≤ 8) : pack l = [number (l ++ List.replicate (8 - l.length) 0)] := by
 rw [pack_ne h0, List.take_of_length_le h, List.drop_eq_nil_of_le h, pack_nil]
theorem pack_low (c : Int) (hc : 0 ≤ c ∧ c < 256) (m : List Int) : pack (low c 8 ++ m) = c :: pack m := by
 rw [A2l m (A1k 8 c), A3q, Int.emod_eq_of_lt hc.1 (by simpa using hc.2)]
theorem pack_flat {b : List Int} (h : Bytes b) (m : List Int) : pack (flat b ++ m) = b ++ pack m := by
 induction b with
 | nil => simp [flat]
 | cons c b ih => rw [A3g, List.append_assoc, pack_low c (h c (by simp)), ih (fun x hx => h x (by simp [hx]))]; rfl
theorem pack_flat' {b : List Int} (h : Bytes b) : pack (flat b) = b := by
 have := pack_flat h []
 rwa [List.append_nil, pack_nil, List.append_nil] at this
theorem by_eight {P : List Int → Prop} (h0 : P []) (hs : ∀ l, l ≠ [] → l.length < 8 → P l) (hb : ∀ l m, l.length = 8 → P m → P (l ++ m)) (l : List Int) : P l := by
 suffices H : ∀ n (l : List Int), l.length ≤ n → P l from H _ l (Nat.le_refl _)
 intro n
 induction n with
 | zero => intro l hl; obtain rfl : l = [] := List.length_eq_zero_iff.1 (by omega); exact h0
 | succ n ih =>
  intro l hl
  by_cases e : l = []
  ·rw [e]; exact h0
  ·by_cases h8 : l.length < 8
   ·exact hs l e h8
   ·rw [← List.take_append_drop 8 l]
    exact hb _ _ (by simp; omega) (ih _ (by simp; omega))
theorem A2n (l : List Int) : (pack l).length = (l.length + 7) / 8 := by
 induction l using by_eight with
 | h0 => simp [pack_nil]
 | hs l e h => rw [A3m e (by omega)]; have := List.length_pos_iff.2 e; simp; omega
 | hb l m h ih => rw [A2l m h]; simp [ih, h]; omega
theorem pack_bytes {l : List Int} (h : Bits l) : Bytes (pack l) := by
 induction l using by_eight with
 | h0 => rw [pack_nil]; exact Bytes.nil
 | hs l e h8 =>
  rw [A3m e (by omega)]
  have := A2j (h.append (Bits.zeros (8 - l.length)))
  rw [List.length_append, List.length_replicate, show l.length + (8 - l.length) = 8 from by omega] at this
  exact Bytes.cons (by simpa using this) Bytes.nil
 | hb l m h8 ih =>
  rw [A2l m h8]
  have := A2j h.left
  rw [h8] at this
  exact Bytes.cons (by simpa using this) (ih h.right)
theorem flat_pack {l : List Int} (h : Bits l) : flat (pack l) = l ++ List.replicate (8 * ((l.length + 7) / 8) - l.length) 0 := by
 induction l using by_eight with
 | h0 => simp [pack_nil, flat]
 | hs l e h8 =>
  have hp := List.length_pos_iff.2 e
  have hl := low_number (h.append (Bits.zeros (8 - l.length)))
  rw [List.length_append, List.length_replicate, show l.length + (8 - l.length) = 8 from by omega] at hl
  rw [A3m e (by omega), A3g, flat_nil, List.append_nil, hl, show 8 * ((l.length + 7) / 8) - l.length = 8 - l.length from by omega]
 | hb l m h8 ih =>
  have hl := low_number h.left
  rw [h8] at hl
  rw [A2l m h8, A3g, hl, ih h.right, List.append_assoc, List.length_append]
  congr 3
  omega
theorem pack_zeros {l : List Int} (h : Bits l) (z : Nat) : (pack (l ++ List.replicate z 0)).take ((l.length + 7) / 8) = pack l := by
 have h1 : (pack (l ++ List.replicate z 0)).take ((l.length + 7) / 8) = pack ((flat (pack (l ++ List.replicate z 0))).take (8 * ((l.length + 7) / 8))) := by
  rw [flat_take, pack_flat' ((pack_bytes (h.append (Bits.zeros z))).take _)]
 have hz : Bits (l ++ List.replicate z 0) := h.append (Bits.zeros z)
 rw [h1, flat_pack hz]
 have h2 : (l ++ List.replicate z (0 : Int) ++ List.replicate (8 * (((l ++ List.replicate z (0 : Int)).length + 7) / 8) - (l ++ List.replicate z (0 : Int)).length) (0 : Int)).take (8 * ((l.length + 7) / 8)) = flat (pack l) := by
  rw [flat_pack h, List.append_assoc, List.replicate_append_replicate, List.take_append, List.take_of_length_le (by omega), List.take_replicate]
  congr 2
  simp only [List.length_append, List.length_replicate]
  omega
 rw [h2, pack_flat' (pack_bytes h)]
theorem pack_snoc0 {l : List Int} (h : l.length % 8 = 0) (x : Int) : pack (l ++ [x]) = pack l ++ [x * 128] := by
 induction l using by_eight with
 | h0 => rw [List.nil_append, A3m (by simp) (by simp), pack_nil]; simp [number, List.replicate]; omega
 | hs l e h8 => have := List.length_pos_iff.2 e; omega
 | hb l m h8 ih => rw [List.append_assoc, A2l _ h8, A2l _ h8, ih (by rw [List.length_append] at h; omega)]; rfl
theorem A3r (l : List Int) (n : Nat) : number (l ++ List.replicate n 0) = number l * 2 ^ n := by
 have h0 : number (List.replicate n 0) = 0 := by rw [← low_zero, A3q]; simp
 rw [A3l, List.length_replicate, h0, Int.add_zero]
theorem pack_snoc {l : List Int} (h : l.length % 8 ≠ 0) (x : Int) : pack (l ++ [x]) = (pack l).set (l.length / 8) ((pack l).getD (l.length / 8) 0 + x * 2 ^ (7 - l.length % 8)) := by
 induction l using by_eight with
 | h0 => simp at h
 | hs l e h8 =>
  rw [A3m (by simp) (by simp; omega), A3m e (by omega), show l.length / 8 = 0 from by omega, show l.length % 8 = l.length from by omega]
  simp only [List.set_cons_zero, List.getD_cons_zero, List.length_append, List.length_singleton]
  rw [A3r, A3r, number_snoc, show 8 - (l.length + 1) = 7 - l.length from by omega, show 8 - l.length = (7 - l.length) + 1 from by omega, Int.pow_succ, Int.add_mul]
  congr 2
  rw [Int.mul_comm 2 (number l), Int.mul_assoc, Int.mul_comm 2]
 | hb l m h8 ih =>
  rw [List.append_assoc, A2l _ h8, A2l _ h8, ih (by rw [List.length_append] at h; omega), List.length_append, h8, show (8 + m.length) / 8 = m.length / 8 + 1 from by omega, show (8 + m.length) % 8 = m.length % 8 from by omega]
  simp
theorem pack_mod8 {l : List Int} (h : l.length % 8 = 0) (m : List Int) : pack (l ++ m) = pack l ++ pack m := by
 induction l using by_eight with
 | h0 => simp [pack_nil]
 | hs l e h8 => have := List.length_pos_iff.2 e; omega
 | hb l m' h8 ih => rw [List.append_assoc, A2l _ h8, A2l _ h8, ih (by rw [List.length_append] at h; omega)]; rfl
theorem pack_last {l : List Int} (h : l.length % 8 ≠ 0) : ∃ t : Int, (pack l).getD (l.length / 8) 0 = t * 2 ^ (8 - l.length % 8) := by
 induction l using by_eight with
 | h0 => simp at h
 | hs l e h8 =>
  rw [A3m e (by omega), show l.length / 8 = 0 from by omega, show l.length % 8 = l.length from by omega]
  exact ⟨number l, by simp only [List.getD_cons_zero]; rw [A3r]⟩
 | hb l m h8 ih =>
  obtain ⟨t, ht⟩ := ih (by rw [List.length_append] at h; omega)
  refine ⟨t, ?_⟩
  rw [A2l _ h8, List.length_append, h8, show (8 + m.length) / 8 = m.length / 8 + 1 from by omega, show (8 + m.length) % 8 = m.length % 8 from by omega, ← ht]
  simp
theorem low_one (v : Int) : low v 1 = [v % 2] := rfl
theorem low_top (v : Int) (m : Nat) : low v (m + 1) = (v / 2 ^ m % 2) :: low v m := by
 rw [Nat.add_comm, low_append, low_one]; rfl
theorem pack_byte {l : List Int} (h : l.length % 8 ≠ 0) (c : Int) (hc : 0 ≤ c ∧ c < 256) : pack (l ++ low c 8) = (pack l).set (l.length / 8) ((pack l).getD (l.length / 8) 0 + c / 2 ^ (l.length % 8)) ++ [c * 2 ^ (8 - l.length % 8) % 256] := by
 induction l using by_eight with
 | h0 => simp at h
 | hs l e h8 =>
  have hp := List.length_pos_iff.2 e
  rw [A3m e (by omega), show l.length / 8 = 0 from by omega, show l.length % 8 = l.length from by omega]
  simp only [List.set_cons_zero, List.getD_cons_zero]
  have hlow : low c 8 = low (c / 2 ^ l.length) (8 - l.length) ++ low c l.length := by
   rw [← low_append, show 8 - l.length + l.length = 8 from by omega]
  have hq : c / 2 ^ l.length % 2 ^ (8 - l.length) = c / 2 ^ l.length := by
   have h2 : (2 : Int) ^ l.length * 2 ^ (8 - l.length) = 256 := by rw [← Int.pow_add, show l.length + (8 - l.length) = 8 from by omega]; rfl
   have h3 := pow_pos l.length
   exact Int.emod_eq_of_lt (Int.ediv_nonneg hc.1 (by omega)) (Int.ediv_lt_of_lt_mul h3 (by rw [Int.mul_comm, h2]; exact hc.2))
  have hr : c % 2 ^ l.length * 2 ^ (8 - l.length) = c * 2 ^ (8 - l.length) % 256 := by
   have h2 : (2 : Int) ^ l.length * 2 ^ (8 - l.length) = 256 := by rw [← Int.pow_add, show l.length + (8 - l.length) = 8 from by omega]; rfl
   rw [← h2, Int.mul_comm c, Int.mul_comm (2 ^ l.length) (2 ^ (8 - l.length)), Int.mul_emod_mul_of_pos _ _ (pow_pos _), Int.mul_comm]
  rw [hlow, ← List.append_assoc, A2l _ (by rw [List.length_append, A1k]; omega), A3m (by intro h0; have := congrArg List.length h0; rw [A1k, List.length_nil] at this; omega) (by rw [A1k]; omega)]
  rw [A1k, A3r, A3r, A3l, A1k, A3q, A3q, hq, hr]
  rfl
 | hb l m h8 ih =>
  rw [List.append_assoc, A2l _ h8, A2l _ h8, ih (by rw [List.length_append] at h; omega), List.length_append, h8, show (8 + m.length) / 8 = m.length / 8 + 1 from by omega, show (8 + m.length) % 8 = m.length % 8 from by omega]
  simp
end Bs
end
section
namespace Go.Proofs.YtodocfjbpkicgaaDoor.PBits
open Go Go.RowKit Go.Proofs.YtodocfjbpkicgaaDoor Go.Proofs.YtodocfjbpkicgaaDoor.All Go.Proofs.YtodocfjbpkicgaaDoorW.PrintWords Go.Proofs.YtodocfjbpkicgaaDoorW.PrintLast
set_option linter.unusedVariables false
set_option linter.unusedSimpArgs false
theorem rd_at (xs : List Int) (i : Nat) (h : i < xs.length) : rd xs (i : Int) = xs[i] := by
 simp [rd, List.getD_eq_getElem?_getD, h]
theorem w64 (n : Int) (h : -9223372036854775808 ≤ n ∧ n < 9223372036854775808) : wrap64 n = n := by unfold wrap64; omega
theorem tmod_nat (n : Int) (h : 0 ≤ n) (m : Int) : Int.tmod n m = n % m := Int.tmod_eq_emod_of_nonneg h
theorem tdiv_nat (n : Int) (h : 0 ≤ n) (m : Int) : Int.tdiv n m = n / m := Int.tdiv_eq_ediv_of_nonneg h
theorem pow_le {i n : Nat} (h : i ≤ n) : (2 : Int) ^ i ≤ 2 ^ n := by
 rw [show n = i + (n - i) from by omega, Int.pow_add]
 have h1 := Bs.pow_pos i; have h2 := Bs.pow_pos (n - i)
 have := Int.mul_le_mul_of_nonneg_left (show (1 : Int) ≤ 2 ^ (n - i) by omega) (Int.le_of_lt h1)
 omega
def tk (L : List Int) (a n : Int) : Int × Bool :=
 if n < 0 ∨ n > 64 ∨ a < 0 ∨ a > (L.length : Int) ∨ n > (L.length : Int) - a then (0, false) else (Bs.number ((L.drop a.toNat).take n.toNat), true)
theorem tk_no {L : List Int} {a n : Int} (h : n < 0 ∨ n > 64 ∨ a < 0 ∨ a > (L.length : Int) ∨ n > (L.length : Int) - a) : tk L a n = (0, false) := if_pos h
theorem tk_yes {L : List Int} {a n : Int} (h : ¬ (n < 0 ∨ n > 64 ∨ a < 0 ∨ a > (L.length : Int) ∨ n > (L.length : Int) - a)) : tk L a n = (Bs.number ((L.drop a.toNat).take n.toNat), true) := if_neg h
theorem or_bit (v b : Int) (hv : 0 ≤ v ∧ 2 * v + 1 < 18446744073709551616) (hb : b = 0 ∨ b = 1) : Go.bits .or .u64 (2 * v) b = 2 * v + b := by
 rw [Ib.or_u64 _ _ (by omega) (by omega)]
 have h := Nat.two_pow_add_eq_or_of_lt (i := 1) (b := b.toNat) (by omega) v.toNat
 rw [show (2 * v).toNat = 2 ^ 1 * v.toNat from by omega, ← h]
 omega
theorem and_u8_one (x : Int) (hx : 0 ≤ x ∧ x < 256) : Go.bits .and .u8 x 1 = x % 2 := by
 simp only [Go.bits, Ib.wrap_u8]
 rw [show IntKind.u8.bits = 8 from rfl, BitVec.toNat_and, Ib.A27 8 x hx.1 hx.2, show (BitVec.ofInt 8 1).toNat = 2 ^ 1 - 1 from rfl, Nat.and_two_pow_sub_one_eq_mod]
 omega
theorem or_u8 (x y : Int) (hx : 0 ≤ x ∧ x < 256) (hy : 0 ≤ y ∧ y < 256) : Go.bits .or .u8 x y = ((x.toNat ||| y.toNat : Nat) : Int) := by
 simp only [Go.bits, Ib.wrap_u8]
 rw [show IntKind.u8.bits = 8 from rfl, BitVec.toNat_or, Ib.A27 8 x hx.1 hx.2, Ib.A27 8 y hy.1 hy.2]
 have : x.toNat ||| y.toNat < 2 ^ 8 := Nat.or_lt_two_pow (by omega) (by omega)
 omega
theorem or_u8_sum (t y : Int) (s : Nat) (hs : s ≤ 8) (h : 0 ≤ t * 2 ^ s ∧ t * 2 ^ s < 256) (hy : 0 ≤ y ∧ y < 2 ^ s) : Go.bits .or .u8 (t * 2 ^ s) y = t * 2 ^ s + y := by
 have h1 : (2 : Int) ^ s ≤ 2 ^ 8 := pow_le hs
 have h2 : (2 : Int) ^ 8 = 256 := by decide
 have h3 := Bs.pow_pos s
 have h4 : (0 : Int) ≤ t := by
  refine Decidable.byContradiction fun h5 => ?_
  have := Int.mul_le_mul_of_nonneg_right (show t ≤ -1 by omega) (Int.le_of_lt h3)
  omega
 rw [or_u8 _ _ h (by omega)]
 obtain ⟨m, rfl⟩ := Int.eq_ofNat_of_zero_le h4
 obtain ⟨z, rfl⟩ := Int.eq_ofNat_of_zero_le hy.1
 have h6 : ((m : Int) * 2 ^ s) = ((2 ^ s * m : Nat) : Int) := by push_cast; rw [Int.mul_comm]
 have h7 : z < 2 ^ s := by have := hy.2; exact_mod_cast this
 rw [h6, Int.toNat_natCast, Int.toNat_natCast, ← Nat.two_pow_add_eq_or_of_lt h7]
 push_cast
 rfl
theorem low_at (n : Nat) : ∀ (v : Int) (j : Nat) (h : j < (Bs.low v n).length), (Bs.low v n)[j] = v / 2 ^ (n - 1 - j) % 2 := by
 induction n with
 | zero => intro v j h; simp [Bs.low] at h
 | succ n ih =>
  intro v j h
  rw [Bs.A1k] at h
  simp only [Bs.low]
  by_cases hj : j < n
  ·rw [List.getElem_append_left (by rw [Bs.A1k]; exact hj), ih, show n + 1 - 1 - j = (n - 1 - j) + 1 from by omega, Int.pow_succ, Int.mul_comm, Int.ediv_ediv_of_nonneg (by decide)]
  ·rw [List.getElem_append_right (by rw [Bs.A1k]; omega)]
   simp only [Bs.A1k, List.getElem_singleton]
   rw [show n + 1 - 1 - j = 0 from by omega]; simp
theorem flat_at (b : List Int) (i : Nat) (h : i < (Bs.flat b).length) (h' : i / 8 < b.length) : (Bs.flat b)[i] = b[i / 8] / 2 ^ (7 - i % 8) % 2 := by
 induction b generalizing i with
 | nil => simp at h'
 | cons c b ih =>
  simp only [Bs.A3g]
  by_cases hi : i < 8
  ·rw [List.getElem_append_left (by rw [Bs.A1k]; exact hi), low_at]
   simp only [show i / 8 = 0 from by omega, List.getElem_cons_zero, show i % 8 = i from by omega]
  ·rw [List.getElem_append_right (by rw [Bs.A1k]; omega)]
   have h2 := ih (i - 8) (by rw [Bs.A3g, List.length_append, Bs.A1k] at h; omega) (by simp only [List.length_cons] at h'; omega)
   simp only [Bs.A1k]
   rw [h2]
   simp only [show i / 8 = (i - 8) / 8 + 1 from by omega, List.getElem_cons_succ, show (i - 8) % 8 = i % 8 from by omega]
theorem at_byte (j : Nat) (h : j < 9223372036854775808) : wrap64 (Int.tdiv (j : Int) 8) = ((j / 8 : Nat) : Int) := by rw [tdiv_nat _ (by omega), w64 _ (by omega)]; omega
theorem at_bit (j : Nat) (h : j < 9223372036854775808) : wrap64 (7 - Int.tmod (j : Int) 8) = ((7 - j % 8 : Nat) : Int) := by rw [tmod_nat _ (by omega), w64 _ (by omega)]; omega
theorem shr_u8 (c : Int) (s : Nat) (h : s ≤ 8) : shr .u8 c (s : Int) = c / 2 ^ s := by
 unfold shr; rw [Int.toNat_natCast, show IntKind.u8.bits = 8 from rfl, Nat.min_eq_left h]
theorem ediv_pow (c : Int) (s : Nat) (hc : 0 ≤ c ∧ c < 256) : 0 ≤ c / 2 ^ s ∧ c / 2 ^ s < 256 := by
 have h3 := Bs.pow_pos s
 exact ⟨Int.ediv_nonneg hc.1 (Int.le_of_lt h3), Int.lt_of_le_of_lt (Int.ediv_le_self _ hc.1) hc.2⟩
theorem number_63 {l : List Int} (h : Bs.Bits l) (hl : l.length ≤ 63) : 0 ≤ Bs.number l ∧ 2 * Bs.number l + 1 < 18446744073709551616 := by
 have hr := Bs.A2j h
 have hp : (2 : Int) ^ l.length ≤ 2 ^ 63 := pow_le hl
 rw [show (2 : Int) ^ 63 = 9223372036854775808 from by decide] at hp
 omega
theorem take_step (v c : Int) (s : Nat) (hs : s ≤ 8) (hv : 0 ≤ v ∧ 2 * v + 1 < 18446744073709551616) (hc : 0 ≤ c ∧ c < 256) :
    Go.bits .or .u64 (IntKind.u64.wrap (v * 2)) (IntKind.u64.wrap (Go.bits .and .u8 (shr .u8 c (s : Int)) 1)) = 2 * v + c / 2 ^ s % 2 := by
  have h4 := ediv_pow c s hc
  rw [shr_u8 c s hs, and_u8_one _ h4, Ib.wrap_u64, Ib.wrap_u64]
  generalize c / 2 ^ s = q at h4 ⊢
  rw [show v * 2 % 18446744073709551616 = 2 * v from by omega, show q % 2 % 18446744073709551616 = q % 2 from by omega, or_bit _ _ hv (by omega)]
theorem Take_l0 (b : List Int) (hb : Bs.Bytes b) (hl : 8 * b.length < 140737488355328) (a n : Nat) (hn : n ≤ 64) (han : a + n ≤ (Bs.flat b).length) : ∀ (d i : Nat), i + d = n →
    Ev (fun k => A02.l0 k b (a : Int) (n : Int) (Bs.number (((Bs.flat b).drop a).take i)) ((a + i : Nat) : Int)) (Bs.number (((Bs.flat b).drop a).take n), true) := by
  have hL := Bs.A10 b
  intro d
  induction d with
  | zero =>
    intro i hi
    refine Ev.step (fun k => ?_) (Ev.now _)
    simp only [A02.l0]
    rw [w64 _ (by omega), if_neg (by omega), show i = n from by omega]
  | succ d ih =>
    intro i hi
    have hlt : a + i < (Bs.flat b).length := by omega
    have hq : (a + i) / 8 < b.length := by omega
    have hn2 : a + i < 140737488355328 := by omega
    have hw1 : wrap64 ((a : Int) + n) = ((a + n : Nat) : Int) := by rw [w64 _ (by omega)]; omega
    have hw2 : wrap64 (((a + i : Nat) : Int) + 1) = ((a + (i + 1) : Nat) : Int) := by rw [w64 _ (by omega)]; omega
    have hin : ((a + i : Nat) : Int) < ((a + n : Nat) : Int) := by omega
    have hq' : (((a + i) / 8 : Nat) : Int) < (b.length : Int) := Int.ofNat_lt.2 hq
    have hn3 : a + i < 9223372036854775808 := by omega
    have h63 : i ≤ 63 := by omega
    have hc := hb b[(a + i) / 8] (List.getElem_mem hq)
    have := ih (i + 1) (by omega)
    have htk : ((Bs.flat b).drop a).take (i + 1) = ((Bs.flat b).drop a).take i ++ [(Bs.flat b)[a + i]] := by
      rw [List.take_add_one, List.getElem?_drop, List.getElem?_eq_getElem hlt]; rfl
    have hv := number_63 (((Bs.flat_bits b).drop a).take i) (Nat.le_trans (List.length_take_le _ _) h63)
    rw [htk, Bs.number_snoc, flat_at b (a + i) hlt hq] at this
    refine Ev.step (fun k => ?_) this
    simp only [A02.l0]
    rw [at_byte _ hn3, at_bit _ hn3, hw1, hw2, if_pos hin, if_pos (Int.natCast_nonneg _), if_pos hq', if_pos (Int.natCast_nonneg _), rd_at b _ hq, take_step _ _ _ (Nat.le_trans (Nat.sub_le _ _) (by decide)) hv hc]
theorem Take_is (b : List Int) (hb : Bs.Bytes b) (hl : 8 * b.length < 140737488355328) (a n : Int) : Ev (fun k => A02.f k b a n) (tk (Bs.flat b) a n) := by
 have hL := Bs.A10 b
 unfold A02.f
 by_cases c1 : n < 0
 ·rw [tk_no (.inl c1)]
  exact Ev.step (g := fun k => _) (fun k => by rw [if_pos c1]; simp only [A02.j0, if_true]) (Ev.now _)
 by_cases c2 : n > 64
 ·rw [tk_no (.inr (.inl c2))]
  exact Ev.step (g := fun k => _) (fun k => by rw [if_neg c1, if_pos c2]; simp only [A02.j0, if_true]) (Ev.now _)
 by_cases c3 : a < 0
 ·rw [tk_no (.inr (.inr (.inl c3)))]
  exact Ev.step (g := fun k => _) (fun k => by rw [if_neg c1, if_neg c2, if_pos c3]; simp only [A02.j0, if_true]) (Ev.now _)
 have e8 : wrap64 (8 * (b.length : Int)) = ((Bs.flat b).length : Int) := by rw [w64 _ (by omega)]; omega
 rw [e8]
 by_cases c4 : a > ((Bs.flat b).length : Int)
 ·rw [tk_no (.inr (.inr (.inr (.inl c4))))]
  exact Ev.step (g := fun k => _) (fun k => by rw [if_neg c1, if_neg c2, if_neg c3, if_pos c4]; simp only [A02.j0, if_true]) (Ev.now _)
 rw [w64 (((Bs.flat b).length : Int) - a) (by omega)]
 by_cases c5 : n > ((Bs.flat b).length : Int) - a
 ·rw [tk_no (.inr (.inr (.inr (.inr c5))))]
  exact Ev.step (g := fun k => _) (fun k => by rw [if_neg c1, if_neg c2, if_neg c3, if_neg c4, decide_eq_true c5]; simp only [A02.j0, if_true]) (Ev.now _)
 rw [tk_yes (by omega)]
 obtain ⟨a, rfl⟩ := Int.eq_ofNat_of_zero_le (Int.not_lt.1 c3)
 obtain ⟨n, rfl⟩ := Int.eq_ofNat_of_zero_le (Int.not_lt.1 c1)
 have := Take_l0 b hb hl a n (by omega) (by omega) n 0 (by omega)
 rw [Int.toNat_natCast, Int.toNat_natCast]
 refine Ev.step (g := fun k => _) (fun k => ?_) this
 rw [if_neg c1, if_neg c2, if_neg c3, if_neg c4, decide_eq_false c5]
 simp only [A02.j0]
 rw [if_neg (by decide)]
 rfl
theorem wr_succ (i : Nat) (h : i < 140737488355328) : wrap64 ((i : Int) + 1) = ((i + 1 : Nat) : Int) := by rw [w64 _ (by omega)]; omega
theorem wr_pred (m : Nat) (h : m < 140737488355328) : wrap64 ((m : Int) - 1) = (m : Int) - 1 := w64 _ (by omega)
theorem wr_pred' (m : Nat) (h0 : 0 < m) (h : m < 140737488355328) : wrap64 ((m : Int) - 1) = ((m - 1 : Nat) : Int) := by rw [w64 _ (by omega)]; omega
theorem wr_add (i j : Nat) (h : i + j < 140737488355328) : wrap64 ((i : Int) + (j : Int)) = ((i + j : Nat) : Int) := by rw [w64 _ (by omega)]; omega
theorem wr_eight (r : Nat) (h : r ≤ 8) : wrap64 (8 - (r : Int)) = ((8 - r : Nat) : Int) := by rw [w64 _ (by omega)]; omega
theorem wr_bytes (n : Nat) (h : n < 140737488355328) : wrap64 (Int.tdiv (wrap64 ((n : Int) + 7)) 8) = (((n + 7) / 8 : Nat) : Int) := by
 rw [w64 ((n : Int) + 7) (by omega), tdiv_nat _ (by omega), w64 _ (by omega)]; omega
theorem tmod8 (n : Nat) : Int.tmod (n : Int) 8 = ((n % 8 : Nat) : Int) := by rw [tmod_nat _ (by omega)]; omega
theorem shl_u8 (x : Int) (s : Nat) (h : s ≤ 8) : shl .u8 x (s : Int) = x * 2 ^ s % 256 := by
 unfold shl; rw [Int.toNat_natCast, show IntKind.u8.bits = 8 from rfl, Nat.min_eq_left h, Ib.wrap_u8]
theorem bit_of (v : Int) (m : Nat) (hv : 0 ≤ v ∧ v < 18446744073709551616) (hm : m ≤ 63) : Go.bits .and .u64 (shr .u64 v (m : Int)) 1 % 256 = v / 2 ^ m % 2 := by
 unfold shr
 rw [Int.toNat_natCast, show IntKind.u64.bits = 64 from rfl, Nat.min_eq_left (by omega)]
 have h3 := Bs.pow_pos m
 have h4 : 0 ≤ v / 2 ^ m := Int.ediv_nonneg hv.1 (Int.le_of_lt h3)
 have h5 : v / 2 ^ m < 18446744073709551616 := Int.lt_of_le_of_lt (Int.ediv_le_self _ hv.1) hv.2
 generalize v / 2 ^ m = q at h4 h5 ⊢
 rw [Ib.and_u64_one q ⟨h4, h5⟩]
 omega
theorem put_first {l : List Int} (h : l.length % 8 = 0) (x : Int) (hx : x = 0 ∨ x = 1) :
    (Bs.pack l ++ [0]).set (l.length / 8) (Go.bits .or .u8 (rd (Bs.pack l ++ [0]) ((l.length / 8 : Nat) : Int)) (shl .u8 x ((7 - l.length % 8 : Nat) : Int))) = Bs.pack (l ++ [x]) := by
  have hp := Bs.A2n l
  have hr : rd (Bs.pack l ++ [0]) ((l.length / 8 : Nat) : Int) = 0 := by
    rw [rd_at _ _ (by rw [List.length_append, List.length_singleton]; omega), List.getElem_append_right (by omega)]
    simp
  rw [hr, Bs.pack_snoc0 h, List.set_append_right _ _ (by omega), h, show l.length / 8 - (Bs.pack l).length = 0 from by omega, List.set_cons_zero]
  rcases hx with rfl | rfl
  · rw [show Go.bits .or .u8 0 (shl .u8 0 ((7 - 0 : Nat) : Int)) = 0 * 128 from by decide +kernel]
  · rw [show Go.bits .or .u8 0 (shl .u8 1 ((7 - 0 : Nat) : Int)) = 1 * 128 from by decide +kernel]
theorem put_next {l : List Int} (hb : Bs.Bits l) (h : l.length % 8 ≠ 0) (x : Int) (hx : x = 0 ∨ x = 1) :
    (Bs.pack l).set (l.length / 8) (Go.bits .or .u8 (rd (Bs.pack l) ((l.length / 8 : Nat) : Int)) (shl .u8 x ((7 - l.length % 8 : Nat) : Int))) = Bs.pack (l ++ [x]) := by
  have hp := Bs.A2n l
  have hlt : l.length / 8 < (Bs.pack l).length := by omega
  have hby := Bs.pack_bytes hb _ (List.getElem_mem hlt)
  obtain ⟨t, ht⟩ := Bs.pack_last h
  have hg : (Bs.pack l).getD (l.length / 8) 0 = (Bs.pack l)[l.length / 8] := by simp [List.getD_eq_getElem?_getD, hlt]
  have hrd : rd (Bs.pack l) ((l.length / 8 : Nat) : Int) = t * 2 ^ (8 - l.length % 8) := by rw [rd_at _ _ hlt, ← hg, ht]
  rw [← hg, ht] at hby
  rw [Bs.pack_snoc h, hrd, ht]
  have hr : l.length % 8 < 8 := Nat.mod_lt _ (by decide)
  generalize l.length % 8 = r at h hby hr ⊢
  have h1 : (2 : Int) ^ (8 - r) = 2 * 2 ^ (7 - r) := by rw [show 8 - r = (7 - r) + 1 from by omega, Int.pow_succ, Int.mul_comm]
  have h2 : (2 : Int) ^ (7 - r) ≤ 2 ^ 6 := pow_le (by omega)
  rw [show (2 : Int) ^ 6 = 64 from by decide] at h2
  have h3 := Bs.pow_pos (7 - r)
  have h4 : 0 ≤ x * 2 ^ (7 - r) ∧ x * 2 ^ (7 - r) < 2 ^ (8 - r) := by
    rcases hx with rfl | rfl
    · rw [Int.zero_mul]; omega
    · rw [Int.one_mul]; omega
  rw [shl_u8 _ _ (by omega), show x * 2 ^ (7 - r) % 256 = x * 2 ^ (7 - r) from Int.emod_eq_of_lt h4.1 (by omega), or_u8_sum t _ _ (by omega) hby h4]
theorem Put_l0 (v : Int) (hv : 0 ≤ v ∧ v < 18446744073709551616) : ∀ (m : Nat) (l : List Int), Bs.Bits l → m ≤ 64 → l.length + m < 140737488355328 →
    Ev (fun k => A0v.l0 k v ((m : Int) - 1) (Bs.pack l) (l.length : Int)) (Bs.pack (l ++ Bs.low v m), ((l.length + m : Nat) : Int)) := by
  intro m
  induction m with
  | zero =>
    intro l hl _ _
    refine Ev.step (fun k => ?_) (Ev.now _)
    simp only [A0v.l0]
    rw [if_neg (by omega)]
    simp only [Bs.low, List.append_nil, Nat.add_zero]
  | succ m ih =>
    intro l hl hm hlen
    have hp := Bs.A2n l
    have hn2 : l.length < 140737488355328 := by omega
    have hn3 : l.length < 9223372036854775808 := by omega
    have hlp : (Bs.pack l).length < 140737488355328 := by omega
    have hm63 : m ≤ 63 := by omega
    have hm47 : m < 140737488355328 := by omega
    have hm64 : m ≤ 64 := by omega
    have hlm : (l ++ [v / 2 ^ m % 2]).length + m < 140737488355328 := by rw [List.length_append, List.length_singleton]; omega
    have h7 : ((m + 1 : Nat) : Int) - 1 = (m : Int) := by omega
    have hm0 : (m : Int) ≥ 0 := Int.natCast_nonneg _
    have hi1 : l.length % 8 = 0 → ((l.length / 8 : Nat) : Int) < ((Bs.pack l ++ [0]).length : Int) := by intro h; rw [List.length_append, List.length_singleton]; omega
    have hi2 : l.length % 8 ≠ 0 → ((l.length / 8 : Nat) : Int) < ((Bs.pack l).length : Int) := by intro h; omega
    have hz1 : l.length % 8 = 0 → ((l.length % 8 : Nat) : Int) = 0 := by omega
    have hz2 : l.length % 8 ≠ 0 → ¬ ((l.length % 8 : Nat) : Int) = 0 := by omega
    have hx : v / 2 ^ m % 2 = 0 ∨ v / 2 ^ m % 2 = 1 := Int.emod_two_eq _
    have hb := bit_of v m hv hm63
    have hw1 := wr_pred m hm47
    have hw2 := wr_succ l.length hn2
    have ht1 := tmod8 l.length
    have := ih (l ++ [v / 2 ^ m % 2]) (hl.append (Bs.Bits.cons hx Bs.Bits.nil)) hm64 hlm
    rw [List.append_assoc, List.singleton_append, ← Bs.low_top, List.length_append, List.length_singleton] at this
    rw [show l.length + (m + 1) = l.length + 1 + m from by rw [Nat.add_comm m 1, Nat.add_assoc]]
    refine Ev.step (fun k => ?_) this
    simp only [A0v.l0]
    rw [h7, if_pos hm0, at_byte _ hn3, at_bit _ hn3, ht1, hw1, hw2, hb]
    by_cases h8 : l.length % 8 = 0
    · rw [if_pos (hz1 h8), if_pos hlp]
      simp only [Option.bind_some]
      rw [if_pos (Int.natCast_nonneg _), if_pos (hi1 h8), if_pos hm0, if_pos (Int.natCast_nonneg _), Int.toNat_natCast, put_first h8 _ hx]
    · rw [if_neg (hz2 h8), if_pos (Int.natCast_nonneg _), if_pos (hi2 h8), if_pos hm0, if_pos (Int.natCast_nonneg _), Int.toNat_natCast, put_next hl h8 _ hx]
theorem Put_is (l : List Int) (hl : Bs.Bits l) (hlen : l.length + 64 < 140737488355328) (v : Int) (hv : 0 ≤ v ∧ v < 18446744073709551616) (n : Int) :
    Ev (fun k => A0v.f k (Bs.pack l) (l.length : Int) v n) (if n < 0 ∨ n > 64 then (Bs.pack l, (l.length : Int)) else (Bs.pack (l ++ Bs.low v n.toNat), ((l.length + n.toNat : Nat) : Int))) := by
  have hp := Bs.A2n l
  unfold A0v.f A1s.f
  rw [if_pos (by omega)]
  simp only [Option.bind_some]
  by_cases c1 : n < 0
  · rw [if_pos (.inl c1)]
    exact Ev.step (g := fun k => _) (fun k => by rw [if_pos c1]; simp only [A0v.j0, if_true]) (Ev.now _)
  by_cases c2 : n > 64
  · rw [if_pos (.inr c2)]
    exact Ev.step (g := fun k => _) (fun k => by rw [if_neg c1, decide_eq_true c2]; simp only [A0v.j0, if_true]) (Ev.now _)
  rw [if_neg (by omega)]
  refine Ev.step (g := fun k => _) (fun k => ?_) (Put_l0 v hv n.toNat l hl (by omega) (by omega))
  rw [if_neg c1, decide_eq_false c2]
  simp only [A0v.j0]
  rw [if_neg (by decide), w64 _ (by omega), show ((n.toNat : Nat) : Int) = n from by omega]
end Go.Proofs.YtodocfjbpkicgaaDoor.PBits
end
section
namespace Go.Proofs.YtodocfjbpkicgaaDoor.PXor
open Go Go.RowKit Go.Proofs.YtodocfjbpkicgaaDoor Go.Proofs.YtodocfjbpkicgaaDoor.All Go.Proofs.YtodocfjbpkicgaaDoorW.PrintWords Go.Proofs.YtodocfjbpkicgaaDoorW.PrintLast
set_option linter.unusedVariables false
set_option linter.unusedSimpArgs false
def LL (d : Int) : Nat := 64 - Lib.bitLen d.toNat
def SS (d : Int) : Nat := Lib.bitLen d.toNat - Lib.ctz 64 d.toNat
structure Win (d : Int) : Prop where
 lt : LL d < 64
 pos : 1 ≤ SS d
 le : LL d + SS d ≤ 64
 hi : d < 2 ^ (64 - LL d)
 top : d / 2 ^ (63 - LL d) = 1
 mul : d = (d / 2 ^ (64 - LL d - SS d)) * 2 ^ (64 - LL d - SS d)
 odd : d / 2 ^ (64 - LL d - SS d) % 2 = 1
theorem win (d : Int) (h0 : 0 < d) (h1 : d < 18446744073709551616) : Win d := by
 obtain ⟨x, rfl⟩ := Int.eq_ofNat_of_zero_le (Int.le_of_lt h0)
 have hx0 : x ≠ 0 := by omega
 have hx : x < 2 ^ 64 := by omega
 obtain ⟨b1, b2, b3⟩ := Lib.bitLenAux_bounds 64 x hx hx0
 have b4 := Lib.bitLen_le x 64 (by omega) hx
 obtain ⟨m, hm, hk⟩ := Lib.ctzFrom_spec 64 x (by omega) hx
 have e : Lib.ctz 64 x = Lib.ctzFrom 64 x := by simp [Lib.ctz, hx0]
 have en : Lib.bitLen x = Lib.bitLenAux 64 x := rfl
 have hlt : Lib.ctzFrom 64 x < Lib.bitLenAux 64 x := by
  apply Nat.lt_of_not_le
  intro hle
  have h2 : 2 ^ Lib.bitLenAux 64 x ≤ 2 ^ Lib.ctzFrom 64 x := Nat.pow_le_pow_right (by decide) hle
  have h3 : 2 ^ Lib.ctzFrom 64 x ≤ x := by
   conv => rhs; rw [hm]
   exact Nat.le_mul_of_pos_right _ (by omega)
  omega
 have eL : LL (x : Int) = 64 - Lib.bitLenAux 64 x := by unfold LL; rw [Int.toNat_natCast, en]
 have eS : SS (x : Int) = Lib.bitLenAux 64 x - Lib.ctzFrom 64 x := by unfold SS; rw [Int.toNat_natCast, en, e]
 rw [en] at b4
 generalize hn : Lib.bitLenAux 64 x = n at *
 generalize ht : Lib.ctzFrom 64 x = t at *
 have q1 : 64 - LL (x : Int) = n := by omega
 have q2 : 63 - LL (x : Int) = n - 1 := by omega
 have q3 : 64 - LL (x : Int) - SS (x : Int) = t := by omega
 have hp : 0 < 2 ^ t := Nat.two_pow_pos t
 have hd : x / 2 ^ t = 2 * m + 1 := by rw [hm, Nat.mul_div_cancel_left _ hp]
 have hcast : ∀ j : Nat, ((x : Int) / 2 ^ j) = ((x / 2 ^ j : Nat) : Int) := fun j => by simp
 refine ⟨by omega, by omega, by omega, ?_, ?_, ?_, ?_⟩
 ·rw [q1]; exact_mod_cast b3
 ·rw [q2, hcast]
  have : x / 2 ^ (n - 1) = 1 := by
   have h5 : 2 ^ n = 2 * 2 ^ (n - 1) := by
    conv => lhs; rw [show n = (n - 1) + 1 from by omega]
    rw [Nat.pow_succ]; omega
   exact Nat.div_eq_of_lt_le (by omega) (by omega)
  rw [this]; rfl
 ·rw [q3, hcast, hd]
  have : x = (2 * m + 1) * 2 ^ t := by rw [Nat.mul_comm]; exact hm
  exact_mod_cast this
 ·rw [q3, hcast, hd]; omega
def cb (l n : Nat) (d : Int) : List Int :=
 if d = 0 then [0]
 else if 0 < n ∧ l ≤ LL d ∧ LL d + SS d ≤ l + n then [1, 0] ++ Bs.low (d / 2 ^ (64 - l - n)) n
 else [1, 1] ++ Bs.low (LL d) 6 ++ Bs.low ((SS d : Int) - 1) 6 ++ Bs.low (d / 2 ^ (64 - LL d - SS d)) (SS d)
def cl (l n : Nat) (d : Int) : Nat := if d = 0 then l else if 0 < n ∧ l ≤ LL d ∧ LL d + SS d ≤ l + n then l else LL d
def cn (l n : Nat) (d : Int) : Nat := if d = 0 then n else if 0 < n ∧ l ≤ LL d ∧ LL d + SS d ≤ l + n then n else SS d
theorem cb_bits (l n : Nat) (d : Int) : Bs.Bits (cb l n d) := by
 have h : Bs.Bits [(1 : Int), 0] := .cons (.inr rfl) (.cons (.inl rfl) .nil)
 have h' : Bs.Bits [(1 : Int), 1] := .cons (.inr rfl) (.cons (.inr rfl) .nil)
 unfold cb
 split
 ·exact .cons (.inl rfl) .nil
 ·split
  ·exact h.append (Bs.low_bits _ _)
  ·exact ((h'.append (Bs.low_bits _ _)).append (Bs.low_bits _ _)).append (Bs.low_bits _ _)
theorem cb_length (l n : Nat) (d : Int) : (cb l n d).length = if d = 0 then 1 else if 0 < n ∧ l ≤ LL d ∧ LL d + SS d ≤ l + n then 2 + n else 14 + SS d := by
 unfold cb
 split
 ·rfl
 ·split
  ·simp only [List.length_append, List.length_cons, List.length_nil, Bs.A1k]
  ·simp only [List.length_append, List.length_cons, List.length_nil, Bs.A1k]
theorem cb_ok (l n : Nat) (d : Int) (h : l + n ≤ 64) (h0 : 0 ≤ d) (h1 : d < 18446744073709551616) : cl l n d + cn l n d ≤ 64 := by
 unfold cl cn
 by_cases hd : d = 0
 ·rw [if_pos hd, if_pos hd]; exact h
 ·rw [if_neg hd, if_neg hd]
  split
  ·exact h
  ·exact (win d (by omega) h1).le
theorem SS_le (d : Int) (h0 : 0 < d) (h1 : d < 18446744073709551616) : SS d ≤ 64 := by have := (win d h0 h1).le; omega
theorem cb_short (l n : Nat) (d : Int) (h : l + n ≤ 64) (h0 : 0 ≤ d) (h1 : d < 18446744073709551616) : 1 ≤ (cb l n d).length ∧ (cb l n d).length ≤ 78 := by
 rw [cb_length]
 by_cases hd : d = 0
 ·rw [if_pos hd]; omega
 ·rw [if_neg hd]
  have := SS_le d (by omega) h1
  split <;> omega
theorem xor_range (a b : Int) (ha : 0 ≤ a ∧ a < 18446744073709551616) (hb : 0 ≤ b ∧ b < 18446744073709551616) : 0 ≤ Go.bits .xor .u64 a b ∧ Go.bits .xor .u64 a b < 18446744073709551616 := by
 rw [Ib.xor_u64 a b ha hb]
 have := Nat.xor_lt_two_pow (x := a.toNat) (y := b.toNat) (n := 64) (by omega) (by omega)
 omega
theorem xor_back (p x : Int) (hp : 0 ≤ p ∧ p < 18446744073709551616) (hx : 0 ≤ x ∧ x < 18446744073709551616) : Go.bits .xor .u64 (Go.bits .xor .u64 p x) p = x := by
 have hr := xor_range p x hp hx
 rw [Ib.xor_u64 _ p hr hp, Ib.xor_u64 p x hp hx, Int.toNat_natCast, Nat.xor_comm p.toNat, Nat.xor_assoc, Nat.xor_self, Nat.xor_zero]
 omega
theorem xor_comm (a b : Int) (ha : 0 ≤ a ∧ a < 18446744073709551616) (hb : 0 ≤ b ∧ b < 18446744073709551616) : Go.bits .xor .u64 a b = Go.bits .xor .u64 b a := by
 rw [Ib.xor_u64 a b ha hb, Ib.xor_u64 b a hb ha, Nat.xor_comm]
theorem window_is (d : Int) (h0 : 0 < d) (h1 : d < 18446744073709551616) : xor_window.f d = some ((LL d : Int), (SS d : Int)) := by
 have hw := win d h0 h1
 have b4 : Lib.bitLen d.toNat ≤ 64 := Lib.bitLen_le d.toNat 64 (by omega) (by omega)
 have b5 := hw.lt
 have b6 := hw.pos
 unfold xor_window.f bits_LeadingZeros64.f bits_TrailingZeros64.f
 rw [if_pos (by omega)]
 simp only [Option.bind_some]
 rw [if_pos (by omega)]
 simp only [Option.bind_some]
 unfold LL SS at *
 have e1 : wrap64 (64 - (64 - (Lib.bitLen d.toNat : Int))) = (Lib.bitLen d.toNat : Int) := by rw [PBits.w64 _ (by omega)]; omega
 rw [e1, PBits.w64 _ (by omega)]
 congr 2
 ·omega
 ·omega
theorem shr_is (x : Int) (s : Nat) (h : s ≤ 64) : shr .u64 x (s : Int) = x / 2 ^ s := by
 unfold shr
 simp only [Int.toNat_natCast]
 rw [show min s IntKind.u64.bits = s from Nat.min_eq_left h]
theorem putk (l : List Int) (hl : Bs.Bits l) (hlen : l.length ≤ 1000) (v : Int) (hv : 0 ≤ v ∧ v < 18446744073709551616) (m : Nat) (hm : m ≤ 64) {n : Int} (hn : n = (m : Int)) :
    Ev (fun k => A0v.f k (Bs.pack l) (l.length : Int) v n) (Bs.pack (l ++ Bs.low v m), ((l ++ Bs.low v m).length : Int)) := by
  have h := PBits.Put_is l hl (by omega) v hv n
  rw [if_neg (by omega)] at h
  subst hn
  rw [Int.toNat_natCast] at h
  rw [List.length_append, Bs.A1k]
  exact h
theorem putk0 (v : Int) (hv : 0 ≤ v ∧ v < 18446744073709551616) (m : Nat) (hm : m ≤ 64) {n : Int} (hn : n = (m : Int)) :
    Ev (fun k => A0v.f k [] 0 v n) (Bs.pack (Bs.low v m), ((Bs.low v m).length : Int)) := by
  have := putk [] .nil (by simp) v hv m hm hn
  simp only [List.nil_append, Bs.pack_nil] at this
  exact this
theorem div_range (d : Int) (h0 : 0 ≤ d) (h1 : d < 18446744073709551616) (s : Nat) : 0 ≤ d / 2 ^ s ∧ d / 2 ^ s < 18446744073709551616 := by
 have hp : (0 : Int) < 2 ^ s := Bs.pow_pos s
 refine ⟨Int.ediv_nonneg h0 (Int.le_of_lt hp), Int.lt_of_le_of_lt (Int.ediv_le_self _ h0) h1⟩
theorem Code_is (p v : Int) (l n : Nat) (hp : 0 ≤ p ∧ p < 18446744073709551616) (hv : 0 ≤ v ∧ v < 18446744073709551616) (hln : l + n ≤ 64) {d : Int} (hd : Go.bits .xor .u64 v p = d) :
    Ev (fun k => A1b.f k p (l : Int) (n : Int) v) (Bs.pack (cb l n d), ((cb l n d).length : Int), v, (cl l n d : Int), (cn l n d : Int)) := by
  have hr := xor_range v p hv hp
  rw [hd] at hr
  by_cases h0 : d = 0
  · subst h0
    have := putk0 0 (by omega) 1 (by omega) (n := 1) rfl
    refine Ev.congr (fun k => by unfold A1b.f; rw [hd, if_pos rfl]) (Ev.bind this ?_)
    unfold cb cl cn
    simp only [if_true]
    exact Ev.now _
  have hw := win d (by omega) hr.2
  have hs := SS_le d (by omega) hr.2
  have g1 := hw.lt
  have g2 := hw.pos
  have g3 := hw.le
  have ew := window_is d (by omega) hr.2
  have main : ∀ b : Bool, b = decide (0 < n ∧ l ≤ LL d ∧ LL d + SS d ≤ l + n) → Ev (fun k => A1b.j0 k d (LL d : Int) (SS d : Int) b v (l : Int) (n : Int)) (Bs.pack (cb l n d), ((cb l n d).length : Int), v, (cl l n d : Int), (cn l n d : Int)) := by
    intro b hb
    by_cases hc : 0 < n ∧ l ≤ LL d ∧ LL d + SS d ≤ l + n
    · have hb' : b = true := by rw [hb]; exact decide_eq_true hc
      subst hb'
      have e64 : wrap64 (wrap64 (64 - (l : Int)) - (n : Int)) = ((64 - l - n : Nat) : Int) := by rw [PBits.w64 (64 - (l : Int)) (by omega), PBits.w64 _ (by omega)]; omega
      have hput := putk0 2 (by omega) 2 (by omega) (n := 2) rfl
      have l2 : Bs.low 2 2 = [1, 0] := by decide
      rw [l2] at hput
      have hput2 := putk [1, 0] (.cons (.inr rfl) (.cons (.inl rfl) .nil)) (by simp) (d / 2 ^ (64 - l - n)) (div_range d hr.1 hr.2 _) n (by omega) (n := (n : Int)) rfl
      refine Ev.step (fun k => by rw [A1b.j0, if_pos rfl, e64]) (Ev.bind hput ?_)
      refine Ev.congr (fun k => by rw [if_pos (Int.natCast_nonneg _), shr_is _ _ (by omega)]) (Ev.bind hput2 ?_)
      unfold cb cl cn
      rw [if_neg h0, if_neg h0, if_neg h0, if_pos hc, if_pos hc, if_pos hc]
      exact Ev.now _
    · have hb' : b = false := by rw [hb]; exact decide_eq_false hc
      subst hb'
      have e64 : wrap64 (wrap64 (64 - (LL d : Int)) - (SS d : Int)) = ((64 - LL d - SS d : Nat) : Int) := by rw [PBits.w64 (64 - (LL d : Int)) (by omega), PBits.w64 _ (by omega)]; omega
      have u1 : IntKind.u64.wrap ((LL d : Int)) = (LL d : Int) := by rw [Ib.wrap_u64]; omega
      have u2 : IntKind.u64.wrap (wrap64 ((SS d : Int) - 1)) = (SS d : Int) - 1 := by rw [PBits.w64 _ (by omega), Ib.wrap_u64]; omega
      have hput := putk0 3 (by omega) 2 (by omega) (n := 2) rfl
      have l2 : Bs.low 3 2 = [1, 1] := by decide
      rw [l2] at hput
      have b1 : Bs.Bits [(1 : Int), 1] := .cons (.inr rfl) (.cons (.inr rfl) .nil)
      have hput2 := putk [1, 1] b1 (by simp) (LL d : Int) (by omega) 6 (by omega) (n := 6) rfl
      have b2 := b1.append (Bs.low_bits 6 (LL d : Int))
      have hput3 := putk _ b2 (by simp [Bs.A1k]) ((SS d : Int) - 1) (by omega) 6 (by omega) (n := 6) rfl
      have b3 := b2.append (Bs.low_bits 6 ((SS d : Int) - 1))
      have hput4 := putk _ b3 (by simp [Bs.A1k]) (d / 2 ^ (64 - LL d - SS d)) (div_range d hr.1 hr.2 _) (SS d) (by omega) (n := (SS d : Int)) rfl
      refine Ev.step (fun k => by rw [A1b.j0, if_neg (by decide), e64, u1, u2]) (Ev.bind hput ?_)
      refine Ev.bind hput2 ?_
      refine Ev.bind hput3 ?_
      refine Ev.congr (fun k => by rw [if_pos (Int.natCast_nonneg _), shr_is _ _ (by omega)]) (Ev.bind hput4 ?_)
      unfold cb cl cn
      rw [if_neg h0, if_neg h0, if_neg h0, if_neg hc, if_neg hc, if_neg hc]
      exact Ev.now _
  have w1 : wrap64 ((LL d : Int) + (SS d : Int)) = ((LL d + SS d : Nat) : Int) := by rw [PBits.w64 _ (by omega)]; omega
  have w2 : wrap64 ((l : Int) + (n : Int)) = ((l + n : Nat) : Int) := by rw [PBits.w64 _ (by omega)]; omega
  by_cases c1 : 0 < n
  · by_cases c2 : l ≤ LL d
    · refine Ev.congr (fun k => ?_) (main (decide (wrap64 ((LL d : Int) + (SS d : Int)) ≤ wrap64 ((l : Int) + (n : Int)))) ?_)
      · unfold A1b.f
        rw [hd, if_neg h0, ew]
        simp only [Option.bind_some]
        rw [if_pos (by omega), if_pos (by omega)]
      · rw [w1, w2]
        congr 1
        exact propext ⟨fun h => ⟨c1, c2, by omega⟩, fun h => by omega⟩
    · refine Ev.congr (fun k => ?_) (main false ?_)
      · unfold A1b.f
        rw [hd, if_neg h0, ew]
        simp only [Option.bind_some]
        rw [if_pos (by omega), if_neg (by omega)]
      · exact (decide_eq_false (by omega)).symm
  · refine Ev.congr (fun k => ?_) (main false ?_)
    · unfold A1b.f
      rw [hd, if_neg h0, ew]
      simp only [Option.bind_some]
      rw [if_neg (by omega)]
    · exact (decide_eq_false (by omega)).symm
end Go.Proofs.YtodocfjbpkicgaaDoor.PXor
end
section
namespace Go.Proofs.YtodocfjbpkicgaaDoor.PDod
open Go Go.RowKit Go.Proofs.YtodocfjbpkicgaaDoor Go.Proofs.YtodocfjbpkicgaaDoor.All Go.Proofs.YtodocfjbpkicgaaDoorW.PrintWords Go.Proofs.YtodocfjbpkicgaaDoorW.PrintLast
set_option linter.unusedVariables false
set_option linter.unusedSimpArgs false
def restL (L : List Int) (a : Int) : List Int := if a < 0 ∨ a > (L.length : Int) then [] else L.drop a.toNat
theorem restL_bits {L : List Int} (hL : Bs.Bits L) (a : Int) : Bs.Bits (restL L a) := by
 unfold restL
 split
 ·exact Bs.Bits.nil
 ·exact hL.drop _
end Go.Proofs.YtodocfjbpkicgaaDoor.PDod
end
