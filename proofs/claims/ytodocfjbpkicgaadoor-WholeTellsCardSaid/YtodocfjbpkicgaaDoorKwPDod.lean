-- copied by a program of the session
import Derived.Test.YtodocfjbpkicgaaDoorRows
import Derived.LaidMore
import Derived.ProofKit
import Derived.OpenShut
import Derived.Stop.Joined
import Derived.Laws.Entries
import Derived.RowKit
import Derived.Test.YtodocfjbpkicgaaDoorKwAllx22
import Derived.Test.YtodocfjbpkicgaaDoorKwAllx5
import Derived.Test.YtodocfjbpkicgaaDoorKwAllx73
import Derived.Test.YtodocfjbpkicgaaDoorKwAllx32
set_option linter.unusedSimpArgs false
set_option linter.unusedVariables false
set_option maxRecDepth 100000
section
namespace Go.Proofs.YtodocfjbpkicgaaDoor
open Go Go.ChangeShapes Go.WideShapes Go.ChangeAt Go.WideMaps Go.WideElems Go.RowKit
def tabLaid {H : Type} : List (String × DataW H) := [("math/bits.deBruijn64tab", Rows.laid_math_bits_deBruijn64tab)]
theorem gTab : Tryd.prog.globalNamed "math/bits.deBruijn64tab" = some 0 := by kernel_rfl
theorem tTab : (Tryd.prog.globals[0]?).map (·.type) = some 207 := by kernel_rfl
theorem uTab : Tryd.prog.underlying 207 = some (.array 64 5) := by kernel_rfl
theorem uByte : Tryd.prog.underlying 5 = some (.int .u8) := by kernel_rfl
theorem cByte : Tryd.prog.cellsOf 5 = 1 := by kernel_rfl
theorem dTab {H : Type} : (Rows.laid_math_bits_deBruijn64tab : DataW H) = .agg ((List.range 64).map fun j => .lit (.int .u8 (Lib.deBruijn64tab.getD j 0))) := by kernel_rfl
theorem tab_of_laid {W : World} (h : laidMetH Tryd.prog tabLaid W) : A39 W := by
 rw [MakeChecks.laidMetH_plain _ _ _ (by kernel_rfl)] at h
 obtain ⟨ps, ⟨g0, t0, cs0, f0, p0, q0, hg0, ht0, hv0, hd0, _, _⟩, _, _⟩ := h
 obtain rfl := Option.some.inj (gTab.symm.trans hg0)
 obtain rfl := Option.some.inj (tTab.symm.trans ht0)
 obtain ⟨xs, m, rfl, hx, hlen, hn, hel⟩ := DataW.trod_array uTab hd0
 intro j hj
 rw [cByte] at hel
 have hj' := hel j hj
 obtain ⟨x, hxj⟩ : ∃ x, xs[j]? = some x := ⟨xs[j]'(by omega), List.getElem?_eq_getElem (by omega)⟩
 rw [hxj] at hj'
 obtain ⟨k, e1, e2, _⟩ := DataW.trod_int uByte hj'
 rw [dTab] at hx
 simp only [Prod.mk.injEq, DataW.agg.injEq] at hx
 have h1 : (xs.map (·.1))[j]? = some x.1 := by rw [List.getElem?_map, hxj]; rfl
 rw [← hx.1, List.getElem?_map, List.getElem?_range hj, e2] at h1
 simp only [Option.map_some, Option.some.injEq, DataW.lit.injEq, Lit.int.injEq, true_and] at h1
 rw [World.var?_cell hg0 hv0 j]
 have h2 : (cs0.toList.drop (j * 1))[0]? = some (.int .u8 k) := by
  have : ((cs0.toList.drop (j * 1)).take 1)[0]? = some (.int .u8 k) := by rw [e1]; rfl
  rw [List.getElem?_take] at this
  simpa using this
 rw [List.getElem?_drop, Nat.mul_one, Nat.add_zero] at h2
 rw [h1]
 simpa using h2
theorem door_met (os : Os) (args : Array Value) : laidMetH Tryd.prog tabLaid ((World.doorLaid Tryd.prog 600 os).forCall (fun _ _ => 0) ⟨#[], args, []⟩).memory :=
 laidMetH_of_parts3 (fuel := 8) (laidMet_of_run' 8 (by kernel_rfl) (by kernel_rfl)) (by kernel_rfl) (by kernel_rfl)
end Go.Proofs.YtodocfjbpkicgaaDoor
end
section
namespace Ib
open Go
theorem wrap_u64 (n : Int) : IntKind.u64.wrap n = n % 18446744073709551616 := by simp [IntKind.wrap, IntKind.bits, IntKind.signed]
theorem wrap_u32 (n : Int) : IntKind.u32.wrap n = n % 4294967296 := by simp [IntKind.wrap, IntKind.bits, IntKind.signed]
theorem wrap_u8 (n : Int) : IntKind.u8.wrap n = n % 256 := by simp [IntKind.wrap, IntKind.bits, IntKind.signed]
theorem wrap_i64 (n : Int) : IntKind.i64.wrap n = (n + 9223372036854775808) % 18446744073709551616 - 9223372036854775808 := by
 simp [IntKind.wrap, IntKind.bits, IntKind.signed]
 split <;> omega
theorem wf_u8 {a : Int} (h : (Lit.int .u8 a).wf = true) : 0 ≤ a ∧ a < 256 := by
 simp [Lit.wf, IntKind.min, IntKind.max, IntKind.bits, IntKind.signed] at h; omega
theorem A3g (w : Nat) (x : Int) (h0 : 0 ≤ x) (h : x < 2 ^ w) : (BitVec.ofInt w x).toNat = x.toNat := by
 rw [BitVec.toNat_ofInt]
 congr 1
 exact Int.emod_eq_of_lt h0 (by exact_mod_cast h)
theorem xor_u64 (x y : Int) (hx : 0 ≤ x ∧ x < 18446744073709551616) (hy : 0 ≤ y ∧ y < 18446744073709551616) : bits .xor .u64 x y = ((x.toNat ^^^ y.toNat : Nat) : Int) := by
 simp only [bits, wrap_u64]
 rw [show IntKind.u64.bits = 64 from rfl, BitVec.toNat_xor, A3g 64 x hx.1 hx.2, A3g 64 y hy.1 hy.2]
 have : x.toNat ^^^ y.toNat < 2 ^ 64 := Nat.xor_lt_two_pow (by omega) (by omega)
 omega
theorem xor_u64_zero (x : Int) (hx : 0 ≤ x ∧ x < 18446744073709551616) : bits .xor .u64 x 0 = x := by
 rw [xor_u64 x 0 hx (by omega)]; simp; omega
theorem and_u64 (x y : Int) (hx : 0 ≤ x ∧ x < 18446744073709551616) (hy : 0 ≤ y ∧ y < 18446744073709551616) : bits .and .u64 x y = ((x.toNat &&& y.toNat : Nat) : Int) := by
 simp only [bits, wrap_u64]
 rw [show IntKind.u64.bits = 64 from rfl, BitVec.toNat_and, A3g 64 x hx.1 hx.2, A3g 64 y hy.1 hy.2]
 have : x.toNat &&& y.toNat ≤ x.toNat := Nat.and_le_left
 omega
theorem and_u64_one (x : Int) (hx : 0 ≤ x ∧ x < 18446744073709551616) : bits .and .u64 x 1 = x % 2 := by
 rw [and_u64 x 1 hx (by omega)]
 rw [show (1 : Int).toNat = 2 ^ 1 - 1 from rfl, Nat.and_two_pow_sub_one_eq_mod]; omega
theorem or_u64 (x y : Int) (hx : 0 ≤ x ∧ x < 18446744073709551616) (hy : 0 ≤ y ∧ y < 18446744073709551616) : bits .or .u64 x y = ((x.toNat ||| y.toNat : Nat) : Int) := by
 simp only [bits, wrap_u64]
 rw [show IntKind.u64.bits = 64 from rfl, BitVec.toNat_or, A3g 64 x hx.1 hx.2, A3g 64 y hy.1 hy.2]
 have : x.toNat ||| y.toNat < 2 ^ 64 := Nat.or_lt_two_pow (by omega) (by omega)
 omega
end Ib
end
section
namespace Bs
def number (l : List Int) : Int := l.foldl (fun v b => 2 * v + b) 0
def low (v : Int) : Nat → List Int
 | 0 => []
 | n + 1 => low (v / 2) n ++ [v % 2]
def Bits (l : List Int) : Prop := ∀ x ∈ l, x = 0 ∨ x = 1
def Bytes (l : List Int) : Prop := ∀ x ∈ l, 0 ≤ x ∧ x < 256
def flat (b : List Int) : List Int := b.flatMap fun c => low c 8
def pack (l : List Int) : List Int :=
 if h : l = [] then [] else number (l.take 8 ++ List.replicate (8 - l.length) 0) :: pack (l.drop 8)
termination_by l.length
decreasing_by
 have := List.length_pos_iff.2 h
 simp only [List.length_drop]; omega
theorem foldl_number (l : List Int) : ∀ a : Int, l.foldl (fun v b => 2 * v + b) a = a * 2 ^ l.length + number l := by
 induction l with
 | nil => intro a; simp [number]
 | cons x l ih =>
  intro a
  simp only [List.foldl_cons, List.length_cons, number]
  rw [ih, ih (2 * 0 + x), Int.pow_succ, Int.add_mul, Int.mul_zero, Int.zero_add, Int.mul_comm (2 ^ l.length) 2, ← Int.mul_assoc, Int.mul_comm 2 a, Int.add_assoc]
theorem number_nil : number [] = 0 := rfl
theorem number_append (l m : List Int) : number (l ++ m) = number l * 2 ^ m.length + number m := by
 rw [number, List.foldl_append]; exact foldl_number m _
theorem number_cons (x : Int) (l : List Int) : number (x :: l) = x * 2 ^ l.length + number l := by
 rw [show x :: l = [x] ++ l from rfl, number_append]; simp [number]
theorem number_snoc (l : List Int) (x : Int) : number (l ++ [x]) = 2 * number l + x := by
 rw [number, List.foldl_append]; rfl
theorem pow_pos (n : Nat) : (0 : Int) < 2 ^ n := Int.pow_pos (by decide)
theorem A17 (n : Nat) : ∀ v, (low v n).length = n := by
 induction n with
 | zero => intro v; rfl
 | succ n ih => intro v; simp [low, ih]
theorem low_bits (n : Nat) : ∀ v, Bits (low v n) := by
 induction n with
 | zero => intro v x hx; simp [low] at hx
 | succ n ih =>
  intro v x hx
  simp only [low, List.mem_append, List.mem_singleton] at hx
  rcases hx with hx | hx
  ·exact ih _ x hx
  ·omega
theorem Bits.append {l m : List Int} (h : Bits l) (h' : Bits m) : Bits (l ++ m) := by
 intro x hx; rcases List.mem_append.1 hx with hx | hx
 ·exact h x hx
 ·exact h' x hx
theorem Bits.nil : Bits [] := fun x hx => by simp at hx
theorem Bits.cons {x : Int} {l : List Int} (hx : x = 0 ∨ x = 1) (h : Bits l) : Bits (x :: l) := by
 intro y hy; rcases List.mem_cons.1 hy with rfl | hy
 ·exact hx
 ·exact h y hy
theorem Bits.left {l m : List Int} (h : Bits (l ++ m)) : Bits l := fun x hx => h x (List.mem_append_left _ hx)
theorem Bits.right {l m : List Int} (h : Bits (l ++ m)) : Bits m := fun x hx => h x (List.mem_append_right _ hx)
theorem Bits.take {l : List Int} (h : Bits l) (n : Nat) : Bits (l.take n) := fun _ hx => h _ (List.mem_of_mem_take hx)
theorem Bits.drop {l : List Int} (h : Bits l) (n : Nat) : Bits (l.drop n) := fun x hx => h x (List.mem_of_mem_drop hx)
theorem Bits.zeros (n : Nat) : Bits (List.replicate n (0 : Int)) := fun _ hx => .inl (List.eq_of_mem_replicate hx)
theorem Bytes.nil : Bytes [] := fun x hx => by simp at hx
theorem Bytes.append {l m : List Int} (h : Bytes l) (h' : Bytes m) : Bytes (l ++ m) := by
 intro x hx; rcases List.mem_append.1 hx with hx | hx
 ·exact h x hx
 ·exact h' x hx
theorem Bytes.cons {x : Int} {l : List Int} (hx : 0 ≤ x ∧ x < 256) (h : Bytes l) : Bytes (x :: l) := by
 intro y hy; rcases List.mem_cons.1 hy with rfl | hy
 ·exact hx
 ·exact h y hy
theorem Bytes.take {l : List Int} (h : Bytes l) (n : Nat) : Bytes (l.take n) := fun x hx => h x (List.mem_of_mem_take hx)
theorem Bytes.drop {l : List Int} (h : Bytes l) (n : Nat) : Bytes (l.drop n) := fun x hx => h x (List.mem_of_mem_drop hx)
theorem A3q {l : List Int} (h : Bits l) : 0 ≤ number l ∧ number l < 2 ^ l.length := by
 induction l with
 | nil => simp [number]
 | cons x l ih =>
  have hx := h x (by simp)
  have ih := ih (fun y hy => h y (by simp [hy]))
  rw [number_cons, List.length_cons, Int.pow_succ]
  have := pow_pos l.length
  rcases hx with rfl | rfl
  ·omega
  ·omega
theorem mod_two_mul (v m : Int) (hm : 0 < m) : v % (m * 2) = 2 * (v / 2 % m) + v % 2 := by
 have h1 := Int.mul_ediv_add_emod v 2
 have h2 := Int.mul_ediv_add_emod (v / 2) m
 have h3 := Int.emod_nonneg (v / 2) (by omega : m ≠ 0)
 have h4 := Int.emod_lt_of_pos (v / 2) hm
 have h5 : v = m * 2 * (v / 2 / m) + (2 * (v / 2 % m) + v % 2) := by
  have : m * 2 * (v / 2 / m) = 2 * (m * (v / 2 / m)) := by rw [Int.mul_comm m 2, Int.mul_assoc]
  rw [this]; omega
 conv => lhs; rw [h5]
 rw [Int.mul_add_emod_self_left]
 exact Int.emod_eq_of_lt (by omega) (by omega)
theorem number_low (n : Nat) : ∀ v, number (low v n) = v % 2 ^ n := by
 induction n with
 | zero => intro v; simp [low, number]
 | succ n ih => intro v; rw [low, number_snoc, ih, Int.pow_succ, mod_two_mul _ _ (pow_pos n)]
theorem low_number {l : List Int} (h : Bits l) : low (number l) l.length = l := by
 suffices H : ∀ n (l : List Int), l.length = n → Bits l → low (number l) n = l from H _ l rfl h
 intro n
 induction n with
 | zero => intro l hl _; rw [List.length_eq_zero_iff.1 hl]; rfl
 | succ n ih =>
  intro l hl hb
  have hne : l ≠ [] := by intro e; simp [e] at hl
  rw [← List.dropLast_concat_getLast hne] at hb ⊢
  have hx := hb (l.getLast hne) (by simp)
  rw [number_snoc, low]
  have e1 : (2 * number l.dropLast + l.getLast hne) / 2 = number l.dropLast := by omega
  have e2 : (2 * number l.dropLast + l.getLast hne) % 2 = l.getLast hne := by omega
  rw [e1, e2, ih _ (by simp; omega) hb.left]
theorem low_mod (n : Nat) (v : Int) : low (v % 2 ^ n) n = low v n := by
 have := low_number (low_bits n v)
 rwa [A17, number_low] at this
theorem low_congr {n : Nat} {v u : Int} (h : v % 2 ^ n = u % 2 ^ n) : low v n = low u n := by rw [← low_mod, h, low_mod]
theorem number_inj {l m : List Int} (hl : Bits l) (hm : Bits m) (h : l.length = m.length) (e : number l = number m) : l = m := by
 rw [← low_number hl, ← low_number hm, h, e]
theorem low_append (m : Nat) : ∀ (n : Nat) (v : Int), low v (n + m) = low (v / 2 ^ m) n ++ low v m := by
 induction m with
 | zero => intro n v; simp [low]
 | succ m ih =>
  intro n v
  rw [← Nat.add_assoc, low, low, ih, List.append_assoc]
  congr 2
  rw [Int.pow_succ, Int.mul_comm, Int.ediv_ediv_of_nonneg (by decide)]
theorem low_zero (n : Nat) : low 0 n = List.replicate n 0 := by
 induction n with
 | zero => rfl
 | succ n ih => rw [low, show (0 : Int) / 2 = 0 from rfl, ih, List.replicate_succ']; rfl
theorem flat_nil : flat [] = [] := rfl
theorem flat_cons (c : Int) (b : List Int) : flat (c :: b) = low c 8 ++ flat b := by simp [flat]
theorem A3d (b : List Int) : (flat b).length = 8 * b.length := by
 induction b with
 | nil => rfl
 | cons c b ih => rw [flat_cons, List.length_append, A17, ih, List.length_cons]; omega
theorem flat_bits (b : List Int) : Bits (flat b) := by
 induction b with
 | nil => exact Bits.nil
 | cons c b ih => rw [flat_cons]; exact (low_bits 8 c).append ih
theorem pack_nil : pack [] = [] := by rw [pack]; simp
theorem pack_ne {l : List Int} (h : l ≠ []) : pack l = number (l.take 8 ++ List.replicate (8 - l.length) 0) :: pack (l.drop 8) := by rw [pack]; simp [h]
theorem A37 {l : List Int} (m : List Int) (h : l.length = 8) : pack (l ++ m) = number l :: pack m := by
 have hne : l ++ m ≠ [] := by intro e; rw [List.append_eq_nil_iff] at e; rw [e.1] at h; simp at h
 rw [pack_ne hne, List.take_left' h, List.drop_left' h, List.length_append, show 8 - (l.length + m.length) = 0 from by omega]; simp
theorem pack_short {l : List Int} (h0 : l ≠ []) (h : l.length ≤ 8) : pack l = [number (l ++ List.replicate (8 - l.length) 0)] := by
 rw [pack_ne h0, List.take_of_length_le h, List.drop_eq_nil_of_le h, pack_nil]
theorem by_eight {P : List Int → Prop} (h0 : P []) (hs : ∀ l, l ≠ [] → l.length < 8 → P l) (hb : ∀ l m, l.length = 8 → P m → P (l ++ m)) (l : List Int) : P l := by
 suffices H : ∀ n (l : List Int), l.length ≤ n → P l from H _ l (Nat.le_refl _)
 intro n
 induction n with
 | zero => intro l hl; obtain rfl : l = [] := List.length_eq_zero_iff.1 (by omega); exact h0
 | succ n ih =>
  intro l hl
  by_cases e : l = []
  ·rw [e]; exact h0
  ·by_cases h8 : l.length < 8
   ·exact hs l e h8
   ·rw [← List.take_append_drop 8 l]
    exact hb _ _ (by simp; omega) (ih _ (by simp; omega))
theorem pack_length (l : List Int) : (pack l).length = (l.length + 7) / 8 := by
 induction l using by_eight with
 | h0 => simp [pack_nil]
 | hs l e h => rw [pack_short e (by omega)]; have := List.length_pos_iff.2 e; simp; omega
 | hb l m h ih => rw [A37 m h]; simp [ih, h]; omega
theorem pack_bytes {l : List Int} (h : Bits l) : Bytes (pack l) := by
 induction l using by_eight with
 | h0 => rw [pack_nil]; exact Bytes.nil
 | hs l e h8 =>
  rw [pack_short e (by omega)]
  have := A3q (h.append (Bits.zeros (8 - l.length)))
  rw [List.length_append, List.length_replicate, show l.length + (8 - l.length) = 8 from by omega] at this
  exact Bytes.cons (by simpa using this) Bytes.nil
 | hb l m h8 ih =>
  rw [A37 m h8]
  have := A3q h.left
  rw [h8] at this
  exact Bytes.cons (by simpa using this) (ih h.right)
theorem flat_pack {l : List Int} (h : Bits l) : flat (pack l) = l ++ List.replicate (8 * ((l.length + 7) / 8) - l.length) 0 := by
 induction l using by_eight with
 | h0 => simp [pack_nil, flat]
 | hs l e h8 =>
  have hp := List.length_pos_iff.2 e
  have hl := low_number (h.append (Bits.zeros (8 - l.length)))
  rw [List.length_append, List.length_replicate, show l.length + (8 - l.length) = 8 from by omega] at hl
  rw [pack_short e (by omega), flat_cons, flat_nil, List.append_nil, hl, show 8 * ((l.length + 7) / 8) - l.length = 8 - l.length from by omega]
 | hb l m h8 ih =>
  have hl := low_number h.left
  rw [h8] at hl
  rw [A37 m h8, flat_cons, hl, ih h.right, List.append_assoc, List.length_append]
  congr 3
  omega
theorem pack_snoc0 {l : List Int} (h : l.length % 8 = 0) (x : Int) : pack (l ++ [x]) = pack l ++ [x * 128] := by
 induction l using by_eight with
 | h0 => rw [List.nil_append, pack_short (by simp) (by simp), pack_nil]; simp [number, List.replicate]; omega
 | hs l e h8 => have := List.length_pos_iff.2 e; omega
 | hb l m h8 ih => rw [List.append_assoc, A37 _ h8, A37 _ h8, ih (by rw [List.length_append] at h; omega)]; rfl
theorem A38 (l : List Int) (n : Nat) : number (l ++ List.replicate n 0) = number l * 2 ^ n := by
 have h0 : number (List.replicate n 0) = 0 := by rw [← low_zero, number_low]; simp
 rw [number_append, List.length_replicate, h0, Int.add_zero]
theorem pack_snoc {l : List Int} (h : l.length % 8 ≠ 0) (x : Int) : pack (l ++ [x]) = (pack l).set (l.length / 8) ((pack l).getD (l.length / 8) 0 + x * 2 ^ (7 - l.length % 8)) := by
 induction l using by_eight with
 | h0 => simp at h
 | hs l e h8 =>
  rw [pack_short (by simp) (by simp; omega), pack_short e (by omega), show l.length / 8 = 0 from by omega, show l.length % 8 = l.length from by omega]
  simp only [List.set_cons_zero, List.getD_cons_zero, List.length_append, List.length_singleton]
  rw [A38, A38, number_snoc, show 8 - (l.length + 1) = 7 - l.length from by omega, show 8 - l.length = (7 - l.length) + 1 from by omega, Int.pow_succ, Int.add_mul]
  congr 2
  rw [Int.mul_comm 2 (number l), Int.mul_assoc, Int.mul_comm 2]
 | hb l m h8 ih =>
  rw [List.append_assoc, A37 _ h8, A37 _ h8, ih (by rw [List.length_append] at h; omega), List.length_append, h8, show (8 + m.length) / 8 = m.length / 8 + 1 from by omega, show (8 + m.length) % 8 = m.length % 8 from by omega]
  simp
theorem pack_last {l : List Int} (h : l.length % 8 ≠ 0) : ∃ t : Int, (pack l).getD (l.length / 8) 0 = t * 2 ^ (8 - l.length % 8) := by
 induction l using by_eight with
 | h0 => simp at h
 | hs l e h8 =>
  rw [pack_short e (by omega), show l.length / 8 = 0 from by omega, show l.length % 8 = l.length from by omega]
  exact ⟨number l, by simp only [List.getD_cons_zero]; rw [A38]⟩
 | hb l m h8 ih =>
  obtain ⟨t, ht⟩ := ih (by rw [List.length_append] at h; omega)
  refine ⟨t, ?_⟩
  rw [A37 _ h8, List.length_append, h8, show (8 + m.length) / 8 = m.length / 8 + 1 from by omega, show (8 + m.length) % 8 = m.length % 8 from by omega, ← ht]
  simp
theorem low_one (v : Int) : low v 1 = [v % 2] := rfl
theorem low_top (v : Int) (m : Nat) : low v (m + 1) = (v / 2 ^ m % 2) :: low v m := by
 rw [Nat.add_comm, low_append, low_one]; rfl
end Bs
end
section
namespace Go.Proofs.YtodocfjbpkicgaaDoor.PBits
open Go Go.RowKit Go.Proofs.YtodocfjbpkicgaaDoor Go.Proofs.YtodocfjbpkicgaaDoor.All Go.Zw Go.Zl
theorem rd_at (xs : List Int) (i : Nat) (h : i < xs.length) : rd xs (i : Int) = xs[i] := by
 simp [rd, List.getD_eq_getElem?_getD, h]
theorem w64 (n : Int) (h : -9223372036854775808 ≤ n ∧ n < 9223372036854775808) : wrap64 n = n := by unfold wrap64; omega
theorem tmod_nat (n : Int) (h : 0 ≤ n) (m : Int) : Int.tmod n m = n % m := Int.tmod_eq_emod_of_nonneg h
theorem tdiv_nat (n : Int) (h : 0 ≤ n) (m : Int) : Int.tdiv n m = n / m := Int.tdiv_eq_ediv_of_nonneg h
theorem at_drop (xs : List Int) (i : Nat) (h : i < xs.length) : xs.drop i = xs[i] :: xs.drop (i + 1) := List.drop_eq_getElem_cons h
def topb : Nat → Int → List Int
 | 0, _ => []
 | n + 1, c => c / 128 :: topb n (c * 2 % 256)
theorem topb_low (c : Int) (hc : 0 ≤ c ∧ c < 256) : topb 8 c = Bs.low c 8 := by
 have h : ∀ c : Fin 256, topb 8 ((c.val : Nat) : Int) = Bs.low ((c.val : Nat) : Int) 8 := by decide +kernel
 have := h ⟨c.toNat, by omega⟩
 rw [show ((c.toNat : Nat) : Int) = c from by omega] at this
 exact this
theorem Flat_l1 (xs : List Int) (i : Int) (r : List Int) : ∀ (j : Nat) (acc : List Int) (c : Int), j ≤ 8 → 0 ≤ c ∧ c < 256 → acc.length + j < 140737488355328 →
    Ev (fun k => A1k.l0 k xs (acc ++ topb j c) (wrap64 (i + 1))) r → Ev (fun k => A1k.l1 k xs acc i c ((8 - j : Nat) : Int)) r := by
  intro j
  induction j with
  | zero => intro acc c _ _ _ h; exact Ev.step (fun k => by simp only [A1k.l1]; rw [if_neg (by omega)]; simp only [topb, List.append_nil]) h
  | succ j ih =>
    intro acc c hj hc hl h
    refine Ev.step (fun k => ?_) (ih (acc ++ [c / 128]) (c * 2 % 256) (by omega) (by omega) (by rw [List.length_append, List.length_singleton]; omega) ?_)
    · simp only [A1k.l1]
      rw [if_pos (by omega), if_pos (by omega), tdiv_nat _ hc.1, show c / 128 % 256 = c / 128 from by omega, show wrap64 (((8 - (j + 1) : Nat) : Int) + 1) = ((8 - j : Nat) : Int) from by rw [w64 _ (by omega)]; omega]
    · rw [List.append_assoc]; exact h
theorem Flat_l0 (xs : List Int) (hx : Bs.Bytes xs) (hl : xs.length < 1152921504606846976) : ∀ (d i : Nat) (acc : List Int), i + d = xs.length → acc.length + 8 * d < 140737488355328 →
    Ev (fun k => A1k.l0 k xs acc (i : Int)) (acc ++ Bs.flat (xs.drop i)) := by
  intro d
  induction d with
  | zero =>
    intro i acc hi _
    refine Ev.step (fun k => ?_) (Ev.now _)
    simp only [A1k.l0]
    rw [if_neg (by omega), List.drop_eq_nil_of_le (by omega), Bs.flat_nil, List.append_nil]
  | succ d ih =>
    intro i acc hi hacc
    have hlt : i < xs.length := by omega
    have hc := hx xs[i] (List.getElem_mem hlt)
    have := ih (i + 1) (acc ++ Bs.low xs[i] 8) (by omega) (by rw [List.length_append, Bs.A17]; omega)
    rw [at_drop xs i hlt, Bs.flat_cons, ← List.append_assoc]
    refine Ev.step (fun k => ?_) (Flat_l1 xs (i : Int) _ 8 acc xs[i] (by omega) hc (by omega) ?_)
    · simp only [A1k.l0]
      rw [if_pos (by omega), if_pos (by omega), rd_at xs i hlt]
      rfl
    · rw [topb_low _ hc, w64 _ (by omega)]; exact this
theorem Flat_is (xs : List Int) (hx : Bs.Bytes xs) (hl : 8 * xs.length < 140737488355328) : Ev (fun k => A1k.f k xs) (Bs.flat xs) := by
 have := Flat_l0 xs hx (by omega) xs.length 0 [] (by omega) (by simp; omega)
 rw [List.nil_append, List.drop_zero] at this
 exact this
theorem pow_le {i n : Nat} (h : i ≤ n) : (2 : Int) ^ i ≤ 2 ^ n := by
 rw [show n = i + (n - i) from by omega, Int.pow_add]
 have h1 := Bs.pow_pos i; have h2 := Bs.pow_pos (n - i)
 have := Int.mul_le_mul_of_nonneg_left (show (1 : Int) ≤ 2 ^ (n - i) by omega) (Int.le_of_lt h1)
 omega
theorem Number_l0 (xs : List Int) (hx : Bs.Bits xs) (hl : xs.length ≤ 64) : ∀ (d i : Nat) (v : Int), i + d = xs.length → 0 ≤ v → v + 1 ≤ 2 ^ i →
    Ev (fun k => A0u.l0 k xs v (i : Int)) ((xs.drop i).foldl (fun v b => 2 * v + b) v) := by
  intro d
  induction d with
  | zero =>
    intro i v hi _ _
    refine Ev.step (fun k => ?_) (Ev.now _)
    simp only [A0u.l0]
    rw [if_neg (by omega), List.drop_eq_nil_of_le (by omega)]
    rfl
  | succ d ih =>
    intro i v hi h0 hv
    have hlt : i < xs.length := by omega
    have hc := hx xs[i] (List.getElem_mem hlt)
    have hp : (2 : Int) ^ (i + 1) = 2 * 2 ^ i := by rw [Int.pow_succ, Int.mul_comm]
    have hq : (2 : Int) ^ (i + 1) ≤ 2 ^ 64 := pow_le (by omega)
    have hq2 : (2 : Int) ^ 64 = 18446744073709551616 := by decide
    have hb : 0 ≤ xs[i] ∧ xs[i] ≤ 1 := by omega
    have := ih (i + 1) (2 * v + xs[i]) (by omega) (by omega) (by omega)
    rw [at_drop xs i hlt, List.foldl_cons]
    refine Ev.step (fun k => ?_) this
    simp only [A0u.l0]
    rw [if_pos (by omega), if_pos (by omega), rd_at xs i hlt, Ib.wrap_u64, Ib.wrap_u64, Ib.wrap_u64, w64 _ (by omega)]
    congr 1
    omega
theorem Number_is (xs : List Int) (hx : Bs.Bits xs) (hl : xs.length ≤ 64) : Ev (fun k => A0u.f k xs) (Bs.number xs) := by
 have := Number_l0 xs hx hl xs.length 0 0 (by omega) (by omega) (by simp)
 rw [List.drop_zero] at this
 exact this
theorem Low_l0 : ∀ (m : Nat) (u : Int) (L : List Int), 0 ≤ u ∧ u < 18446744073709551616 → m < 1152921504606846976 →
    Ev (fun k => A1h.l0 k u (List.replicate m 0 ++ L) ((m : Int) - 1)) (Bs.low u m ++ L) := by
  intro m
  induction m with
  | zero =>
    intro u L _ _
    refine Ev.step (fun k => ?_) (Ev.now _)
    simp only [A1h.l0]
    rw [if_neg (by omega)]
    rfl
  | succ m ih =>
    intro u L hu hm
    have := ih (u / 2) ((u % 2) :: L) (by omega) (by omega)
    rw [show Bs.low u (m + 1) ++ L = Bs.low (u / 2) m ++ (u % 2 :: L) from by simp [Bs.low]]
    refine Ev.step (fun k => ?_) this
    simp only [A1h.l0]
    rw [show ((m + 1 : Nat) : Int) - 1 = (m : Int) from by omega]
    rw [if_pos (by omega), if_pos (by omega), if_pos (by rw [List.length_append, List.length_replicate]; omega), tdiv_nat _ hu.1, tmod_nat _ hu.1, Ib.wrap_u64, w64 _ (by omega)]
    congr 1
    · omega
    · rw [Int.toNat_natCast, List.replicate_succ', List.append_assoc, List.set_append_right _ _ (by simp)]
      simp
      omega
theorem Low_is (u : Int) (n : Int) (hu : 0 ≤ u ∧ u < 18446744073709551616) (hn : 0 ≤ n ∧ n ≤ 281474976710656) : Ev (fun k => A1h.f k u n) (Bs.low u n.toNat) := by
 have := Low_l0 n.toNat u [] hu (by omega)
 rw [List.append_nil, List.append_nil] at this
 refine Ev.congr (fun k => ?_) this
 simp only [A1h.f]
 rw [if_pos hn.1, if_pos (by omega), w64 _ (by omega), show ((n.toNat : Nat) : Int) - 1 = n - 1 from by omega]
def tk (L : List Int) (a n : Int) : Int × Bool :=
 if n < 0 ∨ n > 64 ∨ a < 0 ∨ a > (L.length : Int) ∨ n > (L.length : Int) - a then (0, false) else (Bs.number ((L.drop a.toNat).take n.toNat), true)
theorem tk_no {L : List Int} {a n : Int} (h : n < 0 ∨ n > 64 ∨ a < 0 ∨ a > (L.length : Int) ∨ n > (L.length : Int) - a) : tk L a n = (0, false) := if_pos h
theorem tk_yes {L : List Int} {a n : Int} (h : ¬ (n < 0 ∨ n > 64 ∨ a < 0 ∨ a > (L.length : Int) ∨ n > (L.length : Int) - a)) : tk L a n = (Bs.number ((L.drop a.toNat).take n.toNat), true) := if_neg h
theorem or_bit (v b : Int) (hv : 0 ≤ v ∧ 2 * v + 1 < 18446744073709551616) (hb : b = 0 ∨ b = 1) : Go.bits .or .u64 (2 * v) b = 2 * v + b := by
 rw [Ib.or_u64 _ _ (by omega) (by omega)]
 have h := Nat.two_pow_add_eq_or_of_lt (i := 1) (b := b.toNat) (by omega) v.toNat
 rw [show (2 * v).toNat = 2 ^ 1 * v.toNat from by omega, ← h]
 omega
theorem and_u8_one (x : Int) (hx : 0 ≤ x ∧ x < 256) : Go.bits .and .u8 x 1 = x % 2 := by
 simp only [Go.bits, Ib.wrap_u8]
 rw [show IntKind.u8.bits = 8 from rfl, BitVec.toNat_and, Ib.A3g 8 x hx.1 hx.2, show (BitVec.ofInt 8 1).toNat = 2 ^ 1 - 1 from rfl, Nat.and_two_pow_sub_one_eq_mod]
 omega
theorem or_u8 (x y : Int) (hx : 0 ≤ x ∧ x < 256) (hy : 0 ≤ y ∧ y < 256) : Go.bits .or .u8 x y = ((x.toNat ||| y.toNat : Nat) : Int) := by
 simp only [Go.bits, Ib.wrap_u8]
 rw [show IntKind.u8.bits = 8 from rfl, BitVec.toNat_or, Ib.A3g 8 x hx.1 hx.2, Ib.A3g 8 y hy.1 hy.2]
 have : x.toNat ||| y.toNat < 2 ^ 8 := Nat.or_lt_two_pow (by omega) (by omega)
 omega
theorem or_u8_sum (t y : Int) (s : Nat) (hs : s ≤ 8) (h : 0 ≤ t * 2 ^ s ∧ t * 2 ^ s < 256) (hy : 0 ≤ y ∧ y < 2 ^ s) : Go.bits .or .u8 (t * 2 ^ s) y = t * 2 ^ s + y := by
 have h1 : (2 : Int) ^ s ≤ 2 ^ 8 := pow_le hs
 have h2 : (2 : Int) ^ 8 = 256 := by decide
 have h3 := Bs.pow_pos s
 have h4 : (0 : Int) ≤ t := by
  refine Decidable.byContradiction fun h5 => ?_
  have := Int.mul_le_mul_of_nonneg_right (show t ≤ -1 by omega) (Int.le_of_lt h3)
  omega
 rw [or_u8 _ _ h (by omega)]
 obtain ⟨m, rfl⟩ := Int.eq_ofNat_of_zero_le h4
 obtain ⟨z, rfl⟩ := Int.eq_ofNat_of_zero_le hy.1
 have h6 : ((m : Int) * 2 ^ s) = ((2 ^ s * m : Nat) : Int) := by push_cast; rw [Int.mul_comm]
 have h7 : z < 2 ^ s := by have := hy.2; exact_mod_cast this
 rw [h6, Int.toNat_natCast, Int.toNat_natCast, ← Nat.two_pow_add_eq_or_of_lt h7]
 push_cast
 rfl
theorem low_at (n : Nat) : ∀ (v : Int) (j : Nat) (h : j < (Bs.low v n).length), (Bs.low v n)[j] = v / 2 ^ (n - 1 - j) % 2 := by
 induction n with
 | zero => intro v j h; simp [Bs.low] at h
 | succ n ih =>
  intro v j h
  rw [Bs.A17] at h
  simp only [Bs.low]
  by_cases hj : j < n
  ·rw [List.getElem_append_left (by rw [Bs.A17]; exact hj), ih, show n + 1 - 1 - j = (n - 1 - j) + 1 from by omega, Int.pow_succ, Int.mul_comm, Int.ediv_ediv_of_nonneg (by decide)]
  ·rw [List.getElem_append_right (by rw [Bs.A17]; omega)]
   simp only [Bs.A17, List.getElem_singleton]
   rw [show n + 1 - 1 - j = 0 from by omega]; simp
theorem flat_at (b : List Int) (i : Nat) (h : i < (Bs.flat b).length) (h' : i / 8 < b.length) : (Bs.flat b)[i] = b[i / 8] / 2 ^ (7 - i % 8) % 2 := by
 induction b generalizing i with
 | nil => simp at h'
 | cons c b ih =>
  simp only [Bs.flat_cons]
  by_cases hi : i < 8
  ·rw [List.getElem_append_left (by rw [Bs.A17]; exact hi), low_at]
   simp only [show i / 8 = 0 from by omega, List.getElem_cons_zero, show i % 8 = i from by omega]
  ·rw [List.getElem_append_right (by rw [Bs.A17]; omega)]
   have h2 := ih (i - 8) (by rw [Bs.flat_cons, List.length_append, Bs.A17] at h; omega) (by simp only [List.length_cons] at h'; omega)
   simp only [Bs.A17]
   rw [h2]
   simp only [show i / 8 = (i - 8) / 8 + 1 from by omega, List.getElem_cons_succ, show (i - 8) % 8 = i % 8 from by omega]
theorem at_byte (j : Nat) (h : j < 9223372036854775808) : wrap64 (Int.tdiv (j : Int) 8) = ((j / 8 : Nat) : Int) := by rw [tdiv_nat _ (by omega), w64 _ (by omega)]; omega
theorem at_bit (j : Nat) (h : j < 9223372036854775808) : wrap64 (7 - Int.tmod (j : Int) 8) = ((7 - j % 8 : Nat) : Int) := by rw [tmod_nat _ (by omega), w64 _ (by omega)]; omega
theorem shr_u8 (c : Int) (s : Nat) (h : s ≤ 8) : shr .u8 c (s : Int) = c / 2 ^ s := by
 unfold shr; rw [Int.toNat_natCast, show IntKind.u8.bits = 8 from rfl, Nat.min_eq_left h]
theorem ediv_pow (c : Int) (s : Nat) (hc : 0 ≤ c ∧ c < 256) : 0 ≤ c / 2 ^ s ∧ c / 2 ^ s < 256 := by
 have h3 := Bs.pow_pos s
 exact ⟨Int.ediv_nonneg hc.1 (Int.le_of_lt h3), Int.lt_of_le_of_lt (Int.ediv_le_self _ hc.1) hc.2⟩
theorem number_63 {l : List Int} (h : Bs.Bits l) (hl : l.length ≤ 63) : 0 ≤ Bs.number l ∧ 2 * Bs.number l + 1 < 18446744073709551616 := by
 have hr := Bs.A3q h
 have hp : (2 : Int) ^ l.length ≤ 2 ^ 63 := pow_le hl
 rw [show (2 : Int) ^ 63 = 9223372036854775808 from by decide] at hp
 omega
theorem take_step (v c : Int) (s : Nat) (hs : s ≤ 8) (hv : 0 ≤ v ∧ 2 * v + 1 < 18446744073709551616) (hc : 0 ≤ c ∧ c < 256) :
    Go.bits .or .u64 (IntKind.u64.wrap (v * 2)) (IntKind.u64.wrap (Go.bits .and .u8 (shr .u8 c (s : Int)) 1)) = 2 * v + c / 2 ^ s % 2 := by
  have h4 := ediv_pow c s hc
  rw [shr_u8 c s hs, and_u8_one _ h4, Ib.wrap_u64, Ib.wrap_u64]
  generalize c / 2 ^ s = q at h4 ⊢
  rw [show v * 2 % 18446744073709551616 = 2 * v from by omega, show q % 2 % 18446744073709551616 = q % 2 from by omega, or_bit _ _ hv (by omega)]
theorem Take_l0 (b : List Int) (hb : Bs.Bytes b) (hl : 8 * b.length < 140737488355328) (a n : Nat) (hn : n ≤ 64) (han : a + n ≤ (Bs.flat b).length) : ∀ (d i : Nat), i + d = n →
    Ev (fun k => A0z.l0 k b (a : Int) (n : Int) (Bs.number (((Bs.flat b).drop a).take i)) ((a + i : Nat) : Int)) (Bs.number (((Bs.flat b).drop a).take n), true) := by
  have hL := Bs.A3d b
  intro d
  induction d with
  | zero =>
    intro i hi
    refine Ev.step (fun k => ?_) (Ev.now _)
    simp only [A0z.l0]
    rw [w64 _ (by omega), if_neg (by omega), show i = n from by omega]
  | succ d ih =>
    intro i hi
    have hlt : a + i < (Bs.flat b).length := by omega
    have hq : (a + i) / 8 < b.length := by omega
    have hn2 : a + i < 140737488355328 := by omega
    have hw1 : wrap64 ((a : Int) + n) = ((a + n : Nat) : Int) := by rw [w64 _ (by omega)]; omega
    have hw2 : wrap64 (((a + i : Nat) : Int) + 1) = ((a + (i + 1) : Nat) : Int) := by rw [w64 _ (by omega)]; omega
    have hin : ((a + i : Nat) : Int) < ((a + n : Nat) : Int) := by omega
    have hq' : (((a + i) / 8 : Nat) : Int) < (b.length : Int) := Int.ofNat_lt.2 hq
    have hn3 : a + i < 9223372036854775808 := by omega
    have h63 : i ≤ 63 := by omega
    have hc := hb b[(a + i) / 8] (List.getElem_mem hq)
    have := ih (i + 1) (by omega)
    have htk : ((Bs.flat b).drop a).take (i + 1) = ((Bs.flat b).drop a).take i ++ [(Bs.flat b)[a + i]] := by
      rw [List.take_add_one, List.getElem?_drop, List.getElem?_eq_getElem hlt]; rfl
    have hv := number_63 (((Bs.flat_bits b).drop a).take i) (Nat.le_trans (List.length_take_le _ _) h63)
    rw [htk, Bs.number_snoc, flat_at b (a + i) hlt hq] at this
    refine Ev.step (fun k => ?_) this
    simp only [A0z.l0]
    rw [at_byte _ hn3, at_bit _ hn3, hw1, hw2, if_pos hin, if_pos (Int.natCast_nonneg _), if_pos hq', if_pos (Int.natCast_nonneg _), rd_at b _ hq, take_step _ _ _ (Nat.le_trans (Nat.sub_le _ _) (by decide)) hv hc]
theorem Take_is (b : List Int) (hb : Bs.Bytes b) (hl : 8 * b.length < 140737488355328) (a n : Int) : Ev (fun k => A0z.f k b a n) (tk (Bs.flat b) a n) := by
 have hL := Bs.A3d b
 unfold A0z.f
 by_cases c1 : n < 0
 ·rw [tk_no (.inl c1)]
  exact Ev.step (g := fun k => _) (fun k => by rw [if_pos c1]; simp only [A0z.j0, if_true]) (Ev.now _)
 by_cases c2 : n > 64
 ·rw [tk_no (.inr (.inl c2))]
  exact Ev.step (g := fun k => _) (fun k => by rw [if_neg c1, if_pos c2]; simp only [A0z.j0, if_true]) (Ev.now _)
 by_cases c3 : a < 0
 ·rw [tk_no (.inr (.inr (.inl c3)))]
  exact Ev.step (g := fun k => _) (fun k => by rw [if_neg c1, if_neg c2, if_pos c3]; simp only [A0z.j0, if_true]) (Ev.now _)
 have e8 : wrap64 (8 * (b.length : Int)) = ((Bs.flat b).length : Int) := by rw [w64 _ (by omega)]; omega
 rw [e8]
 by_cases c4 : a > ((Bs.flat b).length : Int)
 ·rw [tk_no (.inr (.inr (.inr (.inl c4))))]
  exact Ev.step (g := fun k => _) (fun k => by rw [if_neg c1, if_neg c2, if_neg c3, if_pos c4]; simp only [A0z.j0, if_true]) (Ev.now _)
 rw [w64 (((Bs.flat b).length : Int) - a) (by omega)]
 by_cases c5 : n > ((Bs.flat b).length : Int) - a
 ·rw [tk_no (.inr (.inr (.inr (.inr c5))))]
  exact Ev.step (g := fun k => _) (fun k => by rw [if_neg c1, if_neg c2, if_neg c3, if_neg c4, decide_eq_true c5]; simp only [A0z.j0, if_true]) (Ev.now _)
 rw [tk_yes (by omega)]
 obtain ⟨a, rfl⟩ := Int.eq_ofNat_of_zero_le (Int.not_lt.1 c3)
 obtain ⟨n, rfl⟩ := Int.eq_ofNat_of_zero_le (Int.not_lt.1 c1)
 have := Take_l0 b hb hl a n (by omega) (by omega) n 0 (by omega)
 rw [Int.toNat_natCast, Int.toNat_natCast]
 refine Ev.step (g := fun k => _) (fun k => ?_) this
 rw [if_neg c1, if_neg c2, if_neg c3, if_neg c4, decide_eq_false c5]
 simp only [A0z.j0]
 rw [if_neg (by decide)]
 rfl
end Go.Proofs.YtodocfjbpkicgaaDoor.PBits
end
section
namespace Go.Proofs.YtodocfjbpkicgaaDoor.PKinds
open Go Go.RowKit Go.Proofs.YtodocfjbpkicgaaDoor Go.Proofs.YtodocfjbpkicgaaDoor.All Go.Zw Go.Zl
abbrev S8 := Int × Int × Int × Int × Int × Int × Int × Int
def aft (kind n t d v e xp xl xn T V ap al an : Int) : S8 :=
 (wrap64 (n + 1), T, if n > 0 then wrap64 (T - t) else 0, V, if kind = 1 then 0 else if n > 0 then IntKind.u64.wrap (V - v) else 0,
  if kind = 1 then (if n = 0 then V else ap) else 0, if kind = 1 then (if n = 0 then 0 else al) else 0, if kind = 1 then (if n = 0 then 0 else an) else 0)
theorem After_is (kind n t d v e xp xl xn T V ap al an : Int) (hn : 0 ≤ n) : Ev (fun k => A1f.f k kind n t d v e xp xl xn T V ap al an) (aft kind n t d v e xp xl xn T V ap al an) := by
 unfold A1f.f aft
 by_cases c : n > 0
 ·have c0 : ¬ n = 0 := by omega
  have cb : (n == 0) = false := beq_eq_false_iff_ne.mpr c0
  simp only [if_pos c, if_neg c0]
  by_cases c1 : kind = 1
  ·simp only [if_pos c1]
   exact Ev.step (fun k => by rw [A1f.j0, if_pos c1, cb]) (Ev.step (fun k => by rw [A1f.j1, if_neg Bool.false_ne_true, if_pos c1]) (Ev.now _))
  ·simp only [if_neg c1]
   exact Ev.step (fun k => by rw [A1f.j0, if_neg c1]) (Ev.step (fun k => by rw [A1f.j1, if_neg Bool.false_ne_true, if_neg c1, if_pos c]) (Ev.now _))
 ·have c0 : n = 0 := by omega
  have cb : (n == 0) = true := beq_iff_eq.mpr c0
  simp only [if_neg c, if_pos c0]
  by_cases c1 : kind = 1
  ·simp only [if_pos c1]
   exact Ev.step (fun k => by rw [A1f.j0, if_pos c1, cb]) (Ev.step (fun k => by rw [A1f.j1, if_pos rfl]) (Ev.now _))
  ·simp only [if_neg c1]
   exact Ev.step (fun k => by rw [A1f.j0, if_neg c1]) (Ev.step (fun k => by rw [A1f.j1, if_neg Bool.false_ne_true, if_neg c1, if_neg c]) (Ev.now _))
theorem wrap_sub (T t : Int) : wrap64 (IntKind.u64.wrap (IntKind.u64.wrap T - IntKind.u64.wrap t)) = wrap64 (T - t) := by
 simp only [Ib.wrap_u64]
 unfold wrap64
 omega
theorem wrap_add3 (t d s : Int) : wrap64 (IntKind.u64.wrap (IntKind.u64.wrap (IntKind.u64.wrap t + IntKind.u64.wrap d) + IntKind.u64.wrap s)) = wrap64 (wrap64 (t + d) + s) := by
 simp only [Ib.wrap_u64]
 unfold wrap64
 omega
theorem RAfter_is (kind n t d v e xp xl xn T V ap al an : Int) (hn : 0 ≤ n) : Ev (fun k => A06.f k kind n t d v e xp xl xn T V ap al an) (aft kind n t d v e xp xl xn T V ap al an) := by
 unfold A06.f aft
 by_cases c : n > 0
 ·have c0 : ¬ n = 0 := by omega
  have cb : (n == 0) = false := beq_eq_false_iff_ne.mpr c0
  simp only [if_pos c, if_neg c0, cb]
  refine Ev.step (fun k => by rw [A06.j0, if_neg Bool.false_ne_true, wrap_sub]) ?_
  by_cases c1 : kind = 1
  ·simp only [if_pos c1]
   exact Ev.step (fun k => by rw [A06.j2, if_pos c1]) (Ev.now _)
  ·simp only [if_neg c1]
   exact Ev.step (fun k => by rw [A06.j2, if_neg c1]) (Ev.now _)
 ·have c0 : n = 0 := by omega
  have cb : (n == 0) = true := beq_iff_eq.mpr c0
  simp only [if_neg c, if_pos c0, cb]
  by_cases c1 : kind = 1
  ·simp only [if_pos c1]
   exact Ev.step (fun k => by rw [A06.j0, if_pos rfl, if_pos c1]) (Ev.step (fun k => by rw [A06.j1]) (Ev.now _))
  ·simp only [if_neg c1]
   exact Ev.step (fun k => by rw [A06.j0, if_pos rfl, if_neg c1]) (Ev.now _)
end Go.Proofs.YtodocfjbpkicgaaDoor.PKinds
end
section
namespace Go.Proofs.YtodocfjbpkicgaaDoor.PBits
open Go Go.RowKit Go.Proofs.YtodocfjbpkicgaaDoor Go.Proofs.YtodocfjbpkicgaaDoor.All Go.Zw Go.Zl
theorem A3z (i : Nat) (h : i < 140737488355328) : wrap64 ((i : Int) + 1) = ((i + 1 : Nat) : Int) := by rw [w64 _ (by omega)]; omega
theorem wr_pred (m : Nat) (h : m < 140737488355328) : wrap64 ((m : Int) - 1) = (m : Int) - 1 := w64 _ (by omega)
theorem wr_add (i j : Nat) (h : i + j < 140737488355328) : wrap64 ((i : Int) + (j : Int)) = ((i + j : Nat) : Int) := by rw [w64 _ (by omega)]; omega
theorem tmod8 (n : Nat) : Int.tmod (n : Int) 8 = ((n % 8 : Nat) : Int) := by rw [tmod_nat _ (by omega)]; omega
theorem shl_u8 (x : Int) (s : Nat) (h : s ≤ 8) : shl .u8 x (s : Int) = x * 2 ^ s % 256 := by
 unfold shl; rw [Int.toNat_natCast, show IntKind.u8.bits = 8 from rfl, Nat.min_eq_left h, Ib.wrap_u8]
theorem bit_of (v : Int) (m : Nat) (hv : 0 ≤ v ∧ v < 18446744073709551616) (hm : m ≤ 63) : Go.bits .and .u64 (shr .u64 v (m : Int)) 1 % 256 = v / 2 ^ m % 2 := by
 unfold shr
 rw [Int.toNat_natCast, show IntKind.u64.bits = 64 from rfl, Nat.min_eq_left (by omega)]
 have h3 := Bs.pow_pos m
 have h4 : 0 ≤ v / 2 ^ m := Int.ediv_nonneg hv.1 (Int.le_of_lt h3)
 have h5 : v / 2 ^ m < 18446744073709551616 := Int.lt_of_le_of_lt (Int.ediv_le_self _ hv.1) hv.2
 generalize v / 2 ^ m = q at h4 h5 ⊢
 rw [Ib.and_u64_one q ⟨h4, h5⟩]
 omega
theorem put_first {l : List Int} (h : l.length % 8 = 0) (x : Int) (hx : x = 0 ∨ x = 1) :
    (Bs.pack l ++ [0]).set (l.length / 8) (Go.bits .or .u8 (rd (Bs.pack l ++ [0]) ((l.length / 8 : Nat) : Int)) (shl .u8 x ((7 - l.length % 8 : Nat) : Int))) = Bs.pack (l ++ [x]) := by
  have hp := Bs.pack_length l
  have hr : rd (Bs.pack l ++ [0]) ((l.length / 8 : Nat) : Int) = 0 := by
    rw [rd_at _ _ (by rw [List.length_append, List.length_singleton]; omega), List.getElem_append_right (by omega)]
    simp
  rw [hr, Bs.pack_snoc0 h, List.set_append_right _ _ (by omega), h, show l.length / 8 - (Bs.pack l).length = 0 from by omega, List.set_cons_zero]
  rcases hx with rfl | rfl
  · rw [show Go.bits .or .u8 0 (shl .u8 0 ((7 - 0 : Nat) : Int)) = 0 * 128 from by decide +kernel]
  · rw [show Go.bits .or .u8 0 (shl .u8 1 ((7 - 0 : Nat) : Int)) = 1 * 128 from by decide +kernel]
theorem put_next {l : List Int} (hb : Bs.Bits l) (h : l.length % 8 ≠ 0) (x : Int) (hx : x = 0 ∨ x = 1) :
    (Bs.pack l).set (l.length / 8) (Go.bits .or .u8 (rd (Bs.pack l) ((l.length / 8 : Nat) : Int)) (shl .u8 x ((7 - l.length % 8 : Nat) : Int))) = Bs.pack (l ++ [x]) := by
  have hp := Bs.pack_length l
  have hlt : l.length / 8 < (Bs.pack l).length := by omega
  have hby := Bs.pack_bytes hb _ (List.getElem_mem hlt)
  obtain ⟨t, ht⟩ := Bs.pack_last h
  have hg : (Bs.pack l).getD (l.length / 8) 0 = (Bs.pack l)[l.length / 8] := by simp [List.getD_eq_getElem?_getD, hlt]
  have hrd : rd (Bs.pack l) ((l.length / 8 : Nat) : Int) = t * 2 ^ (8 - l.length % 8) := by rw [rd_at _ _ hlt, ← hg, ht]
  rw [← hg, ht] at hby
  rw [Bs.pack_snoc h, hrd, ht]
  have hr : l.length % 8 < 8 := Nat.mod_lt _ (by decide)
  generalize l.length % 8 = r at h hby hr ⊢
  have h1 : (2 : Int) ^ (8 - r) = 2 * 2 ^ (7 - r) := by rw [show 8 - r = (7 - r) + 1 from by omega, Int.pow_succ, Int.mul_comm]
  have h2 : (2 : Int) ^ (7 - r) ≤ 2 ^ 6 := pow_le (by omega)
  rw [show (2 : Int) ^ 6 = 64 from by decide] at h2
  have h3 := Bs.pow_pos (7 - r)
  have h4 : 0 ≤ x * 2 ^ (7 - r) ∧ x * 2 ^ (7 - r) < 2 ^ (8 - r) := by
    rcases hx with rfl | rfl
    · rw [Int.zero_mul]; omega
    · rw [Int.one_mul]; omega
  rw [shl_u8 _ _ (by omega), show x * 2 ^ (7 - r) % 256 = x * 2 ^ (7 - r) from Int.emod_eq_of_lt h4.1 (by omega), or_u8_sum t _ _ (by omega) hby h4]
theorem Put_l0 (v : Int) (hv : 0 ≤ v ∧ v < 18446744073709551616) : ∀ (m : Nat) (l : List Int), Bs.Bits l → m ≤ 64 → l.length + m < 140737488355328 →
    Ev (fun k => A1j.l0 k v ((m : Int) - 1) (Bs.pack l) (l.length : Int)) (Bs.pack (l ++ Bs.low v m), ((l.length + m : Nat) : Int)) := by
  intro m
  induction m with
  | zero =>
    intro l hl _ _
    refine Ev.step (fun k => ?_) (Ev.now _)
    simp only [A1j.l0]
    rw [if_neg (by omega)]
    simp only [Bs.low, List.append_nil, Nat.add_zero]
  | succ m ih =>
    intro l hl hm hlen
    have hp := Bs.pack_length l
    have hn2 : l.length < 140737488355328 := by omega
    have hn3 : l.length < 9223372036854775808 := by omega
    have hlp : (Bs.pack l).length < 140737488355328 := by omega
    have hm63 : m ≤ 63 := by omega
    have hm47 : m < 140737488355328 := by omega
    have hm64 : m ≤ 64 := by omega
    have hlm : (l ++ [v / 2 ^ m % 2]).length + m < 140737488355328 := by rw [List.length_append, List.length_singleton]; omega
    have h7 : ((m + 1 : Nat) : Int) - 1 = (m : Int) := by omega
    have hm0 : (m : Int) ≥ 0 := Int.natCast_nonneg _
    have hi1 : l.length % 8 = 0 → ((l.length / 8 : Nat) : Int) < ((Bs.pack l ++ [0]).length : Int) := by intro h; rw [List.length_append, List.length_singleton]; omega
    have hi2 : l.length % 8 ≠ 0 → ((l.length / 8 : Nat) : Int) < ((Bs.pack l).length : Int) := by intro h; omega
    have hz1 : l.length % 8 = 0 → ((l.length % 8 : Nat) : Int) = 0 := by omega
    have hz2 : l.length % 8 ≠ 0 → ¬ ((l.length % 8 : Nat) : Int) = 0 := by omega
    have hx : v / 2 ^ m % 2 = 0 ∨ v / 2 ^ m % 2 = 1 := Int.emod_two_eq _
    have hb := bit_of v m hv hm63
    have hw1 := wr_pred m hm47
    have hw2 := A3z l.length hn2
    have ht1 := tmod8 l.length
    have := ih (l ++ [v / 2 ^ m % 2]) (hl.append (Bs.Bits.cons hx Bs.Bits.nil)) hm64 hlm
    rw [List.append_assoc, List.singleton_append, ← Bs.low_top, List.length_append, List.length_singleton] at this
    rw [show l.length + (m + 1) = l.length + 1 + m from by rw [Nat.add_comm m 1, Nat.add_assoc]]
    refine Ev.step (fun k => ?_) this
    simp only [A1j.l0]
    rw [h7, if_pos hm0, at_byte _ hn3, at_bit _ hn3, ht1, hw1, hw2, hb]
    by_cases h8 : l.length % 8 = 0
    · rw [if_pos (hz1 h8), if_pos hlp]
      simp only [Option.bind_some]
      rw [if_pos (Int.natCast_nonneg _), if_pos (hi1 h8), if_pos hm0, if_pos (Int.natCast_nonneg _), Int.toNat_natCast, put_first h8 _ hx]
    · rw [if_neg (hz2 h8), if_pos (Int.natCast_nonneg _), if_pos (hi2 h8), if_pos hm0, if_pos (Int.natCast_nonneg _), Int.toNat_natCast, put_next hl h8 _ hx]
theorem Put_is (l : List Int) (hl : Bs.Bits l) (hlen : l.length + 64 < 140737488355328) (v : Int) (hv : 0 ≤ v ∧ v < 18446744073709551616) (n : Int) :
    Ev (fun k => A1j.f k (Bs.pack l) (l.length : Int) v n) (if n < 0 ∨ n > 64 then (Bs.pack l, (l.length : Int)) else (Bs.pack (l ++ Bs.low v n.toNat), ((l.length + n.toNat : Nat) : Int))) := by
  have hp := Bs.pack_length l
  unfold A1j.f A23.f
  rw [if_pos (by omega)]
  simp only [Option.bind_some]
  by_cases c1 : n < 0
  · rw [if_pos (.inl c1)]
    exact Ev.step (g := fun k => _) (fun k => by rw [if_pos c1]; simp only [A1j.j0, if_true]) (Ev.now _)
  by_cases c2 : n > 64
  · rw [if_pos (.inr c2)]
    exact Ev.step (g := fun k => _) (fun k => by rw [if_neg c1, decide_eq_true c2]; simp only [A1j.j0, if_true]) (Ev.now _)
  rw [if_neg (by omega)]
  refine Ev.step (g := fun k => _) (fun k => ?_) (Put_l0 v hv n.toNat l hl (by omega) (by omega))
  rw [if_neg c1, decide_eq_false c2]
  simp only [A1j.j0]
  rw [if_neg (by decide), w64 _ (by omega), show ((n.toNat : Nat) : Int) = n from by omega]
end Go.Proofs.YtodocfjbpkicgaaDoor.PBits
end
section
namespace Go.Proofs.YtodocfjbpkicgaaDoor.PDod
open Go Go.RowKit Go.Proofs.YtodocfjbpkicgaaDoor Go.Proofs.YtodocfjbpkicgaaDoor.All Go.Zw Go.Zl
def restL (L : List Int) (a : Int) : List Int := if a < 0 ∨ a > (L.length : Int) then [] else L.drop a.toNat
theorem restL_bits {L : List Int} (hL : Bs.Bits L) (a : Int) : Bs.Bits (restL L a) := by
 unfold restL
 split
 ·exact Bs.Bits.nil
 ·exact hL.drop _
def ones (d : Int) : Nat :=
 if d = 0 then 0 else if -64 ≤ d ∧ d < 64 then 1 else if -256 ≤ d ∧ d < 256 then 2 else if -2048 ≤ d ∧ d < 2048 then 3 else 4
def size : Nat → Nat
 | 0 => 0
 | 1 => 7
 | 2 => 9
 | 3 => 12
 | _ => 64
theorem ones_le (d : Int) : ones d ≤ 4 := by unfold ones; (repeat' split) <;> omega
theorem l1 (d : Int) (k : Nat) : A19.l0 (k + 1) d 1 = if d ≥ -64 then (if d < 64 then some 1 else A19.l0 k d 2) else A19.l0 k d 2 := by
 rw [A19.l0, if_pos (by decide), show A3i.f 1 = some 7 from rfl, Option.bind_some, if_pos (show (0 : Int) ≤ wrap64 (7 - 1) by decide +kernel), show wrap64 (1 + 1) = 2 from by decide +kernel, show wrap64 (-(shl .i64 1 (wrap64 (7 - 1)))) = -64 from by decide +kernel, show shl .i64 1 (wrap64 (7 - 1)) = 64 from by decide +kernel]
theorem l2 (d : Int) (k : Nat) : A19.l0 (k + 1) d 2 = if d ≥ -256 then (if d < 256 then some 2 else A19.l0 k d 3) else A19.l0 k d 3 := by
 rw [A19.l0, if_pos (by decide), show A3i.f 2 = some 9 from rfl, Option.bind_some, if_pos (show (0 : Int) ≤ wrap64 (9 - 1) by decide +kernel), show wrap64 (2 + 1) = 3 from by decide +kernel, show wrap64 (-(shl .i64 1 (wrap64 (9 - 1)))) = -256 from by decide +kernel, show shl .i64 1 (wrap64 (9 - 1)) = 256 from by decide +kernel]
theorem l3 (d : Int) (k : Nat) : A19.l0 (k + 1) d 3 = if d ≥ -2048 then (if d < 2048 then some 3 else A19.l0 k d 4) else A19.l0 k d 4 := by
 rw [A19.l0, if_pos (by decide), show A3i.f 3 = some 12 from rfl, Option.bind_some, if_pos (show (0 : Int) ≤ wrap64 (12 - 1) by decide +kernel), show wrap64 (3 + 1) = 4 from by decide +kernel, show wrap64 (-(shl .i64 1 (wrap64 (12 - 1)))) = -2048 from by decide +kernel, show shl .i64 1 (wrap64 (12 - 1)) = 2048 from by decide +kernel]
theorem l4 (d : Int) (k : Nat) : A19.l0 (k + 1) d 4 = some 4 := by
 rw [A19.l0, if_neg (by decide)]
theorem Ones_is (d : Int) : Ev (fun k => A19.f k d) ((ones d : Nat) : Int) := by
 refine ⟨4, fun k hk => ?_⟩
 obtain ⟨k, rfl⟩ : ∃ j, k = j + 4 := ⟨k - 4, by omega⟩
 show A19.f (k + 4) d = _
 unfold A19.f ones
 by_cases h0 : d = 0
 ·rw [if_pos h0, if_pos h0]; rfl
 rw [if_neg h0, if_neg h0, l1, l2, l3, l4]
 repeat' split
 all_goals first | rfl | (exfalso; omega)
def dodL (d : Int) : List Int := List.replicate (ones d) 1 ++ (if ones d < 4 then [0] else []) ++ Bs.low (d % 18446744073709551616) (size (ones d))
theorem size_le (o : Nat) : size o ≤ 64 := by unfold size; split <;> omega
theorem size_is (o : Nat) (h : o ≤ 4) : A3i.f (o : Int) = some ((size o : Nat) : Int) := by
 have : ∀ i : Fin 5, A3i.f ((i.val : Nat) : Int) = some ((size i.val : Nat) : Int) := by decide +kernel
 exact this ⟨o, by omega⟩
theorem sext7 (v : Int) (h : 0 ≤ v ∧ v < 128) : shr .i64 (wrap64 (shl .u64 v 57)) 57 = if v < 64 then v else v - 128 := by
 unfold shr shl
 rw [show (57 : Int).toNat = 57 from rfl, show IntKind.u64.bits = 64 from rfl, show IntKind.i64.bits = 64 from rfl, show min 57 64 = 57 from rfl, show (2 : Int) ^ 57 = 144115188075855872 from by decide, Ib.wrap_u64]
 unfold wrap64
 split <;> omega
theorem sext9 (v : Int) (h : 0 ≤ v ∧ v < 512) : shr .i64 (wrap64 (shl .u64 v 55)) 55 = if v < 256 then v else v - 512 := by
 unfold shr shl
 rw [show (55 : Int).toNat = 55 from rfl, show IntKind.u64.bits = 64 from rfl, show IntKind.i64.bits = 64 from rfl, show min 55 64 = 55 from rfl, show (2 : Int) ^ 55 = 36028797018963968 from by decide, Ib.wrap_u64]
 unfold wrap64
 split <;> omega
theorem sext12 (v : Int) (h : 0 ≤ v ∧ v < 4096) : shr .i64 (wrap64 (shl .u64 v 52)) 52 = if v < 2048 then v else v - 4096 := by
 unfold shr shl
 rw [show (52 : Int).toNat = 52 from rfl, show IntKind.u64.bits = 64 from rfl, show IntKind.i64.bits = 64 from rfl, show min 52 64 = 52 from rfl, show (2 : Int) ^ 52 = 4503599627370496 from by decide, Ib.wrap_u64]
 unfold wrap64
 split <;> omega
theorem sext64 (v : Int) (h : 0 ≤ v ∧ v < 18446744073709551616) : shr .i64 (wrap64 (shl .u64 v 0)) 0 = if v < 9223372036854775808 then v else v - 18446744073709551616 := by
 unfold shr shl
 rw [show (0 : Int).toNat = 0 from rfl, show IntKind.u64.bits = 64 from rfl, show IntKind.i64.bits = 64 from rfl, show min 0 64 = 0 from rfl, show (2 : Int) ^ 0 = 1 from by decide, Ib.wrap_u64]
 unfold wrap64
 split <;> omega
def lead : Nat → List Int → Nat
 | 0, _ => 0
 | _ + 1, [] => 0
 | f + 1, x :: t => if x = 1 then lead f t + 1 else 0
theorem lead_le : ∀ (f : Nat) (R : List Int), lead f R ≤ f := by
 intro f
 induction f with
 | zero => intro R; exact Nat.le_refl _
 | succ f ih =>
  intro R
  cases R with
  | nil => exact Nat.zero_le _
  | cons x t =>
   have := ih t
   simp only [lead]
   split <;> omega
theorem lead_len : ∀ (f : Nat) (R : List Int), lead f R ≤ R.length := by
 intro f
 induction f with
 | zero => intro R; exact Nat.zero_le _
 | succ f ih =>
  intro R
  cases R with
  | nil => exact Nat.zero_le _
  | cons x t =>
   have := ih t
   simp only [lead, List.length_cons]
   split <;> omega
def sgn (L : List Int) : Int := if Bs.number L < 2 ^ (L.length - 1) then Bs.number L else Bs.number L - 2 ^ L.length
def A24 (R : List Int) : Int × Int × Int :=
 if R.length < min (lead 4 R + 1) 4 + size (lead 4 R) then (0, 0, 2)
 else if ones (sgn ((R.drop (min (lead 4 R + 1) 4)).take (size (lead 4 R)))) = lead 4 R then (sgn ((R.drop (min (lead 4 R + 1) 4)).take (size (lead 4 R))), ((min (lead 4 R + 1) 4 + size (lead 4 R) : Nat) : Int), 0)
 else (0, 0, 3)
theorem lead_one : ∀ (f : Nat) (R : List Int) (j : Nat) (h : j < R.length), j < lead f R → R[j] = 1 := by
 intro f
 induction f with
 | zero => intro R j h hj; exact absurd hj (by simp [lead])
 | succ f ih =>
  intro R j h hj
  cases R with
  | nil => simp at h
  | cons x t =>
   simp only [lead] at hj
   by_cases c : x = 1
   ·rw [if_pos c] at hj
    cases j with
    | zero => exact c
    | succ j => exact ih t j (by simpa using h) (by omega)
   ·rw [if_neg c] at hj; omega
theorem lead_stop : ∀ (f : Nat) (R : List Int) (h : lead f R < R.length), lead f R < f → R[lead f R] ≠ 1 := by
 intro f
 induction f with
 | zero => intro R h hj; omega
 | succ f ih =>
  intro R h hj
  cases R with
  | nil => simp at h
  | cons x t =>
   by_cases c : x = 1
   ·have e : lead (f + 1) (x :: t) = lead f t + 1 := by simp only [lead, if_pos c]
    simp only [e] at h hj ⊢
    simp only [List.getElem_cons_succ]
    exact ih t (by simpa using h) (by omega)
   ·have e : lead (f + 1) (x :: t) = 0 := by simp only [lead, if_neg c]
    simp only [e, List.getElem_cons_zero]
    exact c
theorem tk_bit (L : List Int) (i : Nat) (h : i < L.length) : PBits.tk L (i : Int) 1 = (L[i], true) := by
 rw [PBits.tk_yes (by omega), Int.toNat_natCast, List.drop_eq_getElem_cons h, show (1 : Int).toNat = 1 from rfl, List.take_succ_cons, List.take_zero]
 simp [Bs.number]
theorem tk_end (L : List Int) (i : Nat) (h : L.length ≤ i) : PBits.tk L (i : Int) 1 = (0, false) := PBits.tk_no (by omega)
theorem Get_l0 (b : List Int) (hb : Bs.Bytes b) (hl : 8 * b.length < 140737488355328) (a : Nat) (ha : a ≤ (Bs.flat b).length) (o : Nat) (ho : o = lead 4 ((Bs.flat b).drop a)) (r : Int × Int × Option Int)
    (hr : min (o + 1) 4 ≤ ((Bs.flat b).drop a).length → Ev (fun k => A12.j2 k b (a : Int) (o : Int) ((min (o + 1) 4 : Nat) : Int)) r)
    (hs : ((Bs.flat b).drop a).length < min (o + 1) 4 → r = (0, 0, some 2)) :
    ∀ (e j : Nat), j + e = o → Ev (fun k => A12.l0 k b (a : Int) (j : Int) (j : Int)) r := by
  have hL := Bs.A3d b
  have hB := Bs.flat_bits b
  have hdl : ((Bs.flat b).drop a).length = (Bs.flat b).length - a := List.length_drop
  have ho4 := lead_le 4 ((Bs.flat b).drop a)
  have hoL := lead_len 4 ((Bs.flat b).drop a)
  rw [← ho] at ho4 hoL
  have ha0 : ¬ ((a : Int) < 0) := by omega
  intro e
  induction e with
  | zero =>
    intro j hj
    obtain rfl : j = o := by omega
    by_cases c4 : j < 4
    · have c4' : (j : Int) < 4 := by omega
      have hm : min (j + 1) 4 = j + 1 := by omega
      have hj4 : a + j < 140737488355328 := by omega
      have hj5 : j < 140737488355328 := by omega
      rw [hm] at hr hs
      by_cases ce : a + j < (Bs.flat b).length
      · have hj2 : j < ((Bs.flat b).drop a).length := by omega
        have hz : (Bs.flat b)[a + j] = 0 := by
          have h1 := lead_stop 4 ((Bs.flat b).drop a) (by rw [← ho]; exact hj2) (by rw [← ho]; exact c4)
          simp only [← ho, List.getElem_drop] at h1
          rcases hB _ (List.getElem_mem ce) with h2 | h2
          · exact h2
          · exact absurd h2 h1
        have hr1 := hr hj2
        have hwa : wrap64 ((a : Int) + (j : Int)) = ((a + j : Nat) : Int) := PBits.wr_add a j hj4
        have hws := PBits.A3z j hj5
        refine Ev.step (fun k => by rw [A12.l0]) ?_
        simp only [if_pos c4', hwa]
        refine Ev.bind (PBits.Take_is b hb hl _ 1) ?_
        rw [tk_bit _ _ ce, hz]
        simp only [if_neg ha0, Bool.not_true]
        refine Ev.step (fun k => by rw [A12.j1]) ?_
        simp only [Bool.false_eq_true, if_false, if_true, hws]
        exact hr1
      · have hle : (Bs.flat b).length ≤ a + j := by omega
        have hs1 := hs (by omega)
        have hwa : wrap64 ((a : Int) + (j : Int)) = ((a + j : Nat) : Int) := PBits.wr_add a j hj4
        refine Ev.step (fun k => by rw [A12.l0]) ?_
        simp only [if_pos c4', hwa]
        refine Ev.bind (PBits.Take_is b hb hl _ 1) ?_
        rw [tk_end _ _ hle]
        simp only [if_neg ha0, Bool.not_false]
        refine Ev.step (fun k => by rw [A12.j1]) ?_
        simp only [if_true]
        rw [hs1]
        exact Ev.now _
    · have c4' : ¬ (j : Int) < 4 := by omega
      have hm : min (j + 1) 4 = j := by omega
      rw [hm] at hr
      refine Ev.step (fun k => by rw [A12.l0]) ?_
      simp only [if_neg c4']
      exact hr hoL
  | succ e ih =>
    intro j hj
    have c4' : (j : Int) < 4 := by omega
    have ce : a + j < (Bs.flat b).length := by omega
    have hj2 : j < ((Bs.flat b).drop a).length := by omega
    have hj3 : j < lead 4 ((Bs.flat b).drop a) := by omega
    have hj4 : a + j < 140737488355328 := by omega
    have hj5 : j < 140737488355328 := by omega
    have hj6 : j + 1 + e = o := by omega
    have hz : (Bs.flat b)[a + j] = 1 := by
      have h1 := lead_one 4 ((Bs.flat b).drop a) j hj2 hj3
      rwa [List.getElem_drop] at h1
    have hwa : wrap64 ((a : Int) + (j : Int)) = ((a + j : Nat) : Int) := PBits.wr_add a j hj4
    have hws := PBits.A3z j hj5
    have hih := ih (j + 1) hj6
    refine Ev.step (fun k => by rw [A12.l0]) ?_
    simp only [if_pos c4', hwa]
    refine Ev.bind (PBits.Take_is b hb hl _ 1) ?_
    rw [tk_bit _ _ ce, hz]
    simp only [if_neg ha0, Bool.not_true]
    refine Ev.step (fun k => by rw [A12.j1]) ?_
    simp only [Bool.false_eq_true, if_false, show ¬ ((1 : Int) = 0) from by decide, hws]
    exact hih
theorem sext_is (L : List Int) (hL : Bs.Bits L) (o : Nat) (ho : o ≤ 4) (h0 : 0 < o) (hl : L.length = size o) : shr .i64 (wrap64 (shl .u64 (Bs.number L) (wrap64 (64 - ((size o : Nat) : Int))))) (wrap64 (64 - ((size o : Nat) : Int))) = sgn L := by
 have hr := Bs.A3q hL
 unfold sgn
 rw [hl] at hr ⊢
 generalize Bs.number L = v at hr
 obtain rfl | rfl | rfl | rfl : o = 1 ∨ o = 2 ∨ o = 3 ∨ o = 4 := by omega
 ·rw [show wrap64 (64 - ((size 1 : Nat) : Int)) = 57 from by decide +kernel]
  exact sext7 v hr
 ·rw [show wrap64 (64 - ((size 2 : Nat) : Int)) = 55 from by decide +kernel]
  exact sext9 v hr
 ·rw [show wrap64 (64 - ((size 3 : Nat) : Int)) = 52 from by decide +kernel]
  exact sext12 v hr
 ·rw [show wrap64 (64 - ((size 4 : Nat) : Int)) = 0 from by decide +kernel]
  exact sext64 v hr
theorem size_pos {o : Nat} (ho : o ≤ 4) (h0 : 0 < o) : 0 < size o := by
 obtain rfl | rfl | rfl | rfl : o = 1 ∨ o = 2 ∨ o = 3 ∨ o = 4 := by omega
 all_goals decide
def gimp (g : Int × Int × Int) : Int × Int × Option Int := (g.1, g.2.1, if g.2.2 = 0 then none else some g.2.2)
theorem Get_j2 (b : List Int) (hb : Bs.Bytes b) (hl : 8 * b.length < 140737488355328) (a : Nat) (ha : a ≤ (Bs.flat b).length) (o : Nat) (ho : o = lead 4 ((Bs.flat b).drop a)) (hfit : min (o + 1) 4 ≤ ((Bs.flat b).drop a).length) :
    Ev (fun k => A12.j2 k b (a : Int) (o : Int) ((min (o + 1) 4 : Nat) : Int)) (gimp (A24 ((Bs.flat b).drop a))) := by
  have hL := Bs.A3d b
  have hB := Bs.flat_bits b
  have hdl : ((Bs.flat b).drop a).length = (Bs.flat b).length - a := List.length_drop
  have ho4 := lead_le 4 ((Bs.flat b).drop a)
  rw [← ho] at ho4
  have hs64 := size_le o
  have hszi := size_is o ho4
  have hsp := fun h => size_pos ho4 h
  have hsx := fun M hM h0 hMl => sext_is M hM o ho4 h0 hMl
  obtain ⟨h, hh⟩ : ∃ h, h = min (o + 1) 4 := ⟨_, rfl⟩
  have hh4 : h ≤ 4 := by omega
  have hg : A24 ((Bs.flat b).drop a) = if ((Bs.flat b).drop a).length < h + size o then (0, 0, 2)
    else if ones (sgn ((((Bs.flat b).drop a).drop h).take (size o))) = o then (sgn ((((Bs.flat b).drop a).drop h).take (size o)), ((h + size o : Nat) : Int), 0) else (0, 0, 3) := by
    unfold A24
    rw [← ho, ← hh]
  rw [hg]
  rw [← hh] at hfit ⊢
  have hdd : ((Bs.flat b).drop a).drop h = (Bs.flat b).drop (a + h) := List.drop_drop
  have hMlen : ¬ ((Bs.flat b).drop a).length < h + size o → (((Bs.flat b).drop (a + h)).take (size o)).length = size o := by
    intro c
    rw [List.length_take, List.length_drop]
    omega
  have hno : ((Bs.flat b).drop a).length < h + size o → (((size o : Nat) : Int) < 0 ∨ ((size o : Nat) : Int) > 64 ∨ ((a + h : Nat) : Int) < 0 ∨ ((a + h : Nat) : Int) > ((Bs.flat b).length : Int) ∨ ((size o : Nat) : Int) > ((Bs.flat b).length : Int) - ((a + h : Nat) : Int)) := by
    intro c
    omega
  have hyes : ¬ ((Bs.flat b).drop a).length < h + size o → ¬ (((size o : Nat) : Int) < 0 ∨ ((size o : Nat) : Int) > 64 ∨ ((a + h : Nat) : Int) < 0 ∨ ((a + h : Nat) : Int) > ((Bs.flat b).length : Int) ∨ ((size o : Nat) : Int) > ((Bs.flat b).length : Int) - ((a + h : Nat) : Int)) := by
    intro c
    omega
  have hb1 : a + h < 140737488355328 := by omega
  have hb2 : h + size o < 140737488355328 := by omega
  have hM : Bs.Bits (((Bs.flat b).drop (a + h)).take (size o)) := (hB.drop _).take _
  have hwa : wrap64 ((a : Int) + (h : Int)) = ((a + h : Nat) : Int) := PBits.wr_add a h hb1
  have hwn : wrap64 ((h : Int) + ((size o : Nat) : Int)) = ((h + size o : Nat) : Int) := PBits.wr_add h (size o) hb2
  have hTk := PBits.Take_is b hb hl ((a + h : Nat) : Int) ((size o : Nat) : Int)
  clear hL hB hdl hg hh hfit hs64 hb1 hb2 ho
  refine Ev.step (fun k => by rw [A12.j2]) ?_
  simp only [hszi, Option.bind_some, hwa]
  refine Ev.bind hTk ?_
  by_cases c : ((Bs.flat b).drop a).length < h + size o
  · rw [PBits.tk_no (hno c), if_pos c]
    simp only [Bool.false_eq_true, if_false]
    exact Ev.now _
  · have hMl := hMlen c
    rw [PBits.tk_yes (hyes c), if_neg c, hdd, Int.toNat_natCast, Int.toNat_natCast]
    simp only [if_true]
    clear hyes hno hMlen hTk hdd
    generalize ((Bs.flat b).drop (a + h)).take (size o) = M at hM hMl
    by_cases c0 : 0 < o
    · have hsi : ((size o : Nat) : Int) > 0 := Int.natCast_pos.2 (hsp c0)
      have hw0 : 0 ≤ wrap64 (64 - ((size o : Nat) : Int)) := by
        clear hwa hwn
        have := size_le o
        rw [PBits.w64 _ (by omega)]
        omega
      have hsx := hsx M hM c0 hMl
      simp only [if_pos hsi, if_pos hw0, hsx]
      refine Ev.bind (Ones_is _) ?_
      by_cases e : ones (sgn M) = o
      · have e' : ((ones (sgn M) : Nat) : Int) = (o : Int) := congrArg _ e
        simp only [if_pos e', if_pos e, hwn]
        exact Ev.now _
      · have e' : ¬ ((ones (sgn M) : Nat) : Int) = (o : Int) := fun h => e (Int.ofNat_inj.1 h)
        simp only [if_neg e', if_neg e]
        exact Ev.now _
    · obtain rfl : o = 0 := Nat.eq_zero_of_not_pos c0
      have hM0 : M = [] := List.eq_nil_of_length_eq_zero hMl
      subst hM0
      have hsi : ¬ (((size 0 : Nat) : Int) > 0) := by decide
      have hz : wrap64 (Bs.number []) = 0 := by decide +kernel
      have hz2 : sgn [] = 0 := by decide +kernel
      simp only [if_neg hsi, hz, hz2]
      refine Ev.bind (Ones_is _) ?_
      have e : ones 0 = 0 := by decide
      have e' : ((ones 0 : Nat) : Int) = ((0 : Nat) : Int) := by rw [e]
      simp only [if_pos e', if_pos e, hwn]
      exact Ev.now _
theorem gspec_nil : A24 [] = (0, 0, 2) := by decide +kernel
theorem Get_is (b : List Int) (hb : Bs.Bytes b) (hl : 8 * b.length < 140737488355328) (a : Int) (ha : -9223372036854775808 ≤ a ∧ a < 9223372036854775808) : Ev (fun k => A12.f k b a) (gimp (A24 (restL (Bs.flat b) a))) := by
 have hL := Bs.A3d b
 unfold A12.f
 by_cases c : a < 0 ∨ a > ((Bs.flat b).length : Int)
 ·have hr : restL (Bs.flat b) a = [] := if_pos c
  have h04 : (0 : Int) < 4 := by decide
  rw [hr, gspec_nil]
  have hw : wrap64 (a + 0) < 0 ∨ wrap64 (a + 0) > ((Bs.flat b).length : Int) := by rw [PBits.w64 _ (by omega)]; omega
  refine Ev.step (fun k => by rw [A12.l0]) ?_
  simp only [if_pos h04]
  refine Ev.bind (PBits.Take_is b hb hl _ 1) ?_
  rw [PBits.tk_no (by omega)]
  by_cases c0 : a < 0
  ·simp only [if_pos c0]
   refine Ev.step (fun k => by rw [A12.j1]) ?_
   simp only [if_true]
   exact Ev.now _
  ·simp only [if_neg c0, Bool.not_false]
   refine Ev.step (fun k => by rw [A12.j1]) ?_
   simp only [if_true]
   exact Ev.now _
 ·have hr : restL (Bs.flat b) a = (Bs.flat b).drop a.toNat := if_neg c
  rw [hr]
  obtain ⟨n, rfl⟩ : ∃ n : Nat, a = (n : Int) := ⟨a.toNat, by omega⟩
  rw [Int.toNat_natCast]
  have hn : n ≤ (Bs.flat b).length := by omega
  refine Get_l0 b hb hl n hn (lead 4 ((Bs.flat b).drop n)) rfl _ (fun hf => Get_j2 b hb hl n hn _ rfl hf) (fun hs => ?_) (lead 4 ((Bs.flat b).drop n)) 0 (by omega)
  unfold A24
  rw [if_pos (by omega)]
  rfl
theorem pow64 : (2 : Int) ^ 64 = 18446744073709551616 := by decide
theorem dodL_length (d : Int) : (dodL d).length = min (ones d + 1) 4 + size (ones d) := by
 have ho := ones_le d
 unfold dodL
 rw [List.length_append, List.length_append, List.length_replicate, Bs.A17]
 split
 ·rw [List.length_singleton]; omega
 ·rw [List.length_nil]; omega
theorem size_inj (o p : Nat) (ho : o ≤ 4) (hp : p ≤ 4) (h : min (o + 1) 4 + size o = min (p + 1) 4 + size p) : o = p := by
 have : ∀ i j : Fin 5, min (i.val + 1) 4 + size i.val = min (j.val + 1) 4 + size j.val → i.val = j.val := by decide
 exact this ⟨o, by omega⟩ ⟨p, by omega⟩ h
theorem low_sgn (M : List Int) (hM : Bs.Bits M) (h64 : M.length ≤ 64) : Bs.low (sgn M % 18446744073709551616) M.length = M := by
 have hr := Bs.A3q hM
 refine Eq.trans (Bs.low_congr ?_) (Bs.low_number hM)
 rw [← pow64, Int.emod_emod_of_dvd _ ⟨2 ^ (64 - M.length), by rw [← Int.pow_add]; congr 1; omega⟩]
 unfold sgn
 split
 ·rfl
 ·exact Int.sub_emod_right _ _
theorem lead_take (o : Nat) : ∀ (f : Nat) (R : List Int), lead f R = o → R.take o = List.replicate o 1 := by
 induction o with
 | zero => intro f R h; rfl
 | succ o ih =>
  intro f R h
  cases f with
  | zero => simp [lead] at h
  | succ f =>
   cases R with
   | nil => simp [lead] at h
   | cons x t =>
    simp only [lead] at h
    by_cases c : x = 1
    ·rw [if_pos c] at h
     rw [List.take_succ_cons, List.replicate_succ, c, ih f t (by omega)]
    ·rw [if_neg c] at h; omega
theorem dodL_take (R : List Int) (hR : Bs.Bits R) (o : Nat) (ho : o = lead 4 R) (hfit : min (o + 1) 4 + size o ≤ R.length) (he : ones (sgn ((R.drop (min (o + 1) 4)).take (size o))) = o) :
    dodL (sgn ((R.drop (min (o + 1) 4)).take (size o))) = R.take (min (o + 1) 4 + size o) := by
  have ho4 := lead_le 4 R
  rw [← ho] at ho4
  have hMl : ((R.drop (min (o + 1) 4)).take (size o)).length = size o := by rw [List.length_take, List.length_drop]; omega
  have hM : Bs.Bits ((R.drop (min (o + 1) 4)).take (size o)) := (hR.drop _).take _
  have hls := low_sgn _ hM (by rw [hMl]; exact size_le o)
  rw [hMl] at hls
  unfold dodL
  rw [he, hls, List.take_add]
  congr 1
  have h1 := lead_take o 4 R ho.symm
  by_cases c : o < 4
  · rw [if_pos c, show min (o + 1) 4 = o + 1 from by omega, List.take_add_one, h1]
    have hlt : o < R.length := by omega
    have hst := lead_stop 4 R (by rw [← ho]; exact hlt) (by rw [← ho]; exact c)
    simp only [← ho] at hst
    have h0 : R[o] = 0 := by
      rcases hR _ (List.getElem_mem hlt) with h | h
      · exact h
      · exact absurd h hst
    rw [List.getElem?_eq_getElem hlt, h0]
    rfl
  · rw [if_neg c, show min (o + 1) 4 = o from by omega, List.append_nil, h1]
theorem gspec_code (R : List Int) : (A24 R).2.2 = 0 ∨ (A24 R).2.2 = 2 ∨ (A24 R).2.2 = 3 := by
 unfold A24
 split
 ·exact .inr (.inl rfl)
 split
 ·exact .inl rfl
 ·exact .inr (.inr rfl)
end Go.Proofs.YtodocfjbpkicgaaDoor.PDod
end
