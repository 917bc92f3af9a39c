/- What the document's Bytes comes to, a law's bits, layer 1's Join, and what it means that bits are these. -/
import Derived.Test.YtfpcbnkipdjlhabAllx10
import Derived.Test.YtfpcbnkipdjlhabAllx11
import Derived.Test.YtfpcbnkipdjlhabM4
import Derived.Test.YtfpcbnkipdjlhabIs
import Derived.Test.YtfpcbnkipdjlhabPBits2
namespace Go.Proofs.Ytfpcbnkipdjlhab.PBits
open Go Go.RowKit Go.Proofs.Ytfpcbnkipdjlhab Go.Proofs.Ytfpcbnkipdjlhab.All Go.Proofs.YtfpcbnkipdjlhabW.PrintWords Go.Proofs.YtfpcbnkipdjlhabW.PrintLast
set_option linter.unusedVariables false
set_option linter.unusedSimpArgs false

theorem Bytes_l1 (xs acc : List Int) (i : Nat) (r : List Int) (hi : i < 1152921504606846976) (h0 : 0 < acc.length) (h1 : acc.length < 1152921504606846976)
    (h : Ev (fun k => gaiterref01_Bytes.l0 k xs (acc.set (acc.length - 1) ((acc.getD (acc.length - 1) 0 + 2 ^ (7 - i % 8)) % 256)) ((i + 1 : Nat) : Int)) r) :
    ∀ (d j : Nat), j + d = i % 8 → Ev (fun k => gaiterref01_Bytes.l1 k xs acc (i : Int) (2 ^ (7 - j)) (j : Int)) r := by
  intro d
  induction d with
  | zero =>
    intro j hj
    refine Ev.step (fun k => ?_) h
    simp only [gaiterref01_Bytes.l1]
    rw [tmod_nat _ (by omega), if_neg (by omega), w64 _ (by omega), if_pos (by omega), if_pos (by omega), w64 _ (by omega), show j = i % 8 from by omega]
    rw [show ((acc.length : Int) - 1) = ((acc.length - 1 : Nat) : Int) from by omega, Int.toNat_natCast]
    rfl
  | succ d ih =>
    intro j hj
    refine Ev.step (fun k => ?_) (ih (j + 1) (by omega))
    simp only [gaiterref01_Bytes.l1]
    rw [tmod_nat _ (by omega), if_pos (by omega), tdiv_nat _ (Int.le_of_lt (Bs.pow_pos _)), w64 _ (by omega)]
    have hp : (2 : Int) ^ (7 - j) = 2 * 2 ^ (7 - (j + 1)) := by rw [show 7 - j = (7 - (j + 1)) + 1 from by omega, Int.pow_succ, Int.mul_comm]
    have hq : (2 : Int) ^ (7 - (j + 1)) ≤ 2 ^ 7 := pow_le (by omega)
    have hq2 : (2 : Int) ^ 7 = 128 := by decide
    have hq3 := Bs.pow_pos (7 - (j + 1))
    rw [show (2 : Int) ^ (7 - j) / 2 % 256 = 2 ^ (7 - (j + 1)) from by omega]
    rfl
theorem pack_snoc_one {l : List Int} (hb : Bs.Bits l) (h : l.length % 8 ≠ 0) : Bs.pack (l ++ [1]) = (Bs.pack l).set ((Bs.pack l).length - 1) (((Bs.pack l).getD ((Bs.pack l).length - 1) 0 + 2 ^ (7 - l.length % 8)) % 256) := by
  rw [Bs.pack_length, show (l.length + 7) / 8 - 1 = l.length / 8 from by omega]
  have h1 := Bs.pack_snoc h 1
  rw [Int.one_mul] at h1
  have h2 := Bs.pack_bytes (hb.append (Bs.Bits.cons (.inr rfl) Bs.Bits.nil))
  have hlen : l.length / 8 < (Bs.pack l).length := by rw [Bs.pack_length]; omega
  have h3 : (Bs.pack l).getD (l.length / 8) 0 + 2 ^ (7 - l.length % 8) ∈ Bs.pack (l ++ [1]) := by
    rw [h1]; exact List.mem_set hlen _
  have h4 := h2 _ h3
  rw [Int.emod_eq_of_lt h4.1 h4.2]
  exact h1
theorem Bytes_l0 (xs : List Int) (hx : Bs.Bits xs) (hl : xs.length < 140737488355328) : ∀ (d i : Nat), i + d = xs.length →
    Ev (fun k => gaiterref01_Bytes.l0 k xs (Bs.pack (xs.take i)) (i : Int)) (Bs.pack xs) := by
  intro d
  induction d with
  | zero =>
    intro i hi
    refine Ev.step (fun k => ?_) (Ev.now _)
    simp only [gaiterref01_Bytes.l0]
    rw [if_neg (by omega), List.take_of_length_le (by omega)]
  | succ d ih =>
    intro i hi
    have hlt : i < xs.length := by omega
    have hc := hx xs[i] (List.getElem_mem hlt)
    have hti : (xs.take i).length = i := by rw [List.length_take]; omega
    have hbt : Bs.Bits (xs.take i) := hx.take i
    have hpl : (Bs.pack (xs.take i)).length = (i + 7) / 8 := by rw [Bs.pack_length, hti]
    have htk : xs.take (i + 1) = xs.take i ++ [xs[i]] := by rw [List.take_add_one, List.getElem?_eq_getElem hlt]; rfl
    have := ih (i + 1) (by omega)
    rw [htk] at this
    -- the byte is there
    obtain ⟨acc, hacc⟩ : ∃ acc, acc = (if i % 8 = 0 then Bs.pack (xs.take i) ++ [0] else Bs.pack (xs.take i)) := ⟨_, rfl⟩
    have hal : acc.length = i / 8 + 1 := by
      rw [hacc]; split
      · rw [List.length_append, hpl, List.length_singleton]; omega
      · rw [hpl]; omega
    have h0 : xs[i] = 0 → acc = Bs.pack (xs.take i ++ [xs[i]]) := by
      intro e
      rw [hacc, e]; split
      · rename_i h8; rw [Bs.pack_snoc0 (by omega)]; rfl
      · rename_i h8
        rw [Bs.pack_snoc (by omega), Int.zero_mul, Int.add_zero, hti]
        rw [List.getD_eq_getElem?_getD, List.getElem?_eq_getElem (by omega), Option.getD_some, List.set_getElem_self]
    have h1 : xs[i] = 1 → acc.set (acc.length - 1) ((acc.getD (acc.length - 1) 0 + 2 ^ (7 - i % 8)) % 256) = Bs.pack (xs.take i ++ [xs[i]]) := by
      intro e
      rw [hacc, e]; split
      · rename_i h8
        rw [Bs.pack_snoc0 (by omega), List.length_append, List.length_singleton, Nat.add_sub_cancel, List.set_append_right _ _ (by omega), h8]
        simp [List.getD_eq_getElem?_getD]
      · rename_i h8
        have := pack_snoc_one hbt (by omega)
        rw [hti] at this
        exact this.symm
    have h2 : Ev (fun k => gaiterref01_Bytes.j1 k xs acc (i : Int)) (Bs.pack xs) := by
      rcases hc with hc | hc
      · refine Ev.step (fun k => ?_) this
        simp only [gaiterref01_Bytes.j1]
        rw [if_pos (by omega), if_pos (by omega), rd_at xs i hlt, hc, if_neg (by decide), w64 _ (by omega), h0 hc, hc]
        rfl
      · refine Ev.step (fun k => ?_) (Bytes_l1 xs acc i _ (by omega) (by omega) (by omega) (by rw [h1 hc]; exact this) (i % 8) 0 (by omega))
        simp only [gaiterref01_Bytes.j1]
        rw [if_pos (by omega), if_pos (by omega), rd_at xs i hlt, hc, if_pos rfl]
        rfl
    refine Ev.step (fun k => ?_) h2
    simp only [gaiterref01_Bytes.l0]
    rw [if_pos (by omega), tmod_nat _ (by omega), hacc]
    by_cases h8 : i % 8 = 0
    · rw [if_pos (by omega), if_pos (by omega), if_pos h8]
    · rw [if_neg (by omega), if_neg h8]
theorem Bytes_is (xs : List Int) (hx : Bs.Bits xs) (hl : xs.length < 140737488355328) : Ev (fun k => gaiterref01_Bytes.f k xs) (Bs.pack xs) := by
  have := Bytes_l0 xs hx hl xs.length 0 (by omega)
  rw [List.take_zero, Bs.pack_nil] at this
  exact this
def par (xs : List Int) : List Int := xs.map (· % 2)
theorem par_bits (xs : List Int) : Bs.Bits (par xs) := by
  intro x hx; obtain ⟨y, _, rfl⟩ := List.mem_map.1 hx; omega
theorem par_length (xs : List Int) : (par xs).length = xs.length := List.length_map ..
theorem Bits_l0 (xs : List Int) (hx : Bs.Bytes xs) (hl : xs.length < 140737488355328) : ∀ (d i : Nat), i + d = xs.length →
    Ev (fun k => gaiterlaw00_Bits.l0 k xs (par (xs.take i)) (i : Int)) (Bs.pack (par xs), (xs.length : Int)) := by
  intro d
  induction d with
  | zero =>
    intro i hi
    refine Ev.step (f := fun k => (gaiterref01_Bytes.f k (par xs)).bind fun t => some (t, (xs.length : Int))) (fun k => ?_) (Ev.bind (Bytes_is (par xs) (par_bits xs) (by rw [par_length]; exact hl)) (Ev.now _))
    simp only [gaiterlaw00_Bits.l0]
    rw [if_neg (by omega), List.take_of_length_le (by omega)]
  | succ d ih =>
    intro i hi
    have hlt : i < xs.length := by omega
    have hc := hx xs[i] (List.getElem_mem hlt)
    have := ih (i + 1) (by omega)
    have htk : xs.take (i + 1) = xs.take i ++ [xs[i]] := by rw [List.take_add_one, List.getElem?_eq_getElem hlt]; rfl
    rw [htk] at this
    refine Ev.step (fun k => ?_) this
    simp only [gaiterlaw00_Bits.l0]
    rw [if_pos (by omega), if_pos (by omega), if_pos (by rw [par_length, List.length_take]; omega), rd_at xs i hlt, tmod_nat _ hc.1, w64 _ (by omega)]
    congr 1
    simp only [par, List.map_append, List.map_cons, List.map_nil]
theorem Bits_is (xs : List Int) (hx : Bs.Bytes xs) (hl : xs.length < 140737488355328) : Ev (fun k => gaiterlaw00_Bits.f k xs) (Bs.pack (par xs), (xs.length : Int)) :=
  Bits_l0 xs hx hl xs.length 0 (by omega)

/-! Take -/
theorem join_byte {l : List Int} (hb : Bs.Bits l) (h : l.length % 8 ≠ 0) (c : Int) (hc : 0 ≤ c ∧ c < 256) :
    (Bs.pack l).set (l.length / 8) (Go.bits .or .u8 (rd (Bs.pack l) ((l.length / 8 : Nat) : Int)) (shr .u8 c ((l.length % 8 : Nat) : Int))) ++ [shl .u8 c ((8 - l.length % 8 : Nat) : Int)] = Bs.pack (l ++ Bs.low c 8) := by
  have hp := Bs.pack_length l
  have hlt : l.length / 8 < (Bs.pack l).length := by omega
  have hby := Bs.pack_bytes hb _ (List.getElem_mem hlt)
  obtain ⟨t, ht⟩ := Bs.pack_last h
  have hg : (Bs.pack l).getD (l.length / 8) 0 = (Bs.pack l)[l.length / 8] := by simp [List.getD_eq_getElem?_getD, hlt]
  have hrd : rd (Bs.pack l) ((l.length / 8 : Nat) : Int) = t * 2 ^ (8 - l.length % 8) := by rw [rd_at _ _ hlt, ← hg, ht]
  rw [← hg, ht] at hby
  rw [Bs.pack_byte h c hc, hrd, ht]
  have hr : l.length % 8 < 8 := Nat.mod_lt _ (by decide)
  generalize l.length % 8 = r at h hby hr ⊢
  rw [shr_u8 _ _ (by omega), shl_u8 _ _ (by omega), or_u8_sum t _ _ (by omega) hby]
  have h3 := Bs.pow_pos r
  refine ⟨Int.ediv_nonneg hc.1 (Int.le_of_lt h3), Int.ediv_lt_of_lt_mul h3 ?_⟩
  rw [← Int.pow_add, show 8 - r + r = 8 from by omega]
  exact hc.2
theorem Join_l0 (l m : List Int) (hl : Bs.Bits l) (hm : Bs.Bits m) (h8 : l.length % 8 ≠ 0) (hlen : l.length + m.length + 16 < 140737488355328) : ∀ (d i : Nat), i + d = (Bs.pack m).length →
    Ev (fun k => bits_Join.l0 k ((l.length % 8 : Nat) : Int) (Bs.pack m) ((Bs.pack m).length : Int) (i : Int) (Bs.pack (l ++ Bs.flat ((Bs.pack m).take i))) (l.length : Int) (Bs.pack m) (m.length : Int)) (Bs.pack (l ++ m), ((l.length + m.length : Nat) : Int)) := by
  have hpm := Bs.pack_length m
  have hBm := Bs.pack_bytes hm
  intro d
  induction d with
  | zero =>
    intro i hi
    refine Ev.step (fun k => ?_) (Ev.now _)
    simp only [bits_Join.l0]
    have hz := Bs.pack_zeros (hl.append hm) (8 * ((m.length + 7) / 8) - m.length)
    rw [List.append_assoc, ← Bs.flat_pack hm] at hz
    have hpl := Bs.pack_length (l ++ Bs.flat (Bs.pack m))
    rw [List.length_append, Bs.flat_length] at hpl
    rw [List.length_append] at hz
    have hno : ¬ ((i : Int) < ((Bs.pack m).length : Int)) := by omega
    have hle : (((l.length + m.length + 7) / 8 : Nat) : Int) ≤ ((Bs.pack (l ++ Bs.flat (Bs.pack m))).length : Int) := by omega
    have htot : l.length + m.length < 140737488355328 := by omega
    have hfull : (Bs.pack m).length ≤ i := by omega
    have hw1 := wr_add l.length m.length htot
    have hw2 := wr_bytes (l.length + m.length) htot
    rw [if_neg hno, List.take_of_length_le hfull, hw1, hw2, if_pos (Int.natCast_nonneg _), if_pos hle, Int.toNat_natCast, hz]
  | succ d ih =>
    intro i hi
    have hlt : i < (Bs.pack m).length := by omega
    have hti : ((Bs.pack m).take i).length = i := by rw [List.length_take]; omega
    have hcl : (l ++ Bs.flat ((Bs.pack m).take i)).length = l.length + 8 * i := by rw [List.length_append, Bs.flat_length, hti]
    have hpl := Bs.pack_length (l ++ Bs.flat ((Bs.pack m).take i))
    have hcb : Bs.Bits (l ++ Bs.flat ((Bs.pack m).take i)) := hl.append (Bs.flat_bits _)
    have hin : (i : Int) < ((Bs.pack m).length : Int) := by omega
    have hr8 : l.length % 8 = (l ++ Bs.flat ((Bs.pack m).take i)).length % 8 := by omega
    have hpi : (((l ++ Bs.flat ((Bs.pack m).take i)).length / 8 : Nat) : Int) < ((Bs.pack (l ++ Bs.flat ((Bs.pack m).take i))).length : Int) := by omega
    have hps : (Bs.pack (l ++ Bs.flat ((Bs.pack m).take i))).length < 140737488355328 := by omega
    have hp0 : 0 < (Bs.pack (l ++ Bs.flat ((Bs.pack m).take i))).length := by omega
    have hpe : (Bs.pack (l ++ Bs.flat ((Bs.pack m).take i))).length - 1 = (l ++ Bs.flat ((Bs.pack m).take i)).length / 8 := by omega
    have hi47 : i < 140737488355328 := by omega
    have hcr : (l ++ Bs.flat ((Bs.pack m).take i)).length % 8 ≠ 0 := by omega
    have hid : i + 1 + d = (Bs.pack m).length := by omega
    have hw1 := wr_succ i hi47
    have hw2 := wr_eight (l.length % 8) (Nat.le_of_lt (Nat.mod_lt _ (by decide)))
    have hw3 := wr_pred' _ hp0 hps
    rw [hpe] at hw3
    have hc := hBm _ (List.getElem_mem hlt)
    have := ih (i + 1) hid
    rw [List.take_add_one, List.getElem?_eq_getElem hlt, Option.toList_some, Bs.flat_append, show Bs.flat [(Bs.pack m)[i]] = Bs.low (Bs.pack m)[i] 8 from by simp [Bs.flat], ← List.append_assoc] at this
    rw [← join_byte hcb hcr _ hc] at this
    refine Ev.step (fun k => ?_) this
    simp only [bits_Join.l0]
    rw [if_pos hin, if_pos (Int.natCast_nonneg _), if_pos hin, hw3, if_pos (Int.natCast_nonneg _), if_pos hpi, if_pos (Int.natCast_nonneg _)]
    simp only [Option.bind_some]
    rw [hw2, if_pos (Int.natCast_nonneg _), List.length_set, if_pos hps, rd_at _ _ hlt, hw1, Int.toNat_natCast, hr8]
/-- Join: the bits of the one, and behind them the ones of the other. -/
theorem Join_is (l m : List Int) (hl : Bs.Bits l) (hm : Bs.Bits m) (hlen : l.length + m.length + 16 < 140737488355328) :
    Ev (fun k => bits_Join.f k (Bs.pack l) (l.length : Int) (Bs.pack m) (m.length : Int)) (Bs.pack (l ++ m), ((l.length + m.length : Nat) : Int)) := by
  have hpl := Bs.pack_length l
  have hpm := Bs.pack_length m
  have hsm : (Bs.pack l).length + (Bs.pack m).length < 140737488355328 := by omega
  have hsl : (Bs.pack l).length < 140737488355328 := by omega
  have htot : l.length + m.length < 140737488355328 := by omega
  have hz1 : l.length % 8 = 0 → ((l.length % 8 : Nat) : Int) = 0 := by omega
  have hz2 : l.length % 8 ≠ 0 → ¬ ((l.length % 8 : Nat) : Int) = 0 := by omega
  have ht1 := tmod8 l.length
  have hw1 := wr_add l.length m.length htot
  unfold bits_Join.f slices_Clone_byte_byte.f slices_Concat_byte_byte.f
  rw [ht1]
  by_cases h8 : l.length % 8 = 0
  · refine Ev.congr (fun k => ?_) (Ev.now _)
    have hs : sumTo [Bs.pack l, Bs.pack m] [Bs.pack l, Bs.pack m].length = (Bs.pack l).length + (Bs.pack m).length := by simp [sumTo]
    rw [if_pos (hz1 h8), hs, if_pos hsm]
    simp only [Option.bind_some, List.flatten_cons, List.flatten_nil, List.append_nil]
    rw [hw1, Bs.pack_mod8 h8]
  · refine Ev.congr (fun k => ?_) (Join_l0 l m hl hm h8 hlen (Bs.pack m).length 0 (Nat.zero_add _))
    rw [if_neg (hz2 h8), if_pos hsl]
    simp only [Option.bind_some, List.take_zero, Bs.flat_nil, List.append_nil]
    rfl
/-- Is: the same bits. -/
theorem Is_is (l : List Int) (hl : Bs.Bits l) (hlen : l.length < 140737488355328) : Ev (fun k => gaiterlaw00_Is.f k (Bs.pack l) (l.length : Int) l) 1 := by
  unfold gaiterlaw00_Is.f
  refine Ev.congr (f := fun k => (gaiterref01_Bytes.f k l).bind fun t108 => (if (strOfNums (Bs.pack l)).toList = (strOfNums t108).toList then (some 1) else (some 0))) (fun k => by rw [if_pos rfl]) ?_
  exact Ev.bind (Bytes_is l hl hlen) (Ev.congr (fun k => by rw [if_pos rfl]) (Ev.now _))

end Go.Proofs.Ytfpcbnkipdjlhab.PBits
