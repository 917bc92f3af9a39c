-- declarations that this claim needs, copied by a program of the session
import Derived.Test.YtiahbcaoikoogaaDoorKaPBits2
import Derived.Test.YtiahbcaoikoogaaDoorKaIs
import Derived.Lib.ItoaNum
import Derived.Test.YtiahbcaoikoogaaDoorKaAllx27
import Derived.Lib.Bytes
import Derived.Test.YtiahbcaoikoogaaDoorKaSa
section
namespace Go.Proofs.YtiahbcaoikoogaaDoor.PDod
open Go Go.RowKit Go.Proofs.YtiahbcaoikoogaaDoor Go.Proofs.YtiahbcaoikoogaaDoor.All Go.Proofs.YtiahbcaoikoogaaDoorW.PrintWords Go.Proofs.YtiahbcaoikoogaaDoorW.PrintLast
set_option linter.unusedVariables false
set_option linter.unusedSimpArgs false
def ones (d : Int) : Nat :=
  if d = 0 then 0 else if -64 ≤ d ∧ d < 64 then 1 else if -256 ≤ d ∧ d < 256 then 2 else if -2048 ≤ d ∧ d < 2048 then 3 else 4
def size : Nat → Nat
  | 0 => 0
  | 1 => 7
  | 2 => 9
  | 3 => 12
  | _ => 64
theorem ones_le (d : Int) : ones d ≤ 4 := by unfold ones; (repeat' split) <;> omega
theorem l1 (d : Int) (k : Nat) : dod_ones.l0 (k + 1) d 1 = if d ≥ -64 then (if d < 64 then some 1 else dod_ones.l0 k d 2) else dod_ones.l0 k d 2 := by
  rw [dod_ones.l0, if_pos (by decide), show dod_body.f 1 = some 7 from rfl, Option.bind_some, if_pos (show (0 : Int) ≤ wrap64 (7 - 1) by decide +kernel), show wrap64 (1 + 1) = 2 from by decide +kernel, show wrap64 (-(shl .i64 1 (wrap64 (7 - 1)))) = -64 from by decide +kernel, show shl .i64 1 (wrap64 (7 - 1)) = 64 from by decide +kernel]
theorem l2 (d : Int) (k : Nat) : dod_ones.l0 (k + 1) d 2 = if d ≥ -256 then (if d < 256 then some 2 else dod_ones.l0 k d 3) else dod_ones.l0 k d 3 := by
  rw [dod_ones.l0, if_pos (by decide), show dod_body.f 2 = some 9 from rfl, Option.bind_some, if_pos (show (0 : Int) ≤ wrap64 (9 - 1) by decide +kernel), show wrap64 (2 + 1) = 3 from by decide +kernel, show wrap64 (-(shl .i64 1 (wrap64 (9 - 1)))) = -256 from by decide +kernel, show shl .i64 1 (wrap64 (9 - 1)) = 256 from by decide +kernel]
theorem l3 (d : Int) (k : Nat) : dod_ones.l0 (k + 1) d 3 = if d ≥ -2048 then (if d < 2048 then some 3 else dod_ones.l0 k d 4) else dod_ones.l0 k d 4 := by
  rw [dod_ones.l0, if_pos (by decide), show dod_body.f 3 = some 12 from rfl, Option.bind_some, if_pos (show (0 : Int) ≤ wrap64 (12 - 1) by decide +kernel), show wrap64 (3 + 1) = 4 from by decide +kernel, show wrap64 (-(shl .i64 1 (wrap64 (12 - 1)))) = -2048 from by decide +kernel, show shl .i64 1 (wrap64 (12 - 1)) = 2048 from by decide +kernel]
theorem l4 (d : Int) (k : Nat) : dod_ones.l0 (k + 1) d 4 = some 4 := by
  rw [dod_ones.l0, if_neg (by decide)]
theorem Ones_is (d : Int) : Ev (fun k => dod_ones.f k d) ((ones d : Nat) : Int) := by
  refine ⟨4, fun k hk => ?_⟩
  obtain ⟨k, rfl⟩ : ∃ j, k = j + 4 := ⟨k - 4, by omega⟩
  show dod_ones.f (k + 4) d = _
  unfold dod_ones.f ones
  by_cases h0 : d = 0
  · rw [if_pos h0, if_pos h0]; rfl
  rw [if_neg h0, if_neg h0, l1, l2, l3, l4]
  repeat' split
  all_goals first | rfl | (exfalso; omega)
def dodL (d : Int) : List Int := List.replicate (ones d) 1 ++ (if ones d < 4 then [0] else []) ++ Bs.low (d % 18446744073709551616) (size (ones d))
theorem dodL_bits (d : Int) : Bs.Bits (dodL d) := by
  refine Bs.Bits.append (Bs.Bits.append (Bs.Bits.ones _) ?_) (Bs.low_bits _ _)
  split
  · exact Bs.Bits.cons (.inl rfl) Bs.Bits.nil
  · exact Bs.Bits.nil
theorem size_le (o : Nat) : size o ≤ 64 := by unfold size; split <;> omega
theorem size_is (o : Nat) (h : o ≤ 4) : dod_body.f (o : Int) = some ((size o : Nat) : Int) := by
  have : ∀ i : Fin 5, dod_body.f ((i.val : Nat) : Int) = some ((size i.val : Nat) : Int) := by decide +kernel
  exact this ⟨o, by omega⟩
theorem low_ones (o : Nat) (h : o ≤ 4) : Bs.low (IntKind.u64.wrap ((shl .u64 1 (o : Int)) - 1)) o = List.replicate o 1 := by
  have : ∀ i : Fin 5, Bs.low (IntKind.u64.wrap ((shl .u64 1 ((i.val : Nat) : Int)) - 1)) i.val = List.replicate i.val 1 := by decide +kernel
  exact this ⟨o, by omega⟩
theorem Code_is (d : Int) : Ev (fun k => dod_Code.f k d) (Bs.pack (dodL d), ((dodL d).length : Int)) := by
  have ho := ones_le d
  have hs := size_le (ones d)
  have hsz := size_is (ones d) ho
  have hlo := low_ones (ones d) ho
  have hw : 0 ≤ IntKind.u64.wrap (d) ∧ IntKind.u64.wrap (d) < 18446744073709551616 := by rw [Ib.wrap_u64]; omega
  have hwo : 0 ≤ IntKind.u64.wrap ((shl .u64 1 ((ones d : Nat) : Int)) - 1) ∧ IntKind.u64.wrap ((shl .u64 1 ((ones d : Nat) : Int)) - 1) < 18446744073709551616 := by rw [Ib.wrap_u64]; omega
  have hdl : dodL d = List.replicate (ones d) 1 ++ (if ones d < 4 then [0] else []) ++ Bs.low (IntKind.u64.wrap d) (size (ones d)) := by rw [Ib.wrap_u64]; rfl
  have h1 := PBits.Put_is [] Bs.Bits.nil (by simp) _ hwo ((ones d : Nat) : Int)
  rw [Bs.pack_nil, if_neg (by omega), Int.toNat_natCast, hlo, List.nil_append] at h1
  have hb1 : Bs.Bits (List.replicate (ones d) (1 : Int)) := Bs.Bits.ones _
  have hl1 : ((([] : List Int).length + ones d : Nat) : Int) = ((List.replicate (ones d) (1 : Int)).length : Int) := by simp
  rw [hl1] at h1
  have hlen1 : (List.replicate (ones d) (1 : Int)).length = ones d := List.length_replicate
  generalize List.replicate (ones d) (1 : Int) = R at h1 hb1 hdl hlen1
  rw [hdl]
  unfold dod_Code.f
  refine Ev.bind (Ones_is d) ?_
  simp only [if_pos (Int.natCast_nonneg (ones d))]
  refine Ev.bind h1 ?_
  by_cases c : ones d < 4
  · have c' : ((ones d : Nat) : Int) < 4 := by omega
    simp only [if_pos c', if_pos c]
    have h2 := PBits.Put_is R hb1 (by omega) 0 (by decide) 1
    rw [if_neg (by decide), show (1 : Int).toNat = 1 from rfl, show Bs.low 0 1 = [0] from by decide] at h2
    have hb2 : Bs.Bits (R ++ [0]) := hb1.append (Bs.Bits.cons (.inl rfl) Bs.Bits.nil)
    have hl2 : ((R.length + 1 : Nat) : Int) = ((R ++ [0]).length : Int) := by simp
    have hlen2 : (R ++ [0]).length + 64 < 140737488355328 := by rw [List.length_append, List.length_singleton]; omega
    rw [hl2] at h2
    have h3 := PBits.Put_is (R ++ [0]) hb2 hlen2 _ hw ((size (ones d) : Nat) : Int)
    rw [if_neg (by omega), Int.toNat_natCast] at h3
    refine Ev.bind h2 ?_
    simp only [hsz, Option.bind_some]
    refine Ev.bind h3 ?_
    have hz : (R ++ [0]).length + size (ones d) = (R ++ [0] ++ Bs.low (IntKind.u64.wrap d) (size (ones d))).length := by
      generalize R ++ [0] = Q
      rw [List.length_append, Bs.low_length]
    rw [hz]
    exact Ev.now _
  · have c' : ¬ ((ones d : Nat) : Int) < 4 := by omega
    simp only [if_neg c', if_neg c, List.append_nil]
    have h3 := PBits.Put_is R hb1 (by omega) _ hw ((size (ones d) : Nat) : Int)
    rw [if_neg (by omega), Int.toNat_natCast] at h3
    simp only [hsz, Option.bind_some]
    refine Ev.bind h3 ?_
    rw [show R.length + size (ones d) = (R ++ Bs.low (IntKind.u64.wrap d) (size (ones d))).length from by rw [List.length_append, Bs.low_length]]
    exact Ev.now _
def lead : Nat → List Int → Nat
  | 0, _ => 0
  | _ + 1, [] => 0
  | f + 1, x :: t => if x = 1 then lead f t + 1 else 0
def sgn (L : List Int) : Int := if Bs.number L < 2 ^ (L.length - 1) then Bs.number L else Bs.number L - 2 ^ L.length
def gspec (R : List Int) : Int × Int × Int :=
  if R.length < min (lead 4 R + 1) 4 + size (lead 4 R) then (0, 0, 2)
  else if ones (sgn ((R.drop (min (lead 4 R + 1) 4)).take (size (lead 4 R)))) = lead 4 R then (sgn ((R.drop (min (lead 4 R + 1) 4)).take (size (lead 4 R))), ((min (lead 4 R + 1) 4 + size (lead 4 R) : Nat) : Int), 0)
  else (0, 0, 3)
theorem pow64 : (2 : Int) ^ 64 = 18446744073709551616 := by decide
theorem dodL_length (d : Int) : (dodL d).length = min (ones d + 1) 4 + size (ones d) := by
  have ho := ones_le d
  unfold dodL
  rw [List.length_append, List.length_append, List.length_replicate, Bs.low_length]
  split
  · rw [List.length_singleton]; omega
  · rw [List.length_nil]; omega
end Go.Proofs.YtiahbcaoikoogaaDoor.PDod
end
section
namespace Go.Proofs.YtiahbcaoikoogaaDoor.PBits
open Go Go.RowKit Go.Proofs.YtiahbcaoikoogaaDoor Go.Proofs.YtiahbcaoikoogaaDoor.All Go.Proofs.YtiahbcaoikoogaaDoorW.PrintWords Go.Proofs.YtiahbcaoikoogaaDoorW.PrintLast
set_option linter.unusedVariables false
set_option linter.unusedSimpArgs false
theorem join_byte {l : List Int} (hb : Bs.Bits l) (h : l.length % 8 ≠ 0) (c : Int) (hc : 0 ≤ c ∧ c < 256) :
    (Bs.pack l).set (l.length / 8) (Go.bits .or .u8 (rd (Bs.pack l) ((l.length / 8 : Nat) : Int)) (shr .u8 c ((l.length % 8 : Nat) : Int))) ++ [shl .u8 c ((8 - l.length % 8 : Nat) : Int)] = Bs.pack (l ++ Bs.low c 8) := by
  have hp := Bs.pack_length l
  have hlt : l.length / 8 < (Bs.pack l).length := by omega
  have hby := Bs.pack_bytes hb _ (List.getElem_mem hlt)
  obtain ⟨t, ht⟩ := Bs.pack_last h
  have hg : (Bs.pack l).getD (l.length / 8) 0 = (Bs.pack l)[l.length / 8] := by simp [List.getD_eq_getElem?_getD, hlt]
  have hrd : rd (Bs.pack l) ((l.length / 8 : Nat) : Int) = t * 2 ^ (8 - l.length % 8) := by rw [rd_at _ _ hlt, ← hg, ht]
  rw [← hg, ht] at hby
  rw [Bs.pack_byte h c hc, hrd, ht]
  have hr : l.length % 8 < 8 := Nat.mod_lt _ (by decide)
  generalize l.length % 8 = r at h hby hr ⊢
  rw [shr_u8 _ _ (by omega), shl_u8 _ _ (by omega), or_u8_sum t _ _ (by omega) hby]
  have h3 := Bs.pow_pos r
  refine ⟨Int.ediv_nonneg hc.1 (Int.le_of_lt h3), Int.ediv_lt_of_lt_mul h3 ?_⟩
  rw [← Int.pow_add, show 8 - r + r = 8 from by omega]
  exact hc.2
theorem Join_l0 (l m : List Int) (hl : Bs.Bits l) (hm : Bs.Bits m) (h8 : l.length % 8 ≠ 0) (hlen : l.length + m.length + 16 < 140737488355328) : ∀ (d i : Nat), i + d = (Bs.pack m).length →
    Ev (fun k => bits_Join.l0 k ((l.length % 8 : Nat) : Int) (Bs.pack m) ((Bs.pack m).length : Int) (i : Int) (Bs.pack (l ++ Bs.flat ((Bs.pack m).take i))) (l.length : Int) (Bs.pack m) (m.length : Int)) (Bs.pack (l ++ m), ((l.length + m.length : Nat) : Int)) := by
  have hpm := Bs.pack_length m
  have hBm := Bs.pack_bytes hm
  intro d
  induction d with
  | zero =>
    intro i hi
    refine Ev.step (fun k => ?_) (Ev.now _)
    simp only [bits_Join.l0]
    have hz := Bs.pack_zeros (hl.append hm) (8 * ((m.length + 7) / 8) - m.length)
    rw [List.append_assoc, ← Bs.flat_pack hm] at hz
    have hpl := Bs.pack_length (l ++ Bs.flat (Bs.pack m))
    rw [List.length_append, Bs.flat_length] at hpl
    rw [List.length_append] at hz
    have hno : ¬ ((i : Int) < ((Bs.pack m).length : Int)) := by omega
    have hle : (((l.length + m.length + 7) / 8 : Nat) : Int) ≤ ((Bs.pack (l ++ Bs.flat (Bs.pack m))).length : Int) := by omega
    have htot : l.length + m.length < 140737488355328 := by omega
    have hfull : (Bs.pack m).length ≤ i := by omega
    have hw1 := wr_add l.length m.length htot
    have hw2 := wr_bytes (l.length + m.length) htot
    rw [if_neg hno, List.take_of_length_le hfull, hw1, hw2, if_pos (Int.natCast_nonneg _), if_pos hle, Int.toNat_natCast, hz]
  | succ d ih =>
    intro i hi
    have hlt : i < (Bs.pack m).length := by omega
    have hti : ((Bs.pack m).take i).length = i := by rw [List.length_take]; omega
    have hcl : (l ++ Bs.flat ((Bs.pack m).take i)).length = l.length + 8 * i := by rw [List.length_append, Bs.flat_length, hti]
    have hpl := Bs.pack_length (l ++ Bs.flat ((Bs.pack m).take i))
    have hcb : Bs.Bits (l ++ Bs.flat ((Bs.pack m).take i)) := hl.append (Bs.flat_bits _)
    have hin : (i : Int) < ((Bs.pack m).length : Int) := by omega
    have hr8 : l.length % 8 = (l ++ Bs.flat ((Bs.pack m).take i)).length % 8 := by omega
    have hpi : (((l ++ Bs.flat ((Bs.pack m).take i)).length / 8 : Nat) : Int) < ((Bs.pack (l ++ Bs.flat ((Bs.pack m).take i))).length : Int) := by omega
    have hps : (Bs.pack (l ++ Bs.flat ((Bs.pack m).take i))).length < 140737488355328 := by omega
    have hp0 : 0 < (Bs.pack (l ++ Bs.flat ((Bs.pack m).take i))).length := by omega
    have hpe : (Bs.pack (l ++ Bs.flat ((Bs.pack m).take i))).length - 1 = (l ++ Bs.flat ((Bs.pack m).take i)).length / 8 := by omega
    have hi47 : i < 140737488355328 := by omega
    have hcr : (l ++ Bs.flat ((Bs.pack m).take i)).length % 8 ≠ 0 := by omega
    have hid : i + 1 + d = (Bs.pack m).length := by omega
    have hw1 := wr_succ i hi47
    have hw2 := wr_eight (l.length % 8) (Nat.le_of_lt (Nat.mod_lt _ (by decide)))
    have hw3 := wr_pred' _ hp0 hps
    rw [hpe] at hw3
    have hc := hBm _ (List.getElem_mem hlt)
    have := ih (i + 1) hid
    rw [List.take_add_one, List.getElem?_eq_getElem hlt, Option.toList_some, Bs.flat_append, show Bs.flat [(Bs.pack m)[i]] = Bs.low (Bs.pack m)[i] 8 from by simp [Bs.flat], ← List.append_assoc] at this
    rw [← join_byte hcb hcr _ hc] at this
    refine Ev.step (fun k => ?_) this
    simp only [bits_Join.l0]
    rw [if_pos hin, if_pos (Int.natCast_nonneg _), if_pos hin, hw3, if_pos (Int.natCast_nonneg _), if_pos hpi, if_pos (Int.natCast_nonneg _)]
    simp only [Option.bind_some]
    rw [hw2, if_pos (Int.natCast_nonneg _), List.length_set, if_pos hps, rd_at _ _ hlt, hw1, Int.toNat_natCast, hr8]
theorem Join_is (l m : List Int) (hl : Bs.Bits l) (hm : Bs.Bits m) (hlen : l.length + m.length + 16 < 140737488355328) :
    Ev (fun k => bits_Join.f k (Bs.pack l) (l.length : Int) (Bs.pack m) (m.length : Int)) (Bs.pack (l ++ m), ((l.length + m.length : Nat) : Int)) := by
  have hpl := Bs.pack_length l
  have hpm := Bs.pack_length m
  have hsm : (Bs.pack l).length + (Bs.pack m).length < 140737488355328 := by omega
  have hsl : (Bs.pack l).length < 140737488355328 := by omega
  have htot : l.length + m.length < 140737488355328 := by omega
  have hz1 : l.length % 8 = 0 → ((l.length % 8 : Nat) : Int) = 0 := by omega
  have hz2 : l.length % 8 ≠ 0 → ¬ ((l.length % 8 : Nat) : Int) = 0 := by omega
  have ht1 := tmod8 l.length
  have hw1 := wr_add l.length m.length htot
  unfold bits_Join.f slices_Clone_byte_byte.f slices_Concat_byte_byte.f
  rw [ht1]
  by_cases h8 : l.length % 8 = 0
  · refine Ev.congr (fun k => ?_) (Ev.now _)
    have hs : sumTo [Bs.pack l, Bs.pack m] [Bs.pack l, Bs.pack m].length = (Bs.pack l).length + (Bs.pack m).length := by simp [sumTo]
    rw [if_pos (hz1 h8), hs, if_pos hsm]
    simp only [Option.bind_some, List.flatten_cons, List.flatten_nil, List.append_nil]
    rw [hw1, Bs.pack_mod8 h8]
  · refine Ev.congr (fun k => ?_) (Join_l0 l m hl hm h8 hlen (Bs.pack m).length 0 (Nat.zero_add _))
    rw [if_neg (hz2 h8), if_pos hsl]
    simp only [Option.bind_some, List.take_zero, Bs.flat_nil, List.append_nil]
    rfl
end Go.Proofs.YtiahbcaoikoogaaDoor.PBits
end
section
namespace Go.Proofs.YtiahbcaoikoogaaDoor.PXor
open Go Go.RowKit Go.Proofs.YtiahbcaoikoogaaDoor Go.Proofs.YtiahbcaoikoogaaDoor.All Go.Proofs.YtiahbcaoikoogaaDoorW.PrintWords Go.Proofs.YtiahbcaoikoogaaDoorW.PrintLast
set_option linter.unusedVariables false
set_option linter.unusedSimpArgs false
def LL (d : Int) : Nat := 64 - Lib.bitLen d.toNat
def SS (d : Int) : Nat := Lib.bitLen d.toNat - Lib.ctz 64 d.toNat
structure Win (d : Int) : Prop where
  lt : LL d < 64
  pos : 1 ≤ SS d
  le : LL d + SS d ≤ 64
  hi : d < 2 ^ (64 - LL d)
  top : d / 2 ^ (63 - LL d) = 1
  mul : d = (d / 2 ^ (64 - LL d - SS d)) * 2 ^ (64 - LL d - SS d)
  odd : d / 2 ^ (64 - LL d - SS d) % 2 = 1
theorem win (d : Int) (h0 : 0 < d) (h1 : d < 18446744073709551616) : Win d := by
  obtain ⟨x, rfl⟩ := Int.eq_ofNat_of_zero_le (Int.le_of_lt h0)
  have hx0 : x ≠ 0 := by omega
  have hx : x < 2 ^ 64 := by omega
  obtain ⟨b1, b2, b3⟩ := Lib.bitLenAux_bounds 64 x hx hx0
  have b4 := Lib.bitLen_le x 64 (by omega) hx
  obtain ⟨m, hm, hk⟩ := Lib.ctzFrom_spec 64 x (by omega) hx
  have e : Lib.ctz 64 x = Lib.ctzFrom 64 x := by simp [Lib.ctz, hx0]
  have en : Lib.bitLen x = Lib.bitLenAux 64 x := rfl
  have hlt : Lib.ctzFrom 64 x < Lib.bitLenAux 64 x := by
    apply Nat.lt_of_not_le
    intro hle
    have h2 : 2 ^ Lib.bitLenAux 64 x ≤ 2 ^ Lib.ctzFrom 64 x := Nat.pow_le_pow_right (by decide) hle
    have h3 : 2 ^ Lib.ctzFrom 64 x ≤ x := by
      conv => rhs; rw [hm]
      exact Nat.le_mul_of_pos_right _ (by omega)
    omega
  have eL : LL (x : Int) = 64 - Lib.bitLenAux 64 x := by unfold LL; rw [Int.toNat_natCast, en]
  have eS : SS (x : Int) = Lib.bitLenAux 64 x - Lib.ctzFrom 64 x := by unfold SS; rw [Int.toNat_natCast, en, e]
  rw [en] at b4
  generalize hn : Lib.bitLenAux 64 x = n at *
  generalize ht : Lib.ctzFrom 64 x = t at *
  have q1 : 64 - LL (x : Int) = n := by omega
  have q2 : 63 - LL (x : Int) = n - 1 := by omega
  have q3 : 64 - LL (x : Int) - SS (x : Int) = t := by omega
  have hp : 0 < 2 ^ t := Nat.two_pow_pos t
  have hd : x / 2 ^ t = 2 * m + 1 := by rw [hm, Nat.mul_div_cancel_left _ hp]
  have hcast : ∀ j : Nat, ((x : Int) / 2 ^ j) = ((x / 2 ^ j : Nat) : Int) := fun j => by simp
  refine ⟨by omega, by omega, by omega, ?_, ?_, ?_, ?_⟩
  · rw [q1]; exact_mod_cast b3
  · rw [q2, hcast]
    have : x / 2 ^ (n - 1) = 1 := by
      have h5 : 2 ^ n = 2 * 2 ^ (n - 1) := by
        conv => lhs; rw [show n = (n - 1) + 1 from by omega]
        rw [Nat.pow_succ]; omega
      exact Nat.div_eq_of_lt_le (by omega) (by omega)
    rw [this]; rfl
  · rw [q3, hcast, hd]
    have : x = (2 * m + 1) * 2 ^ t := by rw [Nat.mul_comm]; exact hm
    exact_mod_cast this
  · rw [q3, hcast, hd]; omega
def cb (l n : Nat) (d : Int) : List Int :=
  if d = 0 then [0]
  else if 0 < n ∧ l ≤ LL d ∧ LL d + SS d ≤ l + n then [1, 0] ++ Bs.low (d / 2 ^ (64 - l - n)) n
  else [1, 1] ++ Bs.low (LL d) 6 ++ Bs.low ((SS d : Int) - 1) 6 ++ Bs.low (d / 2 ^ (64 - LL d - SS d)) (SS d)
def cl (l n : Nat) (d : Int) : Nat := if d = 0 then l else if 0 < n ∧ l ≤ LL d ∧ LL d + SS d ≤ l + n then l else LL d
def cn (l n : Nat) (d : Int) : Nat := if d = 0 then n else if 0 < n ∧ l ≤ LL d ∧ LL d + SS d ≤ l + n then n else SS d
theorem cb_bits (l n : Nat) (d : Int) : Bs.Bits (cb l n d) := by
  have h : Bs.Bits [(1 : Int), 0] := .cons (.inr rfl) (.cons (.inl rfl) .nil)
  have h' : Bs.Bits [(1 : Int), 1] := .cons (.inr rfl) (.cons (.inr rfl) .nil)
  unfold cb
  split
  · exact .cons (.inl rfl) .nil
  · split
    · exact h.append (Bs.low_bits _ _)
    · exact ((h'.append (Bs.low_bits _ _)).append (Bs.low_bits _ _)).append (Bs.low_bits _ _)
theorem cb_length (l n : Nat) (d : Int) : (cb l n d).length = if d = 0 then 1 else if 0 < n ∧ l ≤ LL d ∧ LL d + SS d ≤ l + n then 2 + n else 14 + SS d := by
  unfold cb
  split
  · rfl
  · split
    · simp only [List.length_append, List.length_cons, List.length_nil, Bs.low_length]
    · simp only [List.length_append, List.length_cons, List.length_nil, Bs.low_length]
theorem cb_ok (l n : Nat) (d : Int) (h : l + n ≤ 64) (h0 : 0 ≤ d) (h1 : d < 18446744073709551616) : cl l n d + cn l n d ≤ 64 := by
  unfold cl cn
  by_cases hd : d = 0
  · rw [if_pos hd, if_pos hd]; exact h
  · rw [if_neg hd, if_neg hd]
    split
    · exact h
    · exact (win d (by omega) h1).le
theorem SS_le (d : Int) (h0 : 0 < d) (h1 : d < 18446744073709551616) : SS d ≤ 64 := by have := (win d h0 h1).le; omega
theorem cb_short (l n : Nat) (d : Int) (h : l + n ≤ 64) (h0 : 0 ≤ d) (h1 : d < 18446744073709551616) : 1 ≤ (cb l n d).length ∧ (cb l n d).length ≤ 78 := by
  rw [cb_length]
  by_cases hd : d = 0
  · rw [if_pos hd]; omega
  · rw [if_neg hd]
    have := SS_le d (by omega) h1
    split <;> omega
theorem xor_range (a b : Int) (ha : 0 ≤ a ∧ a < 18446744073709551616) (hb : 0 ≤ b ∧ b < 18446744073709551616) : 0 ≤ Go.bits .xor .u64 a b ∧ Go.bits .xor .u64 a b < 18446744073709551616 := by
  rw [Ib.xor_u64 a b ha hb]
  have := Nat.xor_lt_two_pow (x := a.toNat) (y := b.toNat) (n := 64) (by omega) (by omega)
  omega
theorem xor_back (p x : Int) (hp : 0 ≤ p ∧ p < 18446744073709551616) (hx : 0 ≤ x ∧ x < 18446744073709551616) : Go.bits .xor .u64 (Go.bits .xor .u64 p x) p = x := by
  have hr := xor_range p x hp hx
  rw [Ib.xor_u64 _ p hr hp, Ib.xor_u64 p x hp hx, Int.toNat_natCast, Nat.xor_comm p.toNat, Nat.xor_assoc, Nat.xor_self, Nat.xor_zero]
  omega
theorem xor_comm (a b : Int) (ha : 0 ≤ a ∧ a < 18446744073709551616) (hb : 0 ≤ b ∧ b < 18446744073709551616) : Go.bits .xor .u64 a b = Go.bits .xor .u64 b a := by
  rw [Ib.xor_u64 a b ha hb, Ib.xor_u64 b a hb ha, Nat.xor_comm]
theorem window_is (d : Int) (h0 : 0 < d) (h1 : d < 18446744073709551616) : xor_window.f d = some ((LL d : Int), (SS d : Int)) := by
  have hw := win d h0 h1
  have b4 : Lib.bitLen d.toNat ≤ 64 := Lib.bitLen_le d.toNat 64 (by omega) (by omega)
  have b5 := hw.lt
  have b6 := hw.pos
  unfold xor_window.f bits_LeadingZeros64.f bits_TrailingZeros64.f
  rw [if_pos (by omega)]
  simp only [Option.bind_some]
  rw [if_pos (by omega)]
  simp only [Option.bind_some]
  unfold LL SS at *
  have e1 : wrap64 (64 - (64 - (Lib.bitLen d.toNat : Int))) = (Lib.bitLen d.toNat : Int) := by rw [PBits.w64 _ (by omega)]; omega
  rw [e1, PBits.w64 _ (by omega)]
  congr 2
  · omega
  · omega
theorem shr_is (x : Int) (s : Nat) (h : s ≤ 64) : shr .u64 x (s : Int) = x / 2 ^ s := by
  unfold shr
  simp only [Int.toNat_natCast]
  rw [show min s IntKind.u64.bits = s from Nat.min_eq_left h]
theorem putk (l : List Int) (hl : Bs.Bits l) (hlen : l.length ≤ 1000) (v : Int) (hv : 0 ≤ v ∧ v < 18446744073709551616) (m : Nat) (hm : m ≤ 64) {n : Int} (hn : n = (m : Int)) :
    Ev (fun k => bits_Put.f k (Bs.pack l) (l.length : Int) v n) (Bs.pack (l ++ Bs.low v m), ((l ++ Bs.low v m).length : Int)) := by
  have h := PBits.Put_is l hl (by omega) v hv n
  rw [if_neg (by omega)] at h
  subst hn
  rw [Int.toNat_natCast] at h
  rw [List.length_append, Bs.low_length]
  exact h
theorem putk0 (v : Int) (hv : 0 ≤ v ∧ v < 18446744073709551616) (m : Nat) (hm : m ≤ 64) {n : Int} (hn : n = (m : Int)) :
    Ev (fun k => bits_Put.f k [] 0 v n) (Bs.pack (Bs.low v m), ((Bs.low v m).length : Int)) := by
  have := putk [] .nil (by simp) v hv m hm hn
  simp only [List.nil_append, Bs.pack_nil] at this
  exact this
theorem div_range (d : Int) (h0 : 0 ≤ d) (h1 : d < 18446744073709551616) (s : Nat) : 0 ≤ d / 2 ^ s ∧ d / 2 ^ s < 18446744073709551616 := by
  have hp : (0 : Int) < 2 ^ s := Bs.pow_pos s
  refine ⟨Int.ediv_nonneg h0 (Int.le_of_lt hp), Int.lt_of_le_of_lt (Int.ediv_le_self _ h0) h1⟩
theorem Code_is (p v : Int) (l n : Nat) (hp : 0 ≤ p ∧ p < 18446744073709551616) (hv : 0 ≤ v ∧ v < 18446744073709551616) (hln : l + n ≤ 64) {d : Int} (hd : Go.bits .xor .u64 v p = d) :
    Ev (fun k => xor_Code.f k p (l : Int) (n : Int) v) (Bs.pack (cb l n d), ((cb l n d).length : Int), v, (cl l n d : Int), (cn l n d : Int)) := by
  have hr := xor_range v p hv hp
  rw [hd] at hr
  by_cases h0 : d = 0
  · subst h0
    have := putk0 0 (by omega) 1 (by omega) (n := 1) rfl
    refine Ev.congr (fun k => by unfold xor_Code.f; rw [hd, if_pos rfl]) (Ev.bind this ?_)
    unfold cb cl cn
    simp only [if_true]
    exact Ev.now _
  have hw := win d (by omega) hr.2
  have hs := SS_le d (by omega) hr.2
  have g1 := hw.lt
  have g2 := hw.pos
  have g3 := hw.le
  have ew := window_is d (by omega) hr.2
  have main : ∀ b : Bool, b = decide (0 < n ∧ l ≤ LL d ∧ LL d + SS d ≤ l + n) → Ev (fun k => xor_Code.j0 k d (LL d : Int) (SS d : Int) b v (l : Int) (n : Int)) (Bs.pack (cb l n d), ((cb l n d).length : Int), v, (cl l n d : Int), (cn l n d : Int)) := by
    intro b hb
    by_cases hc : 0 < n ∧ l ≤ LL d ∧ LL d + SS d ≤ l + n
    · have hb' : b = true := by rw [hb]; exact decide_eq_true hc
      subst hb'
      have e64 : wrap64 (wrap64 (64 - (l : Int)) - (n : Int)) = ((64 - l - n : Nat) : Int) := by rw [PBits.w64 (64 - (l : Int)) (by omega), PBits.w64 _ (by omega)]; omega
      have hput := putk0 2 (by omega) 2 (by omega) (n := 2) rfl
      have l2 : Bs.low 2 2 = [1, 0] := by decide
      rw [l2] at hput
      have hput2 := putk [1, 0] (.cons (.inr rfl) (.cons (.inl rfl) .nil)) (by simp) (d / 2 ^ (64 - l - n)) (div_range d hr.1 hr.2 _) n (by omega) (n := (n : Int)) rfl
      refine Ev.step (fun k => by rw [xor_Code.j0, if_pos rfl, e64]) (Ev.bind hput ?_)
      refine Ev.congr (fun k => by rw [if_pos (Int.natCast_nonneg _), shr_is _ _ (by omega)]) (Ev.bind hput2 ?_)
      unfold cb cl cn
      rw [if_neg h0, if_neg h0, if_neg h0, if_pos hc, if_pos hc, if_pos hc]
      exact Ev.now _
    · have hb' : b = false := by rw [hb]; exact decide_eq_false hc
      subst hb'
      have e64 : wrap64 (wrap64 (64 - (LL d : Int)) - (SS d : Int)) = ((64 - LL d - SS d : Nat) : Int) := by rw [PBits.w64 (64 - (LL d : Int)) (by omega), PBits.w64 _ (by omega)]; omega
      have u1 : IntKind.u64.wrap ((LL d : Int)) = (LL d : Int) := by rw [Ib.wrap_u64]; omega
      have u2 : IntKind.u64.wrap (wrap64 ((SS d : Int) - 1)) = (SS d : Int) - 1 := by rw [PBits.w64 _ (by omega), Ib.wrap_u64]; omega
      have hput := putk0 3 (by omega) 2 (by omega) (n := 2) rfl
      have l2 : Bs.low 3 2 = [1, 1] := by decide
      rw [l2] at hput
      have b1 : Bs.Bits [(1 : Int), 1] := .cons (.inr rfl) (.cons (.inr rfl) .nil)
      have hput2 := putk [1, 1] b1 (by simp) (LL d : Int) (by omega) 6 (by omega) (n := 6) rfl
      have b2 := b1.append (Bs.low_bits 6 (LL d : Int))
      have hput3 := putk _ b2 (by simp [Bs.low_length]) ((SS d : Int) - 1) (by omega) 6 (by omega) (n := 6) rfl
      have b3 := b2.append (Bs.low_bits 6 ((SS d : Int) - 1))
      have hput4 := putk _ b3 (by simp [Bs.low_length]) (d / 2 ^ (64 - LL d - SS d)) (div_range d hr.1 hr.2 _) (SS d) (by omega) (n := (SS d : Int)) rfl
      refine Ev.step (fun k => by rw [xor_Code.j0, if_neg (by decide), e64, u1, u2]) (Ev.bind hput ?_)
      refine Ev.bind hput2 ?_
      refine Ev.bind hput3 ?_
      refine Ev.congr (fun k => by rw [if_pos (Int.natCast_nonneg _), shr_is _ _ (by omega)]) (Ev.bind hput4 ?_)
      unfold cb cl cn
      rw [if_neg h0, if_neg h0, if_neg h0, if_neg hc, if_neg hc, if_neg hc]
      exact Ev.now _
  have w1 : wrap64 ((LL d : Int) + (SS d : Int)) = ((LL d + SS d : Nat) : Int) := by rw [PBits.w64 _ (by omega)]; omega
  have w2 : wrap64 ((l : Int) + (n : Int)) = ((l + n : Nat) : Int) := by rw [PBits.w64 _ (by omega)]; omega
  by_cases c1 : 0 < n
  · by_cases c2 : l ≤ LL d
    · refine Ev.congr (fun k => ?_) (main (decide (wrap64 ((LL d : Int) + (SS d : Int)) ≤ wrap64 ((l : Int) + (n : Int)))) ?_)
      · unfold xor_Code.f
        rw [hd, if_neg h0, ew]
        simp only [Option.bind_some]
        rw [if_pos (by omega), if_pos (by omega)]
      · rw [w1, w2]
        congr 1
        exact propext ⟨fun h => ⟨c1, c2, by omega⟩, fun h => by omega⟩
    · refine Ev.congr (fun k => ?_) (main false ?_)
      · unfold xor_Code.f
        rw [hd, if_neg h0, ew]
        simp only [Option.bind_some]
        rw [if_pos (by omega), if_neg (by omega)]
      · exact (decide_eq_false (by omega)).symm
  · refine Ev.congr (fun k => ?_) (main false ?_)
    · unfold xor_Code.f
      rw [hd, if_neg h0, ew]
      simp only [Option.bind_some]
      rw [if_neg (by omega)]
    · exact (decide_eq_false (by omega)).symm
end Go.Proofs.YtiahbcaoikoogaaDoor.PXor
end
section
namespace Go.Proofs.YtiahbcaoikoogaaDoor.PKinds
open Go Go.RowKit Go.Proofs.YtiahbcaoikoogaaDoor Go.Proofs.YtiahbcaoikoogaaDoor.All Go.Proofs.YtiahbcaoikoogaaDoorW.PrintWords Go.Proofs.YtiahbcaoikoogaaDoorW.PrintLast
set_option linter.unusedVariables false
set_option linter.unusedSimpArgs false
def z8 : S8 := (0, 0, 0, 0, 0, 0, 0, 0)
def dt (t d T : Int) : Int := wrap64 (wrap64 (T - t) - d)
def dv (v e V : Int) : Int := wrap64 (IntKind.u64.wrap (IntKind.u64.wrap (V - v) - e))
abbrev dx (V xp : Int) : Int := Go.bits .xor .u64 V xp
def kp (kind n t d v e xp : Int) (xl xn : Nat) (T V : Int) : List Int × S8 × Int :=
  if ¬ (kind = 1 ∨ kind = 2) then ([], z8, 6)
  else if n = 0 then (Bs.low (IntKind.u64.wrap T) 64 ++ Bs.low V 64, aft kind n t d v e xp xl xn T V 0 0 0, 0)
  else if T ≤ t then ([], z8, 4)
  else if kind = 2 then (PDod.dodL (dt t d T) ++ PDod.dodL (dv v e V), aft kind n t d v e xp xl xn T V 0 0 0, 0)
  else (PDod.dodL (dt t d T) ++ PXor.cb xl xn (dx V xp), aft kind n t d v e xp xl xn T V V (PXor.cl xl xn (dx V xp)) (PXor.cn xl xn (dx V xp)), 0)
def pimp (r : List Int × S8 × Int) : List Int × Int × Int × Int × Int × Int × Int × Int × Int × Int × Option Int :=
  (Bs.pack r.1, (r.1.length : Int), r.2.1.1, r.2.1.2.1, r.2.1.2.2.1, r.2.1.2.2.2.1, r.2.1.2.2.2.2.1, r.2.1.2.2.2.2.2.1, r.2.1.2.2.2.2.2.2.1, r.2.1.2.2.2.2.2.2.2, if r.2.2 = 0 then none else some r.2.2)
theorem pimp_none (c : Int) : pimp ([], z8, c) = (([] : List Int), 0, 0, 0, 0, 0, 0, 0, 0, 0, if c = 0 then none else some c) := by
  simp only [pimp, z8, Bs.pack_nil, List.length_nil]
  rfl
theorem known_is (kind : Int) : kinds_known.f kind = some (decide (kind = 1 ∨ kind = 2)) := by
  unfold kinds_known.f
  by_cases c1 : kind = 1
  · rw [if_pos c1, decide_eq_true (.inl c1)]
  · rw [if_neg c1]
    by_cases c2 : kind = 2
    · rw [beq_iff_eq.mpr c2, decide_eq_true (.inr c2)]
    · rw [beq_eq_false_iff_ne.mpr c2, decide_eq_false (fun h => h.elim c1 c2)]
theorem dodL_len (v : Int) : (PDod.dodL v).length ≤ 68 := by
  have h1 := PDod.dodL_length v
  have h2 := PDod.size_le (PDod.ones v)
  omega
theorem jn (l m : List Int) (hl : Bs.Bits l) (hm : Bs.Bits m) (h : l.length + m.length ≤ 1000) : Ev (fun k => bits_Join.f k (Bs.pack l) (l.length : Int) (Bs.pack m) (m.length : Int)) (Bs.pack (l ++ m), ((l ++ m).length : Int)) := by
  have := PBits.Join_is l m hl hm (by omega)
  rw [← List.length_append] at this
  exact this
theorem u64_range (T : Int) : 0 ≤ IntKind.u64.wrap T ∧ IntKind.u64.wrap T < 18446744073709551616 := by rw [Ib.wrap_u64]; omega
theorem Put_is (kind n t d v e xp : Int) (xl xn : Nat) (T V : Int) (hn : 0 ≤ n) (hV : 0 ≤ V ∧ V < 18446744073709551616) (hp : 0 ≤ xp ∧ xp < 18446744073709551616) (hx : xl + xn ≤ 64) :
    Ev (fun k => kinds_Put.f k kind n t d v e xp (xl : Int) (xn : Int) T V) (pimp (kp kind n t d v e xp xl xn T V)) := by
  unfold kinds_Put.f kp
  rw [known_is]
  simp only [Option.bind_some]
  by_cases c1 : kind = 1 ∨ kind = 2
  · have c1n : ¬ ¬ (kind = 1 ∨ kind = 2) := fun h => h c1
    rw [decide_eq_true c1, if_neg c1n]
    simp only [if_true]
    by_cases c2 : n = 0
    · have e1 := PXor.putk0 (IntKind.u64.wrap T) (u64_range T) 64 (Nat.le_refl _) (n := 64) rfl
      have e2 := PXor.putk (Bs.low (IntKind.u64.wrap T) 64) (Bs.low_bits _ _) (by rw [Bs.low_length]; decide) V hV 64 (Nat.le_refl _) (n := 64) rfl
      have e3 := After_is kind n t d v e xp xl xn T V 0 0 0 hn
      simp only [if_pos c2]
      refine Ev.bind e1 (Ev.bind e2 (Ev.bind e3 ?_))
      exact Ev.now _
    simp only [if_neg c2]
    by_cases c3 : T ≤ t
    · simp only [if_pos c3]
      rw [pimp_none]
      exact Ev.now _
    simp only [if_neg c3]
    have e1 := PDod.Code_is (dt t d T)
    have b1 := PDod.dodL_bits (dt t d T)
    have n1 := dodL_len (dt t d T)
    refine Ev.bind e1 ?_
    by_cases c4 : kind = 2
    · have e2 := PDod.Code_is (dv v e V)
      have e3 := jn _ _ b1 (PDod.dodL_bits (dv v e V)) (by have := dodL_len (dv v e V); omega)
      have e4 := After_is kind n t d v e xp xl xn T V 0 0 0 hn
      simp only [if_pos c4]
      refine Ev.bind e2 (Ev.bind e3 (Ev.bind e4 ?_))
      exact Ev.now _
    · have e2 := PXor.Code_is xp V xl xn hp hV hx (d := dx V xp) rfl
      have hr := PXor.xor_range V xp hV hp
      have hc := PXor.cb_short xl xn (dx V xp) hx hr.1 hr.2
      have e3 := jn _ _ b1 (PXor.cb_bits xl xn (dx V xp)) (by omega)
      have e4 := After_is kind n t d v e xp xl xn T V V (PXor.cl xl xn (dx V xp)) (PXor.cn xl xn (dx V xp)) hn
      simp only [if_neg c4]
      refine Ev.bind e2 (Ev.bind e3 (Ev.bind e4 ?_))
      exact Ev.now _
  · rw [decide_eq_false c1, if_pos c1, pimp_none]
    exact Ev.congr (fun k => if_neg Bool.false_ne_true) (Ev.now _)
end Go.Proofs.YtiahbcaoikoogaaDoor.PKinds
end
section
namespace Go.Proofs.YtiahbcaoikoogaaDoor.PXor
open Go Go.RowKit Go.Proofs.YtiahbcaoikoogaaDoor Go.Proofs.YtiahbcaoikoogaaDoor.All Go.Proofs.YtiahbcaoikoogaaDoorW.PrintWords Go.Proofs.YtiahbcaoikoogaaDoorW.PrintLast
set_option linter.unusedVariables false
set_option linter.unusedSimpArgs false
set_option linter.unusedSectionVars false
def xv (R : List Int) (h lead size : Nat) : Int := Bs.number ((R.drop h).take size) * 2 ^ (64 - lead - size)
abbrev G := Int × Int × Int × Int × Int × Int
def bd (p : Int) (l n : Nat) (R : List Int) (h lead size : Nat) : G :=
  if size = 0 ∨ lead + size > 64 then (0, 0, 0, 0, 0, 3)
  else if R.length < h + size then (0, 0, 0, 0, 0, 2)
  else if cb l n (xv R h lead size) = R.take (h + size) then
    (Go.bits .xor .u64 p (xv R h lead size), Go.bits .xor .u64 p (xv R h lead size), (cl l n (xv R h lead size) : Int), (cn l n (xv R h lead size) : Int), ((h + size : Nat) : Int), 0)
  else (0, 0, 0, 0, 0, 3)
def ld (R : List Int) : Nat := (Bs.number ((R.drop 2).take 6)).toNat
def sd (R : List Int) : Nat := (Bs.number ((R.drop 8).take 6)).toNat + 1
def xg (p : Int) (l n : Nat) (R : List Int) : G :=
  if R.length = 0 then (0, 0, 0, 0, 0, 2)
  else if rd R 0 = 0 then (p, p, (l : Int), (n : Int), 1, 0)
  else if R.length = 1 then (0, 0, 0, 0, 0, 2)
  else if rd R 1 = 1 then (if R.length < 14 then (0, 0, 0, 0, 0, 2) else bd p l n R 14 (ld R) (sd R))
  else bd p l n R 2 l n
theorem pow_mul (a b : Nat) : (2 : Int) ^ (a + b) = 2 ^ a * 2 ^ b := Int.pow_add ..
section
variable (b : List Int) (hb : Bs.Bytes b) (hl : 8 * b.length < 70368744177664) (p : Int) (hp : 0 ≤ p ∧ p < 18446744073709551616) (l n : Nat) (hln : l + n ≤ 64) (A : Nat) (hA : A ≤ (Bs.flat b).length)
include hb hl hp hln hA
end
end Go.Proofs.YtiahbcaoikoogaaDoor.PXor
end
section
namespace Go.Proofs.YtiahbcaoikoogaaDoor.PKinds
open Go Go.RowKit Go.Proofs.YtiahbcaoikoogaaDoor Go.Proofs.YtiahbcaoikoogaaDoor.All Go.Proofs.YtiahbcaoikoogaaDoorW.PrintWords Go.Proofs.YtiahbcaoikoogaaDoorW.PrintLast
set_option linter.unusedVariables false
set_option linter.unusedSimpArgs false
abbrev O := Int × Int × S8 × Int × Int
def bad (c : Int) : O := (0, 0, z8, 0, c)
def kv (kind v e xp : Int) (xl xn : Nat) (R : List Int) : Int × Int × Int × Int × Int × Int :=
  if kind = 2 then (IntKind.u64.wrap (IntKind.u64.wrap (v + e) + IntKind.u64.wrap (PDod.gspec R).1), 0, 0, 0, (PDod.gspec R).2.1, (PDod.gspec R).2.2)
  else PXor.xg xp xl xn R
def fin (kind n t d v e xp : Int) (xl xn : Nat) (T m : Int) (W : Int × Int × Int × Int × Int × Int) : O :=
  if ¬ W.2.2.2.2.2 = 0 then bad W.2.2.2.2.2
  else if T ≤ t then bad 4
  else (T, W.1, aft kind n t d v e xp xl xn T W.1 W.2.1 W.2.2.1 W.2.2.2.1, wrap64 (m + W.2.2.2.2.1), 0)
def kg (kind n t d v e xp : Int) (xl xn : Nat) (R : List Int) : O :=
  if ¬ (kind = 1 ∨ kind = 2) then bad 6
  else if n = 0 then (if R.length < 128 then bad 2 else (wrap64 (Bs.number (R.take 64)), Bs.number ((R.drop 64).take 64), aft kind n t d v e xp xl xn (wrap64 (Bs.number (R.take 64))) (Bs.number ((R.drop 64).take 64)) 0 0 0, 128, 0))
  else if ¬ (PDod.gspec R).2.2 = 0 then bad (PDod.gspec R).2.2
  else fin kind n t d v e xp xl xn (wrap64 (wrap64 (t + d) + (PDod.gspec R).1)) (PDod.gspec R).2.1 (kv kind v e xp xl xn (R.drop (PDod.gspec R).2.1.toNat))
end Go.Proofs.YtiahbcaoikoogaaDoor.PKinds
end
