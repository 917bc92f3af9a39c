/- The walks of slices.Grow at nil and of slices.Concat at [][]byte: all bytes, one list behind the other, in new memory. -/
import Derived.Test.YthlieaggokdppaaM2
namespace Go.Proofs.Ythlieaggokdppaa
open Go.RowKit Go.Proofs.YthlieaggokdppaaW.PrintWords Go.Proofs.YthlieaggokdppaaW.PrintLast
set_option linter.unusedVariables false
set_option linter.unusedSimpArgs false

set_option maxHeartbeats 4000000 in
set_option maxRecDepth 100000 in
theorem grow_nil (n : Int) (w : World) (h0 : 0 ≤ n) (h1 : n < 140737488355328) :
    Calls Try.prog 63 #[.slice none 0 0, .int .i64 n] w fun e w' => ∃ v0_ : Value, e = .returned (v0_) ∧ Kd.R (Kd.int .u8) 5 w' w.heap.size (fun _ => True) v0_ [] ∧ Below w.heap.size w w' := by
  have hb0 : decide (n < 0) = false := decide_eq_false (by omega)
  have HB : Aside0 (Below w.heap.size w w) := ⟨Below.refl _ _⟩
  by_cases hn : 0 < n
  · have hb1 : decide (0 < n) = true := decide_eq_true hn
    have L1 := Aside0.mk h1
    have L0 := Aside0.mk h0
    have hnil : Aside0 (Kd.R (Kd.int .u8) 5 w w.heap.size (fun _ => True) (.slice none 0 0) []) := ⟨Kd.R_nil _ _ _ _ _⟩
    go_enter Try.func63, Try.ntmps63
    go_wp2_with (first | (at_builtin; refine Kd.R_append_zeros (Kd.int .u8) (w0 := w) w.heap.size rfl (.tmp 20) (.tmp 21) 27 3 5 (.int .u8 0) 1 rfl Try.underlying27 Try.underlying3 infoU8 rfl (by decide) (by omega) (.slice none 0 0) [] (0 : Int) n (fun _ => True) rfl rfl rfl ?aF ?aO ?aN ?aB ?aS ?aL ?_; (case aF => exact (fun _ _ => trivial)); (case aO => exact hnil.out); (case aN => exact L0.out); (case aB => exact HB.out); (case aS => exact Nat.le_refl _); (case aL => (have := L1.out; simp only [List.length_nil]; omega)); intro v1 w1 ho hb hg hat; have n0_ := Aside0.mk hb; have n1_ := Aside0.mk ho; clear HB hnil; have HB := n0_; have HO := n1_; clear n0_ n1_ ho hb hg hat))
    obtain ⟨A1, c1, e1⟩ := Kd.R_slice HO.out
    rw [show (([] : List Int) ++ List.replicate n.toNat (0 : Int)).length = n.toNat from by simp] at e1
    subst e1
    have hsl : ∀ W : World, (Instr.slice 27 (.slice A1 n.toNat c1) none (some (.int .i64 0)) none).run Try.prog W = .ok (.slice A1 0 c1) W := by
      obtain ⟨i0, hi, _, hsz, _⟩ := info_parts infoU8
      intro W
      have := (print_take_of (P := Try.prog) (Value.int .u8) (0 : Int) 27 5 .i64 Try.underlying27 hi hsz A1 c1 (([] : List Int) ++ List.replicate n.toNat 0) 0 (by omega) (by omega) (by obtain ⟨A2, c2, e2, h2, _⟩ := Kd.R_reads HO.out; injection e2 with _ _ e3; simp at h2; simp; omega)).1 W
      simpa using this
    have HO2 := Aside0.mk (Kd.R_take (m := 0) HO.out (by omega))
    clear HO
    simp only [hsl, Result.andThen_ok]
    go_wp2
    go_ret
    exact ⟨_, rfl, by simpa using HO2.out, HB.out⟩
  · have hb1 : decide (0 < n) = false := decide_eq_false hn
    go_enter Try.func63, Try.ntmps63
    go_wp2
    go_ret
    exact ⟨_, rfl, Kd.R_nil _ _ _ _ _, HB.out⟩

theorem C_inner {e : Nat} {w : World} {A : Option Addr} {n : Nat} {xs : List (List Int)} (h : Kd.C (Kd.slice e (Kd.int .u8)) w A n xs) (k : Nat) (hk : k < n) :
    ∃ ad Ak ck, A = some ad ∧ w.cell? (ad.add k) = some (.slice Ak (xs.getD k []).length ck) ∧ (xs.getD k []).length ≤ ck ∧ Kd.C (Kd.int .u8) w Ak (xs.getD k []).length (xs.getD k []) := by
  obtain ⟨ad, c, hA, _, ⟨Ak, ck, hc, hl, hC⟩, hcell⟩ := Kd.C_get h [] (k : Int) (by omega) (by omega)
  subst hc
  have := hcell 0 _ rfl
  simp only [Int.toNat_natCast] at this hl hC
  exact ⟨ad, Ak, ck, hA, by simpa [Kd.slice] using this, hl, hC⟩

def sumTo (l : List (List Int)) (k : Nat) : Nat := ((l.take k).map List.length).sum
theorem sumTo_succ (l : List (List Int)) (k : Nat) (hk : k < l.length) : sumTo l (k + 1) = sumTo l k + (l.getD k []).length := by
  unfold sumTo
  rw [List.take_succ_eq_append_getElem hk, List.map_append, List.sum_append]
  simp [List.getD_eq_getElem?_getD, hk]
theorem sumTo_le (l : List (List Int)) (k : Nat) : sumTo l k ≤ sumTo l l.length := by
  unfold sumTo
  rw [List.take_length]
  conv => rhs; rw [← List.take_append_drop k l, List.map_append, List.sum_append]
  omega
theorem flat_succ (l : List (List Int)) (k : Nat) (hk : k < l.length) : (l.take (k + 1)).flatten = (l.take k).flatten ++ l.getD k [] := by
  rw [List.take_succ_eq_append_getElem hk, List.flatten_append]
  simp [List.getD_eq_getElem?_getD, hk]
theorem flat_len (l : List (List Int)) (k : Nat) : (l.take k).flatten.length = sumTo l k := by
  rw [List.length_flatten]; rfl

def slices_Concat_byte_byte.f (l0 : List (List Int)) : Option (List Int) := if sumTo l0 l0.length < 140737488355328 then some l0.flatten else none
set_option maxHeartbeats 4000000 in
set_option maxRecDepth 100000 in
theorem slices_Concat_byte_byte.calls (A0 : Option Addr) (c0 : Nat) (l0 : List (List Int)) (r : List Int) (w : World) (hr0 : Kd.C (Kd.slice 5 (Kd.int .u8)) w A0 l0.length l0) (hc0 : l0.length ≤ c0) (h : slices_Concat_byte_byte.f l0 = some r) :
    Calls Try.prog 62 #[.slice A0 l0.length c0] w fun e w' => ∃ v0_ : Value, e = .returned (v0_) ∧ Kd.R (Kd.int .u8) 5 w' w.heap.size (fun _ => True) v0_ r ∧ Below w.heap.size w w' := by
  unfold slices_Concat_byte_byte.f at h
  by_cases hl : sumTo l0 l0.length < 140737488355328
  · rw [if_pos hl] at h
    obtain rfl := Option.some.inj h
    clear h
    have LM := Aside0.mk hl
    have HR0 := Aside0.mk hr0
    have HX := Aside0.mk (Kd.C_max hr0)
    clear hl hr0
    go_enter Try.func62, Try.ntmps62
    go_wp2
    go_loop [3, 11] (fun s i => ∃ k : Nat, k ≤ l0.length ∧ i = .int .i64 k ∧ s = .int .i64 (sumTo l0 k : Nat)) (fun _ i => l0.length - (intOf i).toNat)
    case atStart => exact ⟨0, Nat.zero_le _, rfl, rfl⟩
    case round =>
      obtain ⟨k, hk, rfl, rfl⟩ := hrel
      have hx := HX.out
      by_cases hlt : k < l0.length
      · obtain ⟨ad, Ak, ck, rfl, hcell, hck, hC⟩ := C_inner HR0.out k hlt
        have hs := sumTo_succ l0 k hlt
        have hle := sumTo_le l0 (k + 1)
        have hlm := LM.out
        generalize l0.getD k [] = ys at *
        generalize sumTo l0 k = s at *
        have hb : s + ys.length < 140737488355328 := by omega
        have HS := Lib.hid hs
        have hn0 : decide ((s : Int) + (ys.length : Int) < 0) = false := decide_eq_false (by omega)
        clear hs hle hlm hC hck
        go_wp2
        go_round
        case rel => exact ⟨k + 1, by omega, by go_num, by rw [HS.out]; go_num⟩
        case measure => simp [intOf]; omega
      · obtain rfl : k = l0.length := by omega
        have HL := Lib.hid hk
        clear hk hlt
        have h0 : 0 ≤ sumTo l0 l0.length := Nat.zero_le _
        have h1 := LM.out
        generalize hS : sumTo l0 l0.length = s at *
        have HSS := Lib.hid hS
        clear hS
        go_wp2_with (first | (go_at_call 63; refine (grow_nil (s : Int) _ (by omega) (by omega)).mono ?_; rintro e w1 ⟨v1, rfl, ho, hb⟩; have HO := Aside0.mk ho; have HB := Aside0.mk hb; clear ho hb))
        clear h0 h1
        go_loopw [6, 27] (fun v i wr => ∃ k : Nat, k ≤ l0.length ∧ i = .int .i64 k ∧ Aside0 (Kd.R (Kd.int .u8) 5 wr w.heap.size (fun _ => True) v (l0.take k).flatten) ∧ Aside0 (Below w.heap.size w wr)) (fun _ i _ => l0.length - (intOf i).toNat)
        case atStart => exact ⟨0, Nat.zero_le _, rfl, by simpa using HO, HB⟩
        case round =>
          clear HO HB
          obtain ⟨k, hk, rfl, HO, HB⟩ := hrel
          by_cases hlt : k < l0.length
          · obtain ⟨ad, Ak, ck, rfl, hcell, hck, hC⟩ := C_inner HR0.out k hlt
            have hle := sumTo_le l0 (k + 1)
            have hsu := sumTo_succ l0 k hlt
            have hfl := flat_succ l0 k hlt
            have hfn := flat_len l0 k
            have HR1 := Aside0.mk (Kd.C_below hC HB.out)
            have hcell2 := pw_cell_below HB.out hcell
            have hnum : (l0.take k).flatten.length + (l0.getD k []).length < 140737488355328 := by
              have := LM.out; have := HSS.out; omega
            have HN := Aside0.mk hnum
            have HF := Lib.hid hfl
            clear hle hsu hfl hfn hnum hC hcell hck
            generalize l0.getD k [] = ys at *
            generalize (l0.take k).flatten = zs at *
            go_wp2_with (first | ((with_reducible refine gate_builtin (b := .append) (xs := #[.tmp 31, .tmp 32]) rfl ?_); at_builtin; refine Kd.R_append_rows (Kd.int .u8) (w0 := w) w.heap.size rfl (.tmp 31) (.tmp 32) 27 5 (.int .u8 0) 1 rfl Try.underlying27 infoU8 rfl (by decide) (by omega) u6 zs ys Ak ys.length ck (fun _ => True) (fun _ => False) rfl rfl ?aO ?aR (fun _ _ h => h) (fun _ h => h.elim) ?aF ?aB ?aS ?aL ?_; (case aO => exact HO.out); (case aR => exact HR1.out); (case aF => exact (fun _ _ => trivial)); (case aB => exact HB.out); (case aS => exact HB.out.size); (case aL => (have := HN.out; omega)); intro v1 w1 ho hb hg hat; rw [← HF.out] at ho; have n0_ := Aside0.mk hb; have n1_ := Aside0.mk ho; clear HB HO HR1 hcell2; have HB := n0_; have HO := n1_; clear n0_ n1_ ho hb hg hat))
            go_roundw
            case rel => exact ⟨k + 1, by omega, by go_num, HO, HB⟩
            case measure => simp [intOf]; omega
          · obtain rfl : k = l0.length := by omega
            go_wp2
            go_ret
            exact ⟨_, rfl, by have := HO.out; rwa [List.take_length] at this, HB.out⟩
  · rw [if_neg hl] at h
    cases h

end Go.Proofs.Ythlieaggokdppaa
