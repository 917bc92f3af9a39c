-- copied by a program of the session
import Derived.Test.YtodocfjbpkicgaaDoorProg
import Derived.Below
import Derived.Deep.Draws
import Derived.Deep.AppendLies
import Derived.Maps.AppendAt
import Derived.OwnWalk
import Derived.Laws.BytesArg
import Derived.Laws.MakeOwn
import Derived.Laws.OwnMore
import Derived.Deep.OwnRows
import Derived.Tactics
import Derived.Lib.ConvBytes
import Derived.Laws.Slices
import Derived.WalkKit
import Derived.KernelRfl
import Derived.RowKit3
import Derived.Deep.LoopGhost
import Derived.Deep.QuietTactic
import Derived.BigQuiet
import Derived.WideLaws
import Derived.WalkSpells
import Derived.Deep.DeepCutAuto
import Derived.Deep.CutBlock
import Derived.Deep.RegionHeld3
import Derived.Laws.Rows
import Derived.Lib.AppendStr
import Derived.ArgAppend
import Derived.Laws.IdiomCopy
import Derived.OrdersHeld
import Derived.Laws.BitsLemmas
import Derived.RowKit
import Derived.LaidEql
import Derived.Outline
import Derived.Lib.Hide
import Derived.LoopTactic
import Derived.Test.YtodocfjbpkicgaaDoorKvWEqStruct
import Derived.Test.YtodocfjbpkicgaaDoorKvWRepsOne
import Derived.Test.YtodocfjbpkicgaaDoorKvWGuard
import Derived.Test.YtodocfjbpkicgaaDoorKvSh
namespace Go.Proofs.YtodocfjbpkicgaaDoor
open Go.RowKit Go.Proofs.YtodocfjbpkicgaaDoorW.PrintWords Go.Proofs.YtodocfjbpkicgaaDoorW.PrintLast
def errW : Option Int → Value
 | none => .nilIface
 | some c => .iface 94 (.int .i64 c)
theorem A0k : errW none = .nilIface := rfl
theorem A0l (c : Int) : errW (some c) = .iface 94 (.int .i64 c) := rfl
section
variable {P : Program} (w : World)
theorem run_equalIn_iface_int (d : Nat) {ti tn : TypeId} {ms : Array (String × TypeId)} {i : TypeInfo} {k : IntKind} (a b : Int)
    (hi : P.underlying ti = some (.interface ms)) (hn : P.underlying tn = some (.int k)) (hinfo : P.info? tn = some i) (hcomp : i.comparable = true) :
    (Op.equalIn (d + 2) ti (.iface tn (.int k a)) (.iface tn (.int k b))).run P w = .ok (a == b) w := by
  simp [Op.equalIn, run_underlying hi, run_underlying hn, typeInfo, hinfo, hcomp]
theorem run_eql_iface_int {ti tn : TypeId} {ms : Array (String × TypeId)} {i : TypeInfo} {k : IntKind} (a b : Int)
    (hi : P.underlying ti = some (.interface ms)) (hn : P.underlying tn = some (.int k)) (hinfo : P.info? tn = some i) (hcomp : i.comparable = true) :
    (Go.binOp .eql ti (.iface tn (.int k a)) (.iface tn (.int k b))).run P w = .ok (.bool (a == b)) w := by
  simp only [Go.binOp]
  simp [Op.equal, Op.maxDepth, run_equalIn_iface_int w 9998 a b hi hn hinfo hcomp]
end
theorem code_comparable : ∃ i, Tryd.prog.info? 94 = some i ∧ i.comparable = true := by
 have h : (Tryd.prog.info? 94).map (fun i => i.comparable) = some true := by kernel_rfl
 cases e : Tryd.prog.info? 94 with
 | none => rw [e] at h; simp at h
 | some i => rw [e] at h; exact ⟨i, rfl, by simpa using h⟩
end Go.Proofs.YtodocfjbpkicgaaDoor
namespace Go.Proofs.YtodocfjbpkicgaaDoor
open Go.RowKit Go.Proofs.YtodocfjbpkicgaaDoorW.PrintWords Go.Proofs.YtodocfjbpkicgaaDoorW.PrintLast
set_option linter.unusedVariables false
set_option linter.unusedSimpArgs false
def codeNo : Option Int → Int
 | none => 0
 | some c => if 1 ≤ c ∧ c ≤ 9 then c else -1
def A00.f (a0 : Option Int) : Option Int := some (codeNo a0)
set_option maxHeartbeats 4000000 in
set_option maxRecDepth 100000 in
theorem A00.calls (a0 : Option Int) (r : Int) (w : World) (h : A00.f a0 = some r) :
    Calls Tryd.prog 18 #[errW a0] w fun e w' => e = .returned (.int .i64 r) ∧ A09 w w' := by
  have hr := Option.some.inj h
  clear h
  cases a0 with
  | none =>
    simp only [codeNo] at hr
    subst hr
    simp only [A0k]
    go_enter Tryd.func18, Tryd.ntmps18
    go_wp2
    go_ret
    exact ⟨rfl, A09.refl _⟩
  | some q =>
    simp only [A0l]
    obtain ⟨i0, hi0, hc0⟩ := code_comparable
    have he : ∀ (x : Int) (W : World), (Go.binOp .eql 38 (.iface 94 (.int .i64 q)) (.iface 94 (.int .i64 x))).run Tryd.prog W = .ok (.bool (q == x)) W := fun x W => run_eql_iface_int W q x Tryd.underlying38 Tryd.underlying94 hi0 hc0
    have hr' := Lib.hid hr
    clear hr hi0 hc0
    go_enter Tryd.func18, Tryd.ntmps18
    go_wp2
    go_loop [3] (fun i => ∃ k : Nat, 1 ≤ k ∧ k ≤ 10 ∧ (∀ j : Nat, 1 ≤ j → j < k → q ≠ (j : Int)) ∧ i = .int .i64 k) (fun i => 10 - (intOf i).toNat)
    case atStart => exact ⟨1, by omega, by omega, fun j h1 h2 => by omega, rfl⟩
    case round =>
      obtain ⟨k, hk1, hk2, hk3, rfl⟩ := hrel
      have HK := Lib.hid hk3
      clear hk3
      by_cases hlt : k ≤ 9
      · by_cases hq : q = (k : Int)
        · have hb : (q == (k : Int)) = true := beq_iff_eq.2 hq
          have HQ := Lib.hid hq
          clear hq
          go_wp2
          go_ret
          refine ⟨?_, A09.refl _⟩
          have hr2 := hr'.out
          have hq2 := HQ.out
          simp only [codeNo] at hr2
          rw [if_pos (by omega)] at hr2
          rw [← hr2, hq2]
          rfl
        · have hb : (q == (k : Int)) = false := beq_eq_false_iff_ne.2 hq
          have HQ := Lib.hid hq
          clear hq
          go_wp2
          go_round
          case rel => exact ⟨k + 1, by omega, by omega, fun j h1 h2 => by
            by_cases e : j = k
            · subst e; exact HQ.out
            · exact HK.out j h1 (by omega), by go_num⟩
          case measure => simp [intOf]; omega
      · go_wp2
        go_ret
        refine ⟨?_, A09.refl _⟩
        have hr2 := hr'.out
        have hk := HK.out
        simp only [codeNo] at hr2
        rw [if_neg (by intro hh; exact hk q.toNat (by omega) (by omega) (by omega))] at hr2
        rw [← hr2]
        rfl
end Go.Proofs.YtodocfjbpkicgaaDoor
namespace Go.Proofs.YtodocfjbpkicgaaDoor
open Go.RowKit Go.Proofs.YtodocfjbpkicgaaDoorW.PrintWords Go.Proofs.YtodocfjbpkicgaaDoorW.PrintLast
set_option linter.unusedVariables false
set_option linter.unusedSimpArgs false
theorem infoU8 : (Tryd.prog.info? 5).map (fun i => (i.zero, i.size, i.bytes)) = some (some (.int .u8 0), 1, 1) := by kernel_rfl
def A1s.f (l0 : List Int) : Option (List Int) := if l0.length < 140737488355328 then some l0 else none
set_option maxHeartbeats 4000000 in
set_option maxRecDepth 100000 in
theorem A1s.calls (A0 : Option Addr) (c0 : Nat) (l0 : List Int) (r : List Int) (w : World) (hr0 : Kd.C (Kd.int .u8) w A0 l0.length l0) (hc0 : l0.length ≤ c0) (h : A1s.f l0 = some r) :
    Calls Tryd.prog 113 #[.slice A0 l0.length c0] w fun e w' => ∃ v0_ : Value, e = .returned (v0_) ∧ Kd.R (Kd.int .u8) 5 w' w.heap.size (fun _ => True) v0_ r ∧ Below w.heap.size w w' := by
  unfold A1s.f at h
  by_cases hl : l0.length < 140737488355328
  · rw [if_pos hl] at h
    obtain rfl := Option.some.inj h
    clear h
    have LM := A0g.mk hl
    have HR0 := A0g.mk hr0
    clear hl hr0
    have hnil := fun (W : World) (a : Option Addr) (n c : Nat) => Lib.run_eql_slice_nil (P := Tryd.prog) W 22 5 a n c 0 0 Tryd.underlying22
    cases A0 with
    | none =>
      have hlen : l0 = [] := by
        cases l0 with
        | nil => rfl
        | cons x l => obtain ⟨_, _, hx⟩ := HR0.out; obtain ⟨ad, hx, _⟩ := hx (by simp); cases hx
      subst hlen
      go_enter Tryd.func113, Tryd.ntmps113
      go_wp2
      go_ret
      exact ⟨_, rfl, Kd.R_nil _ _ _ _ _, Below.refl _ _⟩
    | some ad =>
      go_enter Tryd.func113, Tryd.ntmps113
      have HO : A0g (Kd.R (Kd.int .u8) 5 (w.alloc (.cells #[] 5)) w.heap.size (fun _ => True) (.slice (some ⟨w.heap.size, 0, none⟩) 0 0) []) := ⟨fun _ _ => trivial, [], World.ownsRow_lit (base := w.heap.size) (e := 5) (size := 1) w #[] 0 (Nat.le_refl _) (by decide) rfl, Reps.none _ _⟩
      have HB : A0g (Below w.heap.size w (w.alloc (.cells #[] 5))) := ⟨A0i (Below.refl _ _) _⟩
      have HR1 := A0g.mk (Kd.A2r HR0.out (.cells #[] 5))
      go_wp2_with (first | ((with_reducible refine gate_builtin (b := .append) (xs := #[.tmp 5, .tmp 6]) rfl ?_); at_builtin; refine Kd.R_append_rows (Kd.int .u8) (w0 := w) w.heap.size rfl (.tmp 5) (.tmp 6) 22 5 (.int .u8 0) 1 rfl Tryd.underlying22 infoU8 rfl (by decide) (by omega) (.slice (some ⟨w.heap.size, 0, none⟩) 0 0) [] l0 (some ad) l0.length c0 (fun _ => True) (fun _ => False) rfl rfl ?aO ?aR (fun _ _ h => h) (fun _ h => h.elim) ?aF ?aB ?aS ?aL ?_; (case aO => exact HO.out); (case aR => exact HR1.out); (case aF => exact (fun _ _ => trivial)); (case aB => exact HB.out); (case aS => exact HB.out.size); (case aL => (have := LM.out; simp only [List.length_nil]; omega)); intro v1 w1 ho hb hg hat; have n0_ := A0g.mk hb; have n1_ := A0g.mk ho; clear HB HO HR1; have HB := n0_; have HO := n1_; clear n0_ n1_ ho hb hg hat))
      go_ret
      exact ⟨_, rfl, HO.out, HB.out⟩
  · rw [if_neg hl] at h
    cases h
end Go.Proofs.YtodocfjbpkicgaaDoor
namespace Go.Proofs.YtodocfjbpkicgaaDoor
open Go.RowKit Go.Proofs.YtodocfjbpkicgaaDoorW.PrintWords Go.Proofs.YtodocfjbpkicgaaDoorW.PrintLast
set_option linter.unusedVariables false
set_option linter.unusedSimpArgs false
set_option maxHeartbeats 4000000 in
set_option maxRecDepth 100000 in
theorem grow_nil (n : Int) (w : World) (h0 : 0 ≤ n) (h1 : n < 140737488355328) :
    Calls Tryd.prog 120 #[.slice none 0 0, .int .i64 n] w fun e w' => ∃ v0_ : Value, e = .returned (v0_) ∧ Kd.R (Kd.int .u8) 5 w' w.heap.size (fun _ => True) v0_ [] ∧ Below w.heap.size w w' := by
  have hb0 : decide (n < 0) = false := decide_eq_false (by omega)
  have HB : A0g (Below w.heap.size w w) := ⟨Below.refl _ _⟩
  by_cases hn : 0 < n
  · have hb1 : decide (0 < n) = true := decide_eq_true hn
    have L1 := A0g.mk h1
    have L0 := A0g.mk h0
    have hnil : A0g (Kd.R (Kd.int .u8) 5 w w.heap.size (fun _ => True) (.slice none 0 0) []) := ⟨Kd.R_nil _ _ _ _ _⟩
    go_enter Tryd.func120, Tryd.ntmps120
    go_wp2_with (first | (at_builtin; refine Kd.R_append_zeros (Kd.int .u8) (w0 := w) w.heap.size rfl (.tmp 20) (.tmp 21) 22 3 5 (.int .u8 0) 1 rfl Tryd.underlying22 Tryd.underlying3 infoU8 rfl (by decide) (by omega) (.slice none 0 0) [] (0 : Int) n (fun _ => True) rfl rfl rfl ?aF ?aO ?aN ?aB ?aS ?aL ?_; (case aF => exact (fun _ _ => trivial)); (case aO => exact hnil.out); (case aN => exact L0.out); (case aB => exact HB.out); (case aS => exact Nat.le_refl _); (case aL => (have := L1.out; simp only [List.length_nil]; omega)); intro v1 w1 ho hb hg hat; have n0_ := A0g.mk hb; have n1_ := A0g.mk ho; clear HB hnil; have HB := n0_; have HO := n1_; clear n0_ n1_ ho hb hg hat))
    obtain ⟨A1, c1, e1⟩ := Kd.A1w HO.out
    rw [show (([] : List Int) ++ List.replicate n.toNat (0 : Int)).length = n.toNat from by simp] at e1
    subst e1
    have hsl : ∀ W : World, (Instr.slice 22 (.slice A1 n.toNat c1) none (some (.int .i64 0)) none).run Tryd.prog W = .ok (.slice A1 0 c1) W := by
      obtain ⟨i0, hi, _, hsz, _⟩ := info_parts infoU8
      intro W
      have := (print_take_of (P := Tryd.prog) (Value.int .u8) (0 : Int) 22 5 .i64 Tryd.underlying22 hi hsz A1 c1 (([] : List Int) ++ List.replicate n.toNat 0) 0 (by omega) (by omega) (by obtain ⟨A2, c2, e2, h2, _⟩ := Kd.R_reads HO.out; injection e2 with _ _ e3; simp at h2; simp; omega)).1 W
      simpa using this
    have HO2 := A0g.mk (Kd.R_take (m := 0) HO.out (by omega))
    clear HO
    simp only [hsl, Result.andThen_ok]
    go_wp2
    go_ret
    exact ⟨_, rfl, by simpa using HO2.out, HB.out⟩
  · have hb1 : decide (0 < n) = false := decide_eq_false hn
    go_enter Tryd.func120, Tryd.ntmps120
    go_wp2
    go_ret
    exact ⟨_, rfl, Kd.R_nil _ _ _ _ _, HB.out⟩
theorem C_inner {e : Nat} {w : World} {A : Option Addr} {n : Nat} {xs : List (List Int)} (h : Kd.C (Kd.slice e (Kd.int .u8)) w A n xs) (k : Nat) (hk : k < n) :
    ∃ ad Ak ck, A = some ad ∧ w.cell? (ad.add k) = some (.slice Ak (xs.getD k []).length ck) ∧ (xs.getD k []).length ≤ ck ∧ Kd.C (Kd.int .u8) w Ak (xs.getD k []).length (xs.getD k []) := by
  obtain ⟨ad, c, hA, _, ⟨Ak, ck, hc, hl, hC⟩, hcell⟩ := Kd.C_get h [] (k : Int) (by omega) (by omega)
  subst hc
  have := hcell 0 _ rfl
  simp only [Int.toNat_natCast] at this hl hC
  exact ⟨ad, Ak, ck, hA, by simpa [Kd.slice] using this, hl, hC⟩
def sumTo (l : List (List Int)) (k : Nat) : Nat := ((l.take k).map List.length).sum
theorem sumTo_succ (l : List (List Int)) (k : Nat) (hk : k < l.length) : sumTo l (k + 1) = sumTo l k + (l.getD k []).length := by
 unfold sumTo
 rw [List.take_succ_eq_append_getElem hk, List.map_append, List.sum_append]
 simp [List.getD_eq_getElem?_getD, hk]
theorem sumTo_le (l : List (List Int)) (k : Nat) : sumTo l k ≤ sumTo l l.length := by
 unfold sumTo
 rw [List.take_length]
 conv => rhs; rw [← List.take_append_drop k l, List.map_append, List.sum_append]
 omega
theorem flat_succ (l : List (List Int)) (k : Nat) (hk : k < l.length) : (l.take (k + 1)).flatten = (l.take k).flatten ++ l.getD k [] := by
 rw [List.take_succ_eq_append_getElem hk, List.flatten_append]
 simp [List.getD_eq_getElem?_getD, hk]
theorem flat_len (l : List (List Int)) (k : Nat) : (l.take k).flatten.length = sumTo l k := by
 rw [List.length_flatten]; rfl
def A2d.f (l0 : List (List Int)) : Option (List Int) := if sumTo l0 l0.length < 140737488355328 then some l0.flatten else none
set_option maxHeartbeats 4000000 in
set_option maxRecDepth 100000 in
theorem A2d.calls (A0 : Option Addr) (c0 : Nat) (l0 : List (List Int)) (r : List Int) (w : World) (hr0 : Kd.C (Kd.slice 5 (Kd.int .u8)) w A0 l0.length l0) (hc0 : l0.length ≤ c0) (h : A2d.f l0 = some r) :
    Calls Tryd.prog 112 #[.slice A0 l0.length c0] w fun e w' => ∃ v0_ : Value, e = .returned (v0_) ∧ Kd.R (Kd.int .u8) 5 w' w.heap.size (fun _ => True) v0_ r ∧ Below w.heap.size w w' := by
  unfold A2d.f at h
  by_cases hl : sumTo l0 l0.length < 140737488355328
  · rw [if_pos hl] at h
    obtain rfl := Option.some.inj h
    clear h
    have LM := A0g.mk hl
    have HR0 := A0g.mk hr0
    have HX := A0g.mk (Kd.C_max hr0)
    clear hl hr0
    go_enter Tryd.func112, Tryd.ntmps112
    go_wp2
    go_loop [3, 11] (fun s i => ∃ k : Nat, k ≤ l0.length ∧ i = .int .i64 k ∧ s = .int .i64 (sumTo l0 k : Nat)) (fun _ i => l0.length - (intOf i).toNat)
    case atStart => exact ⟨0, Nat.zero_le _, rfl, rfl⟩
    case round =>
      obtain ⟨k, hk, rfl, rfl⟩ := hrel
      have hx := HX.out
      by_cases hlt : k < l0.length
      · obtain ⟨ad, Ak, ck, rfl, hcell, hck, hC⟩ := C_inner HR0.out k hlt
        have hs := sumTo_succ l0 k hlt
        have hle := sumTo_le l0 (k + 1)
        have hlm := LM.out
        generalize l0.getD k [] = ys at *
        generalize sumTo l0 k = s at *
        have hb : s + ys.length < 140737488355328 := by omega
        have HS := Lib.hid hs
        have hn0 : decide ((s : Int) + (ys.length : Int) < 0) = false := decide_eq_false (by omega)
        clear hs hle hlm hC hck
        go_wp2
        go_round
        case rel => exact ⟨k + 1, by omega, by go_num, by rw [HS.out]; go_num⟩
        case measure => simp [intOf]; omega
      · obtain rfl : k = l0.length := by omega
        have HL := Lib.hid hk
        clear hk hlt
        have h0 : 0 ≤ sumTo l0 l0.length := Nat.zero_le _
        have h1 := LM.out
        generalize hS : sumTo l0 l0.length = s at *
        have HSS := Lib.hid hS
        clear hS
        go_wp2_with (first | (go_at_call 120; refine (grow_nil (s : Int) _ (by omega) (by omega)).mono ?_; rintro e w1 ⟨v1, rfl, ho, hb⟩; have HO := A0g.mk ho; have HB := A0g.mk hb; clear ho hb))
        clear h0 h1
        go_loopw [6, 27] (fun v i wr => ∃ k : Nat, k ≤ l0.length ∧ i = .int .i64 k ∧ A0g (Kd.R (Kd.int .u8) 5 wr w.heap.size (fun _ => True) v (l0.take k).flatten) ∧ A0g (Below w.heap.size w wr)) (fun _ i _ => l0.length - (intOf i).toNat)
        case atStart => exact ⟨0, Nat.zero_le _, rfl, by simpa using HO, HB⟩
        case round =>
          clear HO HB
          obtain ⟨k, hk, rfl, HO, HB⟩ := hrel
          by_cases hlt : k < l0.length
          · obtain ⟨ad, Ak, ck, rfl, hcell, hck, hC⟩ := C_inner HR0.out k hlt
            have hle := sumTo_le l0 (k + 1)
            have hsu := sumTo_succ l0 k hlt
            have hfl := flat_succ l0 k hlt
            have hfn := flat_len l0 k
            have HR1 := A0g.mk (Kd.A15 hC HB.out)
            have hcell2 := pw_cell_below HB.out hcell
            have hnum : (l0.take k).flatten.length + (l0.getD k []).length < 140737488355328 := by
              have := LM.out; have := HSS.out; omega
            have HN := A0g.mk hnum
            have HF := Lib.hid hfl
            clear hle hsu hfl hfn hnum hC hcell hck
            generalize l0.getD k [] = ys at *
            generalize (l0.take k).flatten = zs at *
            go_wp2_with (first | ((with_reducible refine gate_builtin (b := .append) (xs := #[.tmp 31, .tmp 32]) rfl ?_); at_builtin; refine Kd.R_append_rows (Kd.int .u8) (w0 := w) w.heap.size rfl (.tmp 31) (.tmp 32) 22 5 (.int .u8 0) 1 rfl Tryd.underlying22 infoU8 rfl (by decide) (by omega) u6 zs ys Ak ys.length ck (fun _ => True) (fun _ => False) rfl rfl ?aO ?aR (fun _ _ h => h) (fun _ h => h.elim) ?aF ?aB ?aS ?aL ?_; (case aO => exact HO.out); (case aR => exact HR1.out); (case aF => exact (fun _ _ => trivial)); (case aB => exact HB.out); (case aS => exact HB.out.size); (case aL => (have := HN.out; omega)); intro v1 w1 ho hb hg hat; rw [← HF.out] at ho; have n0_ := A0g.mk hb; have n1_ := A0g.mk ho; clear HB HO HR1 hcell2; have HB := n0_; have HO := n1_; clear n0_ n1_ ho hb hg hat))
            go_roundw
            case rel => exact ⟨k + 1, by omega, by go_num, HO, HB⟩
            case measure => simp [intOf]; omega
          · obtain rfl : k = l0.length := by omega
            go_wp2
            go_ret
            exact ⟨_, rfl, by have := HO.out; rwa [List.take_length] at this, HB.out⟩
  · rw [if_neg hl] at h
    cases h
end Go.Proofs.YtodocfjbpkicgaaDoor
