-- copied by a program of the session
import Derived.Test.YtodocfjbpkicgaaDoorProg
import Derived.Below
import Derived.Deep.Draws
import Derived.Deep.AppendLies
import Derived.Maps.AppendAt
import Derived.OwnWalk
import Derived.Laws.BytesArg
import Derived.Laws.MakeOwn
import Derived.Laws.OwnMore
import Derived.Deep.OwnRows
import Derived.Tactics
import Derived.Lib.ConvBytes
import Derived.Laws.Slices
import Derived.WalkKit
import Derived.KernelRfl
import Derived.RowKit3
import Derived.Deep.LoopGhost
import Derived.Deep.QuietTactic
import Derived.BigQuiet
import Derived.WideLaws
import Derived.WalkSpells
import Derived.Deep.DeepCutAuto
import Derived.Deep.CutBlock
import Derived.Deep.RegionHeld3
import Derived.Laws.Rows
import Derived.Lib.AppendStr
import Derived.ArgAppend
import Derived.Laws.IdiomCopy
import Derived.OrdersHeld
import Derived.Laws.BitsLemmas
import Derived.RowKit
import Derived.LaidEql
import Derived.Outline
import Derived.Lib.Hide
import Derived.LoopTactic
import Derived.Test.YtodocfjbpkicgaaDoorKwWEqStruct
import Derived.Test.YtodocfjbpkicgaaDoorKwWRepsOne
import Derived.Test.YtodocfjbpkicgaaDoorKwWGuard
import Derived.Test.YtodocfjbpkicgaaDoorKwSh
set_option linter.unusedSimpArgs false
set_option linter.unusedVariables false
set_option maxHeartbeats 4000000
set_option maxRecDepth 100000
namespace Go.Proofs.YtodocfjbpkicgaaDoor
open Go.RowKit Go.Zw Go.Zl
def errW : Option Int → Value
 | none => .nilIface
 | some c => .iface 94 (.int .i64 c)
theorem A0i : errW none = .nilIface := rfl
theorem A0j (c : Int) : errW (some c) = .iface 94 (.int .i64 c) := rfl
theorem errW_match (a : Option Int) : Value.cells.match_1 (fun _ => Array Value) (errW a) (fun cs => cs) (fun v => #[v]) = #[errW a] := by cases a <;> rfl
theorem A34 {P : Program} {w : World} {a : Addr} {m : Mode} (e : Option Int) : (store a (errW e) m).run P w = stored P w a (errW e) m := by
 cases e with
 | none => exact run_store P w a _ m rfl
 | some c => exact run_store P w a _ m rfl
section
variable {P : Program} (w : World)
theorem run_equalIn_iface_int (d : Nat) {ti tn : TypeId} {ms : Array (String × TypeId)} {i : TypeInfo} {k : IntKind} (a b : Int)
    (hi : P.underlying ti = some (.interface ms)) (hn : P.underlying tn = some (.int k)) (hinfo : P.info? tn = some i) (hcomp : i.comparable = true) :
    (Op.equalIn (d + 2) ti (.iface tn (.int k a)) (.iface tn (.int k b))).run P w = .ok (a == b) w := by
  simp [Op.equalIn, run_underlying hi, run_underlying hn, typeInfo, hinfo, hcomp]
theorem run_eql_iface_int {ti tn : TypeId} {ms : Array (String × TypeId)} {i : TypeInfo} {k : IntKind} (a b : Int)
    (hi : P.underlying ti = some (.interface ms)) (hn : P.underlying tn = some (.int k)) (hinfo : P.info? tn = some i) (hcomp : i.comparable = true) :
    (Go.binOp .eql ti (.iface tn (.int k a)) (.iface tn (.int k b))).run P w = .ok (.bool (a == b)) w := by
  simp only [Go.binOp]
  simp [Op.equal, Op.maxDepth, run_equalIn_iface_int w 9998 a b hi hn hinfo hcomp]
end
theorem code_comparable : ∃ i, Tryd.prog.info? 94 = some i ∧ i.comparable = true := by
 have h : (Tryd.prog.info? 94).map (fun i => i.comparable) = some true := by kernel_rfl
 cases e : Tryd.prog.info? 94 with
 | none => rw [e] at h; simp at h
 | some i => rw [e] at h; exact ⟨i, rfl, by simpa using h⟩
end Go.Proofs.YtodocfjbpkicgaaDoor
namespace Go.Proofs.YtodocfjbpkicgaaDoor
open Go.RowKit Go.Zw Go.Zl
def codeNo : Option Int → Int
 | none => 0
 | some c => if 1 ≤ c ∧ c ≤ 9 then c else -1
def A2n.f (a0 : Option Int) : Option Int := some (codeNo a0)
theorem A2n.calls (a0 : Option Int) (r : Int) (w : World) (h : A2n.f a0 = some r) :
    Calls Tryd.prog 18 #[errW a0] w fun e w' => e = .returned (.int .i64 r) ∧ A0q w w' := by
  have hr := Option.some.inj h
  clear h
  cases a0 with
  | none =>
    simp only [codeNo] at hr
    subst hr
    simp only [A0i]
    go_enter Tryd.func18, Tryd.ntmps18
    go_wp2
    go_ret
    exact ⟨rfl, A0q.refl _⟩
  | some q =>
    simp only [A0j]
    obtain ⟨i0, hi0, hc0⟩ := code_comparable
    have he : ∀ (x : Int) (W : World), (Go.binOp .eql 38 (.iface 94 (.int .i64 q)) (.iface 94 (.int .i64 x))).run Tryd.prog W = .ok (.bool (q == x)) W := fun x W => run_eql_iface_int W q x Tryd.underlying38 Tryd.underlying94 hi0 hc0
    have hr' := Lib.hid hr
    clear hr hi0 hc0
    go_enter Tryd.func18, Tryd.ntmps18
    go_wp2
    go_loop [3] (fun i => ∃ k : Nat, 1 ≤ k ∧ k ≤ 10 ∧ (∀ j : Nat, 1 ≤ j → j < k → q ≠ (j : Int)) ∧ i = .int .i64 k) (fun i => 10 - (intOf i).toNat)
    case atStart => exact ⟨1, by omega, by omega, fun j h1 h2 => by omega, rfl⟩
    case round =>
      obtain ⟨k, hk1, hk2, hk3, rfl⟩ := hrel
      have HK := Lib.hid hk3
      clear hk3
      by_cases hlt : k ≤ 9
      · by_cases hq : q = (k : Int)
        · have hb : (q == (k : Int)) = true := beq_iff_eq.2 hq
          have HQ := Lib.hid hq
          clear hq
          go_wp2
          go_ret
          refine ⟨?_, A0q.refl _⟩
          have hr2 := hr'.out
          have hq2 := HQ.out
          simp only [codeNo] at hr2
          rw [if_pos (by omega)] at hr2
          rw [← hr2, hq2]
          rfl
        · have hb : (q == (k : Int)) = false := beq_eq_false_iff_ne.2 hq
          have HQ := Lib.hid hq
          clear hq
          go_wp2
          go_round
          case rel => exact ⟨k + 1, by omega, by omega, fun j h1 h2 => by
            by_cases e : j = k
            · subst e; exact HQ.out
            · exact HK.out j h1 (by omega), by go_num⟩
          case measure => simp [intOf]; omega
      · go_wp2
        go_ret
        refine ⟨?_, A0q.refl _⟩
        have hr2 := hr'.out
        have hk := HK.out
        simp only [codeNo] at hr2
        rw [if_neg (by intro hh; exact hk q.toNat (by omega) (by omega) (by omega))] at hr2
        rw [← hr2]
        rfl
end Go.Proofs.YtodocfjbpkicgaaDoor
namespace Go.Proofs.YtodocfjbpkicgaaDoor
open Go.RowKit Go.Zw Go.Zl
theorem infoU8 : (Tryd.prog.info? 5).map (fun i => (i.zero, i.size, i.bytes)) = some (some (.int .u8 0), 1, 1) := by kernel_rfl
def A23.f (l0 : List Int) : Option (List Int) := if l0.length < 140737488355328 then some l0 else none
theorem A23.calls (A0 : Option Addr) (c0 : Nat) (l0 : List Int) (r : List Int) (w : World) (hr0 : Kd.C (Kd.int .u8) w A0 l0.length l0) (hc0 : l0.length ≤ c0) (h : A23.f l0 = some r) :
    Calls Tryd.prog 113 #[.slice A0 l0.length c0] w fun e w' => ∃ v0_ : Value, e = .returned (v0_) ∧ Kd.R (Kd.int .u8) 5 w' w.heap.size (fun _ => True) v0_ r ∧ Below w.heap.size w w' := by
  unfold A23.f at h
  by_cases hl : l0.length < 140737488355328
  · rw [if_pos hl] at h
    obtain rfl := Option.some.inj h
    clear h
    have LM := A0b.mk hl
    have HR0 := A0b.mk hr0
    clear hl hr0
    have hnil := fun (W : World) (a : Option Addr) (n c : Nat) => Lib.run_eql_slice_nil (P := Tryd.prog) W 22 5 a n c 0 0 Tryd.underlying22
    cases A0 with
    | none =>
      have hlen : l0 = [] := by
        cases l0 with
        | nil => rfl
        | cons x l => obtain ⟨_, _, hx⟩ := HR0.out; obtain ⟨ad, hx, _⟩ := hx (by simp); cases hx
      subst hlen
      go_enter Tryd.func113, Tryd.ntmps113
      go_wp2
      go_ret
      exact ⟨_, rfl, Kd.R_nil _ _ _ _ _, Below.refl _ _⟩
    | some ad =>
      go_enter Tryd.func113, Tryd.ntmps113
      have HO : A0b (Kd.R (Kd.int .u8) 5 (w.alloc (.cells #[] 5)) w.heap.size (fun _ => True) (.slice (some ⟨w.heap.size, 0, none⟩) 0 0) []) := ⟨fun _ _ => trivial, [], World.ownsRow_lit (base := w.heap.size) (e := 5) (size := 1) w #[] 0 (Nat.le_refl _) (by decide) rfl, Reps.none _ _⟩
      have HB : A0b (Below w.heap.size w (w.alloc (.cells #[] 5))) := ⟨A2k (Below.refl _ _) _⟩
      have HR1 := A0b.mk (Kd.C_alloc HR0.out (.cells #[] 5))
      go_wp2_with (first | ((with_reducible refine A2c (b := .append) (xs := #[.tmp 5, .tmp 6]) rfl ?_); at_builtin; refine Kd.A3f (Kd.int .u8) (w0 := w) w.heap.size rfl (.tmp 5) (.tmp 6) 22 5 (.int .u8 0) 1 rfl Tryd.underlying22 infoU8 rfl (by decide) (by omega) (.slice (some ⟨w.heap.size, 0, none⟩) 0 0) [] l0 (some ad) l0.length c0 (fun _ => True) (fun _ => False) rfl rfl ?aO ?aR (fun _ _ h => h) (fun _ h => h.elim) ?aF ?aB ?aS ?aL ?_; (case aO => exact HO.out); (case aR => exact HR1.out); (case aF => exact (fun _ _ => trivial)); (case aB => exact HB.out); (case aS => exact HB.out.size); (case aL => (have := LM.out; simp only [List.length_nil]; omega)); intro v1 w1 ho hb hg hat; have n0_ := A0b.mk hb; have n1_ := A0b.mk ho; clear HB HO HR1; have HB := n0_; have HO := n1_; clear n0_ n1_ ho hb hg hat))
      go_ret
      exact ⟨_, rfl, HO.out, HB.out⟩
  · rw [if_neg hl] at h
    cases h
end Go.Proofs.YtodocfjbpkicgaaDoor
namespace Go.Proofs.YtodocfjbpkicgaaDoor
open Go.RowKit Go.Zw Go.Zl
end Go.Proofs.YtodocfjbpkicgaaDoor
