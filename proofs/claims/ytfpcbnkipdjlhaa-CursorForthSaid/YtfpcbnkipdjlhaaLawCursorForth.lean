-- written by a program of the session out of the translation; Lean checks it
import Derived.Test.YtfpcbnkipdjlhaaRows
import Derived.Test.YtfpcbnkipdjlhaaAllx19
import Derived.Test.YtfpcbnkipdjlhaaPureCursorForth
import Derived.WalkKit
import Derived.ProofKit
import Derived.OpenShut
import Derived.ShutString
import Derived.ChangeOld
import Derived.Below
import Derived.SizedLaws
import Derived.Test.YtfpcbnkipdjlhaaWSized
import Derived.Test.YtfpcbnkipdjlhaaRecs
namespace Go.Proofs.Ytfpcbnkipdjlhaa.cursorForth
open Go.ChangeShapes Go.WideShapes Go.ChangeAt Go.RowKit
open Go.ChangeMaps (open_string shut_string)
set_option linter.unusedVariables false
theorem own : ownKnob Try.prog.godebug = none := by kernel_rfl
theorem laidOut : laidOutB Try.prog = true := by kernel_rfl
def IsRow (k : IntKind) (w : World) (a : Option Addr) (len cap : Nat) (zs : List Int) : Prop :=
  (a = none ∧ len = 0 ∧ cap = 0 ∧ zs = []) ∨
  ∃ x, a = some x ∧ len ≤ cap ∧ cap ≤ maxLen ∧ zs.length = cap ∧ (∀ i, i < zs.length → w.cell? (x.add i) = some (.int k (zs.getD i 0))) ∧ ∀ n ∈ zs, (Lit.int k n).wf = true
set_option maxRecDepth 100000 in
theorem lifted (os : Os) (started : os.Started) (H : Type) (enc : TypeId × Value → H) :
    ReturnsInHanded {} Try.checked os 10 .any (Rows.cursorForthSpec.pre6 enc Try.prog Try.f10 Rows.cursorForthRow.domain false) (Rows.cursorForthSpec.post enc Try.prog Try.f10 false true false false) := by
  refine returnsInHanded_of_change_sized (C := Try.checked) own started (by kernel_rfl) Try.func10
    (ChangeSpec.witness6 (enc := enc) (C := Try.checked) false ⟨#[], #[.slice none 0 0, .slice none 0 0], []⟩ 8 (by kernel_rfl) (by kernel_rfl) (by kernel_rfl) (by kernel_rfl)) ?_
  intro W base args ds gs before hval0 hW hcnd hsz0 _
  have hsz : (DataW.weightsEach Try.prog (Try.f10.params.toList ++ Rows.cursorForthSpec.plain.varTypes Try.prog) (ds ++ gs)).all (· ≤ reachBytes) = true := hsz0
  have hval : ∀ (j : Nat) t v, Try.f10.params[j]? = some t → args[j]? = some v → Value.okWide Try.prog W .any base t v := hval0
  have hW' := hW
  obtain ⟨p, q, hA0, hV, rfl, hfz, hnd⟩ := hW
  have hA : DataW.TrodAll enc Try.prog W 0 (fun _ => true) true Try.f10.params.toList args.toList ds p := hA0
  rw [Try.params10] at hA hval hsz
  obtain ⟨v0, vs0, d0, ds0, p0, q0, hargs, rfl, rfl, h0, r0⟩ := trodAll_cons hA
  obtain ⟨v1, vs1, d1, ds1, p1, q1, rfl, rfl, rfl, h1, r1⟩ := trodAll_cons r0
  obtain ⟨rfl, rfl, rfl⟩ := trodAll_nil r1
  obtain rfl : args = #[v0, v1] := by cases args; simp_all
  obtain ⟨rfl, rfl⟩ := trodVars_none hV
  obtain ⟨a0, len0, cap0, rfl⟩ := okWide_slice Try.underlying44 (hval 0 44 v0 rfl rfl)
  have k0 := h0
  have lt0 : ∀ x ∈ p0, x.block < W.heap.size := by obtain ⟨m, hm⟩ := k0; exact DataW.trod_lt m _ _ _ hm
  obtain ⟨z0, hz0, hcap0, hmx0, y0, hwz0, hcell0⟩ := recs2 (B := 16) hsz (j := 0) (t := 44) rfl rfl Try.underlying44 Try.underlying68 (by kernel_rfl) rfl rfl (by kernel_rfl) (by kernel_rfl) Try.underlying2 Try.underlying22 (by kernel_rfl) h0
  obtain ⟨l0, hl0⟩ : ∃ l : List All.S68, l = z0.map (fun z => (⟨z.1, z.2⟩ : All.S68)) := ⟨_, rfl⟩
  have hn0 : len0 = l0.length := by rw [hz0, hl0, List.length_map]
  have hr0 : Go.Proofs.YtfpcbnkipdjlhaaW.PrintWords.Kd.C All.k68 W a0 l0.length l0 := by
    refine ⟨rfl, by rw [← hn0]; exact Nat.le_trans hmx0 (by decide), fun h => ?_⟩
    obtain ⟨ad, e, hc⟩ := hcell0 (by rw [hn0]; exact h)
    refine ⟨ad, e, fun j p hp => ?_⟩
    rw [hl0, List.getElem?_map] at hp
    obtain ⟨z, hz, rfl⟩ := Option.map_eq_some_iff.1 hp
    obtain ⟨c0, c1⟩ := hc j z hz
    refine ⟨_, rfl, All.k68_mk W _, fun q u hu => ?_⟩
    match q, hu with
    | 0, hu => injection hu with hu; subst hu; exact c0
    | 1, hu => injection hu with hu; subst hu; exact c1
    | q + 2, hu => simp at hu
  have hw0 : ∀ x ∈ l0, (Lit.int .i64 x.f0).wf = true ∧ (Lit.int .u64 x.f1).wf = true := by
    intro x hx
    rw [hl0] at hx
    obtain ⟨z, hz, rfl⟩ := List.mem_map.1 hx
    exact hwz0 z hz
  obtain ⟨a1, len1, cap1, rfl⟩ := okWide_slice Try.underlying45 (hval 1 45 v1 rfl rfl)
  have k1 := h1
  have lt1 : ∀ x ∈ p1, x.block < W.heap.size := by obtain ⟨m, hm⟩ := k1; exact DataW.trod_lt m _ _ _ hm
  obtain ⟨z1, hz1, hcap1, hmx1, y1, hwz1, hcell1⟩ := recs2 (B := 16) hsz (j := 1) (t := 45) rfl rfl Try.underlying45 Try.underlying54 (by kernel_rfl) rfl rfl (by kernel_rfl) (by kernel_rfl) Try.underlying3 Try.underlying2 (by kernel_rfl) h1
  obtain ⟨l1, hl1⟩ : ∃ l : List All.S54, l = z1.map (fun z => (⟨z.1, z.2⟩ : All.S54)) := ⟨_, rfl⟩
  have hn1 : len1 = l1.length := by rw [hz1, hl1, List.length_map]
  have hr1 : Go.Proofs.YtfpcbnkipdjlhaaW.PrintWords.Kd.C All.k54 W a1 l1.length l1 := by
    refine ⟨rfl, by rw [← hn1]; exact Nat.le_trans hmx1 (by decide), fun h => ?_⟩
    obtain ⟨ad, e, hc⟩ := hcell1 (by rw [hn1]; exact h)
    refine ⟨ad, e, fun j p hp => ?_⟩
    rw [hl1, List.getElem?_map] at hp
    obtain ⟨z, hz, rfl⟩ := Option.map_eq_some_iff.1 hp
    obtain ⟨c0, c1⟩ := hc j z hz
    refine ⟨_, rfl, All.k54_mk W _, fun q u hu => ?_⟩
    match q, hu with
    | 0, hu => injection hu with hu; subst hu; exact c0
    | 1, hu => injection hu with hu; subst hu; exact c1
    | q + 2, hu => simp at hu
  have hw1 : ∀ x ∈ l1, (Lit.int .i64 x.f0).wf = true ∧ (Lit.int .i64 x.f1).wf = true := by
    intro x hx
    rw [hl1] at hx
    obtain ⟨z, hz, rfl⟩ := List.mem_map.1 hx
    exact hwz1 z hz
  clear hA0 hval0 hsz0 hsz
  subst hn0
  subst hn1
  refine (All.gaiterlaw17_CursorForth.walk Pure.CursorForth a0 cap0 l0 a1 cap1 l1 W hr0 hcap0 hmx0 y0 hw0 hr1 hcap1 hmx1 y1 hw1).mono fun e W' ⟨he, bel⟩ => ?_
  subst he
  exact ⟨_, rfl, _, _, _, [], _, [], hW', trodAll_mk1 (shut_bool Try.underlying4 _), (trodAll_cons_mk (Below.trod laidOut (by kernel_rfl) (of_decide_eq_true (by kernel_rfl)) k0 bel lt0) (trodAll_cons_mk (Below.trod laidOut (by kernel_rfl) (of_decide_eq_true (by kernel_rfl)) k1 bel lt1) trodAll_mk0)), rfl, bel.frame _, fun h => by cases h⟩
theorem over : Rows.cursorForthRow.holds Try.pinned (OpenSpec.ofChange Rows.cursorForthSpec) :=
  OpenClaim.holds_of_wide 10 Try.f10 rfl rfl rfl rfl rfl rfl rfl ⟨rfl, rfl, rfl, rfl, rfl⟩ rfl rfl rfl rfl rfl (by kernel_rfl) Try.func10 (by kernel_rfl)
    (of_decide_eq_true (by kernel_rfl)) (by unfold Func.isWrapper; first | (rw [if_pos (by decide +kernel)]; kernel_rfl) | (rw [if_neg (by decide +kernel)]; exact ⟨rfl, rfl⟩))
    (fun os started H enc _ => lifted os started H enc)
theorem proved : Rows.CursorForthSaid := over
#print axioms proved
end Go.Proofs.Ytfpcbnkipdjlhaa.cursorForth
namespace Go.Proofs.Ytfpcbnkipdjlhaa
/-- The row, under a short name, for the claim. -/
theorem cursorForth_holds : Rows.CursorForthSaid := cursorForth.proved
end Go.Proofs.Ytfpcbnkipdjlhaa
