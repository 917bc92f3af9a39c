-- written by a program of the session out of the translation; Lean checks it
import Derived.Test.YtiahbcaoikoogaaRows
import Derived.Test.YtiahbcaoikoogaaAllx8
import Derived.Test.YtiahbcaoikoogaaCursorPlaysWhole
import Derived.WalkKit
import Derived.ProofKit
import Derived.OpenShut
import Derived.ShutString
import Derived.ChangeOld
import Derived.Below
import Derived.SizedLaws
import Derived.Test.YtiahbcaoikoogaaWSized
namespace Go.Proofs.Ytiahbcaoikoogaa.cursorPlays
open Go.ChangeShapes Go.WideShapes Go.ChangeAt Go.RowKit
open Go.ChangeMaps (open_string shut_string)
set_option linter.unusedVariables false
theorem own : ownKnob Try.prog.godebug = none := by kernel_rfl
theorem laidOut : laidOutB Try.prog = true := by kernel_rfl
def IsRow (k : IntKind) (w : World) (a : Option Addr) (len cap : Nat) (zs : List Int) : Prop :=
  (a = none ∧ len = 0 ∧ cap = 0 ∧ zs = []) ∨
  ∃ x, a = some x ∧ len ≤ cap ∧ cap ≤ maxLen ∧ zs.length = cap ∧ (∀ i, i < zs.length → w.cell? (x.add i) = some (.int k (zs.getD i 0))) ∧ ∀ n ∈ zs, (Lit.int k n).wf = true
set_option maxRecDepth 100000 in
theorem lifted (os : Os) (started : os.Started) (H : Type) (enc : TypeId × Value → H) :
    ReturnsInHanded {} Try.checked os 3 .any (Rows.cursorPlaysSpec.pre6 enc Try.prog Try.f3 Rows.cursorPlaysRow.domain false) (Rows.cursorPlaysSpec.post enc Try.prog Try.f3 false true false false) := by
  refine returnsInHanded_of_change_sized (C := Try.checked) own started (by kernel_rfl) Try.func3
    (ChangeSpec.witness6 (enc := enc) (C := Try.checked) false ⟨#[], #[.slice none 0 0, .int .i64 0, .slice none 0 0], []⟩ 8 (by kernel_rfl) (by kernel_rfl) (by kernel_rfl) (by kernel_rfl)) ?_
  intro W base args ds gs before hval0 hW hcnd hsz0 _
  have hsz : (DataW.weightsEach Try.prog (Try.f3.params.toList ++ Rows.cursorPlaysSpec.plain.varTypes Try.prog) (ds ++ gs)).all (· ≤ reachBytes) = true := hsz0
  have hval : ∀ (j : Nat) t v, Try.f3.params[j]? = some t → args[j]? = some v → Value.okWide Try.prog W .any base t v := hval0
  have hW' := hW
  obtain ⟨p, q, hA0, hV, rfl, hfz, hnd⟩ := hW
  have hA : DataW.TrodAll enc Try.prog W 0 (fun _ => true) true Try.f3.params.toList args.toList ds p := hA0
  rw [Try.params3] at hA hval hsz
  obtain ⟨v0, vs0, d0, ds0, p0, q0, hargs, rfl, rfl, h0, r0⟩ := trodAll_cons hA
  obtain ⟨v1, vs1, d1, ds1, p1, q1, rfl, rfl, rfl, h1, r1⟩ := trodAll_cons r0
  obtain ⟨v2, vs2, d2, ds2, p2, q2, rfl, rfl, rfl, h2, r2⟩ := trodAll_cons r1
  obtain ⟨rfl, rfl, rfl⟩ := trodAll_nil r2
  obtain rfl : args = #[v0, v1, v2] := by cases args; simp_all
  obtain ⟨rfl, rfl⟩ := trodVars_none hV
  obtain ⟨a0, len0, cap0, rfl⟩ := okWide_slice Try.underlying22 (hval 0 22 v0 rfl rfl)
  have k0 := h0
  have lt0 : ∀ x ∈ p0, x.block < W.heap.size := by obtain ⟨m, hm⟩ := k0; exact DataW.trod_lt m _ _ _ hm
  obtain ⟨z0, hz0, hcap0, hmx0, y0, hwz0, hcell0⟩ := recs2 (B := 16) hsz (j := 0) (t := 22) rfl rfl Try.underlying22 Try.underlying75 (by kernel_rfl) rfl rfl (by kernel_rfl) (by kernel_rfl) Try.underlying2 Try.underlying41 (by kernel_rfl) h0
  obtain ⟨l0, hl0⟩ : ∃ l : List All.S75, l = z0.map (fun z => (⟨z.1, z.2⟩ : All.S75)) := ⟨_, rfl⟩
  have hn0 : len0 = l0.length := by rw [hz0, hl0, List.length_map]
  have hr0 : Go.Proofs.YtiahbcaoikoogaaW.PrintWords.Kd.C All.k75 W a0 l0.length l0 := by
    refine ⟨rfl, by rw [← hn0]; exact Nat.le_trans hmx0 (by decide), fun h => ?_⟩
    obtain ⟨ad, e, hc⟩ := hcell0 (by rw [hn0]; exact h)
    refine ⟨ad, e, fun j p hp => ?_⟩
    rw [hl0, List.getElem?_map] at hp
    obtain ⟨z, hz, rfl⟩ := Option.map_eq_some_iff.1 hp
    obtain ⟨c0, c1⟩ := hc j z hz
    refine ⟨_, rfl, All.k75_mk W _, fun q u hu => ?_⟩
    match q, hu with
    | 0, hu => injection hu with hu; subst hu; exact c0
    | 1, hu => injection hu with hu; subst hu; exact c1
    | q + 2, hu => simp at hu
  have hw0 : ∀ x ∈ l0, (Lit.int .i64 x.f0).wf = true ∧ (Lit.int .u64 x.f1).wf = true := by
    intro x hx
    rw [hl0] at hx
    obtain ⟨z, hz, rfl⟩ := List.mem_map.1 hx
    exact hwz0 z hz
  obtain ⟨a1, rfl, rfl, rfl, w1⟩ := open_int Try.underlying3 (hval 1 3 v1 rfl rfl) h1
  obtain ⟨a2, len2, cap2, rfl⟩ := okWide_slice Try.underlying23 (hval 2 23 v2 rfl rfl)
  have k2 := h2
  have lt2 : ∀ x ∈ p2, x.block < W.heap.size := by obtain ⟨m, hm⟩ := k2; exact DataW.trod_lt m _ _ _ hm
  obtain ⟨z2, hz2, hcap2, hmx2, y2, hwz2, hcell2⟩ := recs2 (B := 16) hsz (j := 2) (t := 23) rfl rfl Try.underlying23 Try.underlying36 (by kernel_rfl) rfl rfl (by kernel_rfl) (by kernel_rfl) Try.underlying3 Try.underlying2 (by kernel_rfl) h2
  obtain ⟨l2, hl2⟩ : ∃ l : List All.S36, l = z2.map (fun z => (⟨z.1, z.2⟩ : All.S36)) := ⟨_, rfl⟩
  have hn2 : len2 = l2.length := by rw [hz2, hl2, List.length_map]
  have hr2 : Go.Proofs.YtiahbcaoikoogaaW.PrintWords.Kd.C All.k36 W a2 l2.length l2 := by
    refine ⟨rfl, by rw [← hn2]; exact Nat.le_trans hmx2 (by decide), fun h => ?_⟩
    obtain ⟨ad, e, hc⟩ := hcell2 (by rw [hn2]; exact h)
    refine ⟨ad, e, fun j p hp => ?_⟩
    rw [hl2, List.getElem?_map] at hp
    obtain ⟨z, hz, rfl⟩ := Option.map_eq_some_iff.1 hp
    obtain ⟨c0, c1⟩ := hc j z hz
    refine ⟨_, rfl, All.k36_mk W _, fun q u hu => ?_⟩
    match q, hu with
    | 0, hu => injection hu with hu; subst hu; exact c0
    | 1, hu => injection hu with hu; subst hu; exact c1
    | q + 2, hu => simp at hu
  have hw2 : ∀ x ∈ l2, (Lit.int .i64 x.f0).wf = true ∧ (Lit.int .i64 x.f1).wf = true := by
    intro x hx
    rw [hl2] at hx
    obtain ⟨z, hz, rfl⟩ := List.mem_map.1 hx
    exact hwz2 z hz
  clear hA0 hval0 hsz0 hsz
  subst hn0
  subst hn2
  refine (All.gaiterlaw17_CursorPlays.walk Pure.CursorPlays a0 cap0 l0 a1 a2 cap2 l2 W hr0 hcap0 hmx0 y0 hw0 w1 hr2 hcap2 hmx2 y2 hw2).mono fun e W' ⟨he, bel⟩ => ?_
  subst he
  exact ⟨_, rfl, _, _, _, [], _, [], hW', trodAll_mk1 (shut_bool Try.underlying4 _), (trodAll_cons_mk (Below.trod laidOut (by kernel_rfl) (of_decide_eq_true (by kernel_rfl)) k0 bel lt0) (trodAll_cons_mk (shut_int Try.underlying3 w1) (trodAll_cons_mk (Below.trod laidOut (by kernel_rfl) (of_decide_eq_true (by kernel_rfl)) k2 bel lt2) trodAll_mk0))), rfl, bel.frame _, fun h => by cases h⟩
theorem over : Rows.cursorPlaysRow.holds Try.pinned (OpenSpec.ofChange Rows.cursorPlaysSpec) :=
  OpenClaim.holds_of_wide 3 Try.f3 rfl rfl rfl rfl rfl rfl rfl ⟨rfl, rfl, rfl, rfl, rfl⟩ rfl rfl rfl rfl rfl (by kernel_rfl) Try.func3 (by kernel_rfl)
    (of_decide_eq_true (by kernel_rfl)) (by unfold Func.isWrapper; first | (rw [if_pos (by decide +kernel)]; kernel_rfl) | (rw [if_neg (by decide +kernel)]; exact ⟨rfl, rfl⟩))
    (fun os started H enc _ => lifted os started H enc)
theorem proved : Rows.CursorPlaysSaid := over
#print axioms proved
end Go.Proofs.Ytiahbcaoikoogaa.cursorPlays
namespace Go.Proofs.Ytiahbcaoikoogaa
/-- The row, under a short name, for the claim. -/
theorem cursorPlays_holds : Rows.CursorPlaysSaid := cursorPlays.proved
end Go.Proofs.Ytiahbcaoikoogaa
