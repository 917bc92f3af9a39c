/- gaiterlaw14.IndexPuts: layer 14's Put tells the document's bytes of any index, or that it may not be; no condition. -/
import Derived.Test.YtiahbcaoikoogaaRows
import Derived.Test.YtiahbcaoikoogaaIndexPutsWhole
import Derived.WalkKit
import Derived.ProofKit
import Derived.OpenShut
import Derived.ShutString
import Derived.ChangeOld
import Derived.Below
import Derived.SizedLaws
import Derived.Lib.SmallJoins
namespace Go.Proofs.Ytiahbcaoikoogaa.indexPuts
open Go Go.ChangeShapes Go.WideShapes Go.ChangeAt Go.RowKit Go.Joins Go.Proofs.Ytiahbcaoikoogaa.All
set_option linter.unusedVariables false
theorem own : ownKnob Try.prog.godebug = none := by kernel_rfl
theorem laidOut : laidOutB Try.prog = true := by kernel_rfl
/-- A row of records, as the walk wants it. -/
theorem row72 {W : World} {A : Option Addr} {zs : List (Int × Int × Int × Int)} (hm : zs.length ≤ maxLen)
    (hc : 0 < zs.length → ∃ ad, A = some ad ∧ ∀ i z, zs[i]? = some z → W.cell? (ad.add (i * 4)) = some (.int .i64 z.1) ∧ W.cell? (ad.add (i * 4 + 1)) = some (.int .i64 z.2.1) ∧ W.cell? (ad.add (i * 4 + 2)) = some (.int .i64 z.2.2.1) ∧ W.cell? (ad.add (i * 4 + 3)) = some (.int .i64 z.2.2.2)) :
    ∃ l : List S72, zs.length = l.length ∧ Go.Proofs.YtiahbcaoikoogaaW.PrintWords.Kd.C k72 W A l.length l := by
  refine ⟨zs.map fun z => ⟨z.1, z.2.1, z.2.2.1, z.2.2.2⟩, by simp, rfl, by rw [List.length_map]; simpa [maxLen] using hm, fun h0 => ?_⟩
  rw [List.length_map] at h0
  obtain ⟨ad, rfl, hcell⟩ := hc h0
  refine ⟨ad, rfl, fun j p hp => ?_⟩
  rw [List.getElem?_map] at hp
  obtain ⟨z, hz, rfl⟩ := Option.map_eq_some_iff.1 hp
  obtain ⟨h0, h1, h2, h3⟩ := hcell j z hz
  refine ⟨_, rfl, k72_mk W _, fun i u hu => ?_⟩
  match i, hu with
  | 0, hu => simp at hu; subst hu; exact h0
  | 1, hu => simp at hu; subst hu; exact h1
  | 2, hu => simp at hu; subst hu; exact h2
  | 3, hu => simp at hu; subst hu; exact h3
set_option maxRecDepth 100000 in
theorem lifted (os : Os) (started : os.Started) (H : Type) (enc : TypeId × Value → H) :
    ReturnsInHanded {} Try.checked os 4 .any (Rows.indexPutsSpec.pre6 enc Try.prog Try.f4 Rows.indexPutsRow.domain false) (Rows.indexPutsSpec.post enc Try.prog Try.f4 false true false false) := by
  refine returnsInHanded_of_change_sized (C := Try.checked) own started (by kernel_rfl) Try.func4
    (ChangeSpec.witness6 (enc := enc) (C := Try.checked) false ⟨#[], #[.agg #[.int .i64 0, .slice none 0 0]], []⟩ 8 (by kernel_rfl) (by kernel_rfl) (by kernel_rfl) (by kernel_rfl)) ?_
  intro W base args ds gs before hval0 hW hcnd hsz0 _
  have hval : ∀ (j : Nat) t v, Try.f4.params[j]? = some t → args[j]? = some v → Value.okWide Try.prog W .any base t v := hval0
  have hW' := hW
  obtain ⟨p, q, hA0, hV, rfl, hfz, hnd⟩ := hW
  have hA : DataW.TrodAll enc Try.prog W 0 (fun _ => true) true Try.f4.params.toList args.toList ds p := hA0
  rw [Try.params4] at hA hval
  obtain ⟨v0, vs0, d0, ds0, p0, q0, hargs, rfl, rfl, h0, r0⟩ := trodAll_cons hA
  obtain ⟨rfl, rfl, rfl⟩ := trodAll_nil r0
  obtain rfl : args = #[v0] := by cases args; simp_all
  obtain ⟨rfl, rfl⟩ := trodVars_none hV
  have k0 := h0
  have lt0 : ∀ x ∈ p0, x.block < W.heap.size := by obtain ⟨m, hm⟩ := k0; exact DataW.trod_lt m _ _ _ hm
  obtain ⟨c0, c1, e0, e1, m0, rfl, rfl, rfl, g0, g1⟩ := open_agg2 Try.underlying53 (by kernel_rfl) (by kernel_rfl) (hval 0 53 v0 rfl rfl) h0
  obtain ⟨s0, y0, rfl, ws0⟩ := DataW.trod_int Try.underlying3 g0
  simp at y0
  subst y0
  obtain ⟨A, len, cap, zs, rfl, rfl, hcap, hmx, hwz, hcell⟩ := recs4 Try.underlying51 Try.underlying72 (by kernel_rfl) rfl rfl rfl rfl (by kernel_rfl) (by kernel_rfl) (by kernel_rfl) (by kernel_rfl) Try.underlying2 Try.underlying2 Try.underlying3 Try.underlying3 g1
  obtain ⟨l, hl, hC⟩ := row72 hmx hcell
  rw [hl] at hcap
  clear hA0 hval0 hsz0
  obtain ⟨k, h⟩ := Pure.IndexPuts s0 l
  rw [hl]
  refine (All.gaiterlaw14_IndexPuts.calls k s0 A cap l true W hC hcap h).mono fun e W' ⟨he, bel⟩ => ?_
  subst he
  rw [hl] at k0 hW'
  exact ⟨_, rfl, _, _, _, [], _, [], hW', trodAll_mk1 (shut_bool Try.underlying4 _), (trodAll_cons_mk (Below.trod laidOut (by kernel_rfl) (of_decide_eq_true (by kernel_rfl)) k0 bel lt0) trodAll_mk0), rfl, bel.frame _, fun h => by cases h⟩
theorem over : Rows.indexPutsRow.holds Try.pinned (OpenSpec.ofChange Rows.indexPutsSpec) :=
  OpenClaim.holds_of_wide 4 Try.f4 rfl rfl rfl rfl rfl rfl rfl ⟨rfl, rfl, rfl, rfl, rfl⟩ rfl rfl rfl rfl rfl (by kernel_rfl) Try.func4 (by kernel_rfl)
    (of_decide_eq_true (by kernel_rfl)) (by unfold Func.isWrapper; first | (rw [if_pos (by decide +kernel)]; kernel_rfl) | (rw [if_neg (by decide +kernel)]; exact ⟨rfl, rfl⟩))
    (fun os started H enc _ => lifted os started H enc)
theorem proved : Rows.IndexPutsSaid := over
#print axioms proved
end Go.Proofs.Ytiahbcaoikoogaa.indexPuts
namespace Go.Proofs.Ytiahbcaoikoogaa
/-- The row, under a short name, for the claim. -/
theorem indexPuts_holds : Rows.IndexPutsSaid := indexPuts.proved
end Go.Proofs.Ytiahbcaoikoogaa
