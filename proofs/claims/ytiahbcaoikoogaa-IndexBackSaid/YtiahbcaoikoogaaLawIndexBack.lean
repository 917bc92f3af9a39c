/- gaiterlaw14.IndexBack: what layer 14's Put has written is got, with as many bytes behind it as its lengths tell, and not with one more or fewer; what is got, put, is those bytes; no condition beside the statement's own bounds. -/
import Derived.Test.YtiahbcaoikoogaaRows
import Derived.Test.YtiahbcaoikoogaaIndexBackWhole
import Derived.WalkKit
import Derived.ProofKit
import Derived.OpenShut
import Derived.ShutString
import Derived.ChangeOld
import Derived.Below
import Derived.SizedLaws
import Derived.Lib.SmallJoins
namespace Go.Proofs.Ytiahbcaoikoogaa.indexBack
open Go Go.ChangeShapes Go.WideShapes Go.ChangeAt Go.RowKit Go.Joins Go.Proofs.Ytiahbcaoikoogaa.All
set_option linter.unusedVariables false
theorem own : ownKnob Try.prog.godebug = none := by kernel_rfl
theorem laidOut : laidOutB Try.prog = true := by kernel_rfl
/-- A row of records, as the walk wants it. -/
theorem row72 {W : World} {A : Option Addr} {zs : List (Int × Int × Int × Int)} (hm : zs.length ≤ maxLen)
    (hc : 0 < zs.length → ∃ ad, A = some ad ∧ ∀ i z, zs[i]? = some z → W.cell? (ad.add (i * 4)) = some (.int .i64 z.1) ∧ W.cell? (ad.add (i * 4 + 1)) = some (.int .i64 z.2.1) ∧ W.cell? (ad.add (i * 4 + 2)) = some (.int .i64 z.2.2.1) ∧ W.cell? (ad.add (i * 4 + 3)) = some (.int .i64 z.2.2.2)) :
    ∃ l : List S72, zs.length = l.length ∧ (∀ x ∈ l, ∃ z ∈ zs, x.f0 = z.1 ∧ x.f1 = z.2.1) ∧ Go.Proofs.YtiahbcaoikoogaaW.PrintWords.Kd.C k72 W A l.length l := by
  refine ⟨zs.map fun z => ⟨z.1, z.2.1, z.2.2.1, z.2.2.2⟩, by simp, fun x hx => by obtain ⟨z, hz, rfl⟩ := List.mem_map.1 hx; exact ⟨z, hz, rfl, rfl⟩, rfl, by rw [List.length_map]; simpa [maxLen] using hm, fun h0 => ?_⟩
  rw [List.length_map] at h0
  obtain ⟨ad, rfl, hcell⟩ := hc h0
  refine ⟨ad, rfl, fun j p hp => ?_⟩
  rw [List.getElem?_map] at hp
  obtain ⟨z, hz, rfl⟩ := Option.map_eq_some_iff.1 hp
  obtain ⟨h0, h1, h2, h3⟩ := hcell j z hz
  refine ⟨_, rfl, k72_mk W _, fun i u hu => ?_⟩
  match i, hu with
  | 0, hu => simp at hu; subst hu; exact h0
  | 1, hu => simp at hu; subst hu; exact h1
  | 2, hu => simp at hu; subst hu; exact h2
  | 3, hu => simp at hu; subst hu; exact h3
set_option maxRecDepth 100000 in
theorem lifted (os : Os) (started : os.Started) (H : Type) (enc : TypeId × Value → H) :
    ReturnsInHanded {} Try.checked os 6 .any (Rows.indexBackSpec.pre6 enc Try.prog Try.f6 Rows.indexBackRow.domain false) (Rows.indexBackSpec.post enc Try.prog Try.f6 false true false false) := by
  refine returnsInHanded_of_change_sized (C := Try.checked) own started (by kernel_rfl) Try.func6
    (ChangeSpec.witness6 (enc := enc) (C := Try.checked) false ⟨#[], #[.agg #[.int .i64 0, .slice none 0 0], .slice none 0 0], []⟩ 8 (by kernel_rfl) (by kernel_rfl) (by kernel_rfl) (by kernel_rfl)) ?_
  intro W base args ds gs before hval0 hW hcnd hsz0 _
  have hval : ∀ (j : Nat) t v, Try.f6.params[j]? = some t → args[j]? = some v → Value.okWide Try.prog W .any base t v := hval0
  have hW' := hW
  obtain ⟨p, q, hA0, hV, rfl, hfz, hnd⟩ := hW
  have hA : DataW.TrodAll enc Try.prog W 0 (fun _ => true) true Try.f6.params.toList args.toList ds p := hA0
  rw [Try.params6] at hA hval
  obtain ⟨v0, vs0, d0, ds0, p0, q0, hargs, rfl, rfl, h0, r0⟩ := trodAll_cons hA
  obtain ⟨v1, vs1, d1, ds1, p1, q1, rfl, rfl, rfl, h1, r1⟩ := trodAll_cons r0
  obtain ⟨rfl, rfl, rfl⟩ := trodAll_nil r1
  obtain rfl : args = #[v0, v1] := by cases args; simp_all
  obtain ⟨rfl, rfl⟩ := trodVars_none hV
  have k0 := h0
  have lt0 : ∀ x ∈ p0, x.block < W.heap.size := by obtain ⟨m, hm⟩ := k0; exact DataW.trod_lt m _ _ _ hm
  obtain ⟨c0, c1, e0, e1, m0, rfl, rfl, rfl, g0, g1⟩ := open_agg2 Try.underlying53 (by kernel_rfl) (by kernel_rfl) (hval 0 53 v0 rfl rfl) h0
  obtain ⟨s0, y0, rfl, ws0⟩ := DataW.trod_int Try.underlying3 g0
  simp at y0
  subst y0
  obtain ⟨A, len, cap, zs, rfl, rfl, hcap, hmx, hwz, hcell⟩ := recs4 Try.underlying51 Try.underlying72 (by kernel_rfl) rfl rfl rfl rfl (by kernel_rfl) (by kernel_rfl) (by kernel_rfl) (by kernel_rfl) Try.underlying2 Try.underlying2 Try.underlying3 Try.underlying3 g1
  obtain ⟨l, hl, hwl, hC⟩ := row72 hmx hcell
  rw [hl] at hcap
  obtain ⟨a1, len1, cap1, rfl⟩ := okWide_slice Try.underlying54 (hval 1 54 v1 rfl rfl)
  have k1 := h1
  have lt1 : ∀ x ∈ p1, x.block < W.heap.size := by obtain ⟨m, hm⟩ := k1; exact DataW.trod_lt m _ _ _ hm
  obtain ⟨z1, w1⟩ : ∃ zs : List Int, (a1 = none ∧ len1 = 0 ∧ cap1 = 0 ∧ zs = []) ∨ ∃ x, a1 = some x ∧ len1 ≤ cap1 ∧ cap1 ≤ maxLen ∧ zs.length = cap1 ∧ (∀ i, i < zs.length → W.cell? (x.add i) = some (.int .u8 (zs.getD i 0))) ∧ ∀ n ∈ zs, (Lit.int .u8 n).wf = true := by
    obtain ⟨fuel, hf⟩ := h1
    rcases open_ints Try.underlying54 Try.underlying5 (by kernel_rfl) hf with ⟨hcs, _⟩ | ⟨x, l, c, zs, hcs, _, hl, hm, hz, _, hcell, hwz⟩
    · simp [Value.cells] at hcs
      obtain ⟨rfl, rfl, rfl⟩ := hcs
      exact ⟨[], .inl ⟨rfl, rfl, rfl, rfl⟩⟩
    · simp [Value.cells] at hcs
      obtain ⟨rfl, rfl, rfl⟩ := hcs
      exact ⟨zs, .inr ⟨_, rfl, hl, hm, by simpa using hz, hcell, hwz⟩⟩
  clear hA0 hval0 hsz0
  obtain ⟨l1, rfl, hr1, hm1, hw1, hc1⟩ := Go.Proofs.YtiahbcaoikoogaaW.PrintWords.ReadsInt.ofRowC w1
  have hW72 : ∀ x ∈ l, PIdx.W72 x := fun x hx => by
    obtain ⟨z, hz, e0, e1⟩ := hwl x hx
    obtain ⟨u0, u1, _⟩ := hwz z hz
    have i0 := Ib.wf_i64 u0
    have i1 := Ib.wf_i64 u1
    rw [← e0] at i0
    rw [← e1] at i1
    exact ⟨i0, i1⟩
  obtain ⟨k, h⟩ := Pure.IndexBack s0 l l1 hW72 (fun x hx => Ib.wf_u8 (hw1 x hx))
  rw [hl]
  refine (All.gaiterlaw14_IndexBack.calls k s0 A cap l _ _ l1 true W hC hcap (Go.Proofs.YtiahbcaoikoogaaW.PrintWords.Kd.C_of_reads (d := (0 : Int)) (h1 := fun _ => rfl) hr1) hc1 h).mono fun e W' ⟨he, bel⟩ => ?_
  subst he
  rw [hl] at k0 hW'
  exact ⟨_, rfl, _, _, _, [], _, [], hW', trodAll_mk1 (shut_bool Try.underlying4 _), (trodAll_cons_mk (Below.trod laidOut (by kernel_rfl) (of_decide_eq_true (by kernel_rfl)) k0 bel lt0) (trodAll_cons_mk (Below.trod laidOut (by kernel_rfl) (of_decide_eq_true (by kernel_rfl)) k1 bel lt1) trodAll_mk0)), rfl, bel.frame _, fun h => by cases h⟩
theorem over : Rows.indexBackRow.holds Try.pinned (OpenSpec.ofChange Rows.indexBackSpec) :=
  OpenClaim.holds_of_wide 6 Try.f6 rfl rfl rfl rfl rfl rfl rfl ⟨rfl, rfl, rfl, rfl, rfl⟩ rfl rfl rfl rfl rfl (by kernel_rfl) Try.func6 (by kernel_rfl)
    (of_decide_eq_true (by kernel_rfl)) (by unfold Func.isWrapper; first | (rw [if_pos (by decide +kernel)]; kernel_rfl) | (rw [if_neg (by decide +kernel)]; exact ⟨rfl, rfl⟩))
    (fun os started H enc _ => lifted os started H enc)
theorem proved : Rows.IndexBackSaid := over
#print axioms proved
end Go.Proofs.Ytiahbcaoikoogaa.indexBack
namespace Go.Proofs.Ytiahbcaoikoogaa
/-- The row, under a short name, for the claim. -/
theorem indexBack_holds : Rows.IndexBackSaid := indexBack.proved
end Go.Proofs.Ytiahbcaoikoogaa
