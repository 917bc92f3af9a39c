/- Layer 3's Put and Get answer as the document's, at every number, all bytes and every place; no condition beside the statement's own bound of 1000 bytes. -/
import Derived.Test.YthlieaggokdppaaAllx17
import Derived.Test.YthlieaggokdppaaPUvar
namespace Go.Proofs.Ythlieaggokdppaa.Pure
open Go Go.RowKit Go.Proofs.Ythlieaggokdppaa Go.Proofs.Ythlieaggokdppaa.All Go.Proofs.YthlieaggokdppaaW.PrintWords Go.Proofs.YthlieaggokdppaaW.PrintLast
set_option linter.unusedVariables false
set_option linter.unusedSimpArgs false

theorem UvarTells_up : Ev (fun k => gaiterlaw03_up.f k) true :=
  Ev.of gaiterlaw03_up.mono (k := 40) (by decide +kernel)
theorem code_er (c : Int) (h : c = 0 ∨ c = 2 ∨ c = 3) : codeNo (PUvar.er c) = c := by
  rcases h with rfl | rfl | rfl <;> decide
theorem gspec_code (ys : List Int) (n : Nat) : (PUvar.gspec ys n).2.2 = 0 ∨ (PUvar.gspec ys n).2.2 = 2 ∨ (PUvar.gspec ys n).2.2 = 3 := by
  unfold PUvar.gspec
  split
  · exact .inr (.inl rfl)
  split
  · exact .inr (.inr rfl)
  split
  · exact .inr (.inr rfl)
  · exact .inl rfl
theorem UvarTells : gaiterlaw03_UvarTells.Pure := by
  intro v xs a hv _ _ hx ha
  have hv := Ib.wf_u64 hv
  have hx : Bs.Bytes xs := fun x h => Ib.wf_u8 (hx x h)
  refine Ev.rounds (g := fun k => gaiterlaw03_UvarTells.f k v xs a) ?_
  unfold gaiterlaw03_UvarTells.f
  refine Ev.bind UvarTells_up ?_
  by_cases c1 : (xs.length : Int) > 1000
  · simp only [if_pos c1]
    exact Ev.now _
  simp only [if_neg c1]
  refine Ev.bind (PUvar.Get_is xs hx (by omega) a) ?_
  refine Ev.bind (PUvar.RGet_is xs hx (by omega) a) ?_
  simp only [if_true]
  refine Ev.bind (PUvar.Put_is v hv) ?_
  refine Ev.bind (PUvar.RPut_is v hv) ?_
  by_cases c2 : a < 0 ∨ a > (xs.length : Int)
  · simp only [if_pos c2, if_true, gaiterlaw00_Code.f, Option.bind_some]
    exact Ev.now _
  · simp only [if_neg c2, if_true, PUvar.gimp, gaiterlaw00_Code.f, Option.bind_some]
    rw [code_er _ (gspec_code _ _)]
    simp only [beq_self_eq_true]
    exact Ev.now _

end Go.Proofs.Ythlieaggokdppaa.Pure
