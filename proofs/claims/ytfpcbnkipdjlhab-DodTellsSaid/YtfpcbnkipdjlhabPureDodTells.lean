/- Layer 5's Code and Get answer as the document's, at every number, all bytes and every place; no condition beside the statement's own bound of 500 bytes. -/
import Derived.Test.YtfpcbnkipdjlhabAllx21
import Derived.Test.YtfpcbnkipdjlhabPDod
namespace Go.Proofs.Ytfpcbnkipdjlhab.Pure
open Go Go.RowKit Go.Proofs.Ytfpcbnkipdjlhab Go.Proofs.Ytfpcbnkipdjlhab.All Go.Proofs.YtfpcbnkipdjlhabW.PrintWords Go.Proofs.YtfpcbnkipdjlhabW.PrintLast
set_option linter.unusedVariables false
set_option linter.unusedSimpArgs false

theorem DodTells_up : Ev (fun k => gaiterlaw05_up.f k) true :=
  Ev.of gaiterlaw05_up.mono (k := 40) (by decide +kernel)
theorem code_dod (c : Int) (h : c = 0 ∨ c = 2 ∨ c = 3) : codeNo (if c = 0 then none else some c) = c := by
  rcases h with rfl | rfl | rfl <;> decide
theorem DodTells : gaiterlaw05_DodTells.Pure := by
  intro v xs a hv _ _ hx ha
  have hv := Ib.wf_i64 hv
  have ha := Ib.wf_i64 ha
  have hx : Bs.Bytes xs := fun x h => Ib.wf_u8 (hx x h)
  refine Ev.rounds (g := fun k => gaiterlaw05_DodTells.f k v xs a) ?_
  unfold gaiterlaw05_DodTells.f
  refine Ev.bind DodTells_up ?_
  by_cases c1 : (xs.length : Int) > 500
  · simp only [if_pos c1]
    exact Ev.now _
  simp only [if_neg c1]
  have hfl := Bs.flat_length xs
  have hrl := PDod.restL_length (Bs.flat xs) a
  have hRb := PDod.restL_bits (Bs.flat_bits xs) a
  refine Ev.bind (PDod.Get_is xs hx (by omega) a ha) ?_
  refine Ev.bind (PDod.Rest_is xs hx (by omega) a) ?_
  refine Ev.bind (PDod.RGet_is _ hRb (by omega)) ?_
  simp only [if_true]
  refine Ev.bind (PDod.Code_is v) ?_
  refine Ev.bind (PDod.RDod_is v) ?_
  have hdl := PDod.dodL_length v
  have hsz := PDod.size_le (PDod.ones v)
  refine Ev.bind (PBits.Is_is (PDod.dodL v) (PDod.dodL_bits v) (by omega)) ?_
  have hc := PDod.gspec_code (PDod.restL (Bs.flat xs) a)
  simp only [if_true, PDod.gimp, gaiterlaw00_Code.f, Option.bind_some]
  rw [code_dod _ hc]
  simp only [beq_self_eq_true]
  exact Ev.now _

end Go.Proofs.Ytfpcbnkipdjlhab.Pure
