-- declarations that this claim needs, copied by a program of the session
import Derived.Test.YtiahbcaoikoogaaDoorKsAllx61
import Derived.Test.YtiahbcaoikoogaaDoorKsPSame
namespace Go.Proofs.YtiahbcaoikoogaaDoor.Pure
open Go Go.RowKit Go.Proofs.YtiahbcaoikoogaaDoor Go.Proofs.YtiahbcaoikoogaaDoor.All Go.Proofs.YtiahbcaoikoogaaDoorW.PrintWords Go.Proofs.YtiahbcaoikoogaaDoorW.PrintLast
set_option linter.unusedVariables false
set_option linter.unusedSimpArgs false
theorem SlowTells_up : Ev (fun k => gaiterlaw10_up.f k) true :=
  Ev.of gaiterlaw10_up.mono (k := 300) (by decide +kernel)
theorem slow_no (c : Int) (h : c = 0 ∨ c = 1 ∨ c = 2 ∨ c = 3 ∨ c = 4 ∨ c = 6) : codeNo (if c = 0 then none else some c) = c := by
  rcases h with rfl | rfl | rfl | rfl | rfl | rfl <;> decide
theorem SlowTells : gaiterlaw10_SlowTells.Pure := by
  intro kind b n _ _ _ h1 _
  have h1 : Bs.Bytes b := fun x h => Ib.wf_u8 (h1 x h)
  refine Ev.rounds (g := fun k => gaiterlaw10_SlowTells.f k kind b n) ?_
  unfold gaiterlaw10_SlowTells.f
  refine Ev.bind SlowTells_up ?_
  by_cases c1 : (b.length : Int) > 600
  · exact Ev.congr (fun k => if_pos c1) (Ev.now _)
  obtain ⟨M, c, g1, g2, g3, g4⟩ := PSlow.Decode_is kind b h1 (by omega) n
  have hs := PSame.Same_is M (by omega)
  have hcode : gaiterlaw00_Code.f (if c = 0 then none else some c) = some c := by
    unfold gaiterlaw00_Code.f
    rw [slow_no c g3]
  refine Ev.congr (fun k => if_neg c1) (Ev.bind g1 (Ev.bind g2 ?_))
  refine Ev.congr (fun k => if_pos rfl) (Ev.bind hs ?_)
  refine Ev.congr (fun k => ?_) (Ev.now true)
  show (if (1 : Int) = 1 then (gaiterlaw00_Code.f (if c = 0 then none else some c)).bind fun t1403 => some (t1403 == c) else none) = some true
  rw [if_pos rfl, hcode, Option.bind_some, beq_self_eq_true]
end Go.Proofs.YtiahbcaoikoogaaDoor.Pure
