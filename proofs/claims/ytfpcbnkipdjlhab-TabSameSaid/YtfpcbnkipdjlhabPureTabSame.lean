/- Code by code layer 6 gets what layer 5 gets, up to the same error; no condition beside the statement's own bound of 500 bytes. -/
import Derived.Test.YtfpcbnkipdjlhabAllx20
import Derived.Test.YtfpcbnkipdjlhabPTab
namespace Go.Proofs.Ytfpcbnkipdjlhab.Pure
open Go Go.RowKit Go.Proofs.Ytfpcbnkipdjlhab Go.Proofs.Ytfpcbnkipdjlhab.All Go.Proofs.YtfpcbnkipdjlhabW.PrintWords Go.Proofs.YtfpcbnkipdjlhabW.PrintLast
set_option linter.unusedVariables false
set_option linter.unusedSimpArgs false

theorem TabSame_up : Ev (fun k => gaiterlaw06_up.f k) true :=
  Ev.of gaiterlaw06_up.mono (k := 300) (by decide +kernel)
theorem TabSame_l0 (x : List Int) (hx : Bs.Bytes x) (lx : x.length ≤ 500) : ∀ (f a i : Nat) (b : List Int) (u h : Int), f + a = (Bs.flat x).length → i ≤ a → PFill.Inv ((Bs.flat x).drop a) b u h →
    Ev (fun k => gaiterlaw06_TabSame.l0 k x true (a : Int) (i : Int) b u h) true := by
  have hL := Bs.flat_length x
  have h8 : 8 * x.length < 140737488355328 := by omega
  intro f
  induction f using Nat.strongRecOn with
  | _ f ih =>
  intro a i b u h hf hi hI
  have hin : (i : Int) < ((8 * x.length + 1 : Nat) : Int) := by omega
  have ha47 : a < 140737488355328 := by omega
  have hi47 : i < 140737488355328 := by omega
  have hrest : PDod.restL (Bs.flat x) (a : Int) = (Bs.flat x).drop a := by
    unfold PDod.restL
    rw [if_neg (by omega), Int.toNat_natCast]
  have hD := PDod.Get_is x hx h8 (a : Int) (by omega)
  rw [hrest] at hD
  obtain ⟨b', u', h', hT, hI'⟩ := PTab.Get_is hI
  have hz := PTab.gspec_zero ((Bs.flat x).drop a)
  have hdl : ((Bs.flat x).drop a).length = (Bs.flat x).length - a := List.length_drop
  have hih : ∀ m : Nat, 1 ≤ m → m ≤ ((Bs.flat x).drop a).length → PFill.Inv (((Bs.flat x).drop a).drop m) b' u' h' → Ev (fun k => gaiterlaw06_TabSame.l0 k x true ((a + m : Nat) : Int) ((i + 1 : Nat) : Int) b' u' h') true := by
    intro m h1 h2 hI2
    rw [List.drop_drop] at hI2
    exact ih (f - m) (by omega) (a + m) (i + 1) b' u' h' (by omega) (by omega) hI2
  have hadd : ∀ m : Nat, 1 ≤ m → m ≤ ((Bs.flat x).drop a).length → (wrap64 ((a : Int) + (m : Int)) = ((a + m : Nat) : Int)) ∧ ¬ ((m : Int) < 1) ∧ (((((Bs.flat x).drop a).drop m).length : Nat) : Int) = wrap64 (((8 * x.length : Nat) : Int) - ((a + m : Nat) : Int)) := by
    intro m h1 h2
    refine ⟨PBits.wr_add a m (by omega), by omega, ?_⟩
    rw [PBits.w64 _ (by omega), List.length_drop, hdl]
    omega
  have hi1 := PBits.wr_succ i hi47
  have e8 : wrap64 (8 * (x.length : Int)) = ((8 * x.length : Nat) : Int) := by rw [PBits.w64 _ (by omega)]; omega
  have e81 : wrap64 (((8 * x.length : Nat) : Int) + 1) = ((8 * x.length + 1 : Nat) : Int) := PBits.wr_succ _ h8
  generalize gspec_eq : PDod.gspec ((Bs.flat x).drop a) = G at *
  obtain ⟨d, n, c⟩ := G
  refine Ev.step (fun k => by rw [gaiterlaw06_TabSame.l0]) ?_
  simp only [e8, e81, if_pos hin]
  refine Ev.bind hT ?_
  refine Ev.bind hD ?_
  simp only [if_true, gaiterlaw00_Code.f, Option.bind_some, bne_self_eq_false, PDod.gimp]
  refine Ev.step (fun k => by rw [gaiterlaw06_TabSame.j1]) ?_
  simp only [Bool.false_eq_true, if_false]
  by_cases c0 : c = 0
  · obtain ⟨m, hm, h1, h2⟩ := hz c0
    simp only at hm
    subst hm
    have hI2 := hI' c0
    simp only [Int.toNat_natCast] at hI2
    have hLeft := PFill.Left_is hI2
    obtain ⟨ea, en, el⟩ := hadd m h1 h2
    simp only [if_pos c0, Option.isNone_none, if_true, if_neg en, hLeft, Option.bind_some, ea, e8, if_pos el, hi1]
    exact hih m h1 h2 hI2
  · simp only [if_neg c0, Option.isNone_some, Bool.false_eq_true, if_false]
    exact Ev.now _
theorem TabSame : gaiterlaw06_TabSame.Pure := by
  intro x _ _ hx
  have hx : Bs.Bytes x := fun y h => Ib.wf_u8 (hx y h)
  refine Ev.rounds (g := fun k => gaiterlaw06_TabSame.f k x) ?_
  unfold gaiterlaw06_TabSame.f
  refine Ev.bind TabSame_up ?_
  by_cases c1 : (x.length : Int) > 500
  · simp only [if_pos c1]
    exact Ev.now _
  simp only [if_neg c1, fill_New.f, Option.bind_some]
  have hI := PFill.New_is x hx (by omega)
  exact TabSame_l0 x hx (by omega) (Bs.flat x).length 0 0 x 0 0 (by omega) (Nat.le_refl _) hI

end Go.Proofs.Ytfpcbnkipdjlhab.Pure
