-- written by a program of the session out of the translation; Lean checks it
import Derived.Test.YtfpcbnkipdjlhaaAllx0
import Derived.Test.YtfpcbnkipdjlhaaAllx13
import Derived.Test.YtfpcbnkipdjlhaaAllx23
import Derived.Test.YtfpcbnkipdjlhaaAllx24
import Derived.Test.YtfpcbnkipdjlhaaAllx25
import Derived.Test.YtfpcbnkipdjlhaaAllx26
namespace Go.Proofs.Ytfpcbnkipdjlhaa.All
open Go.RowKit Go.Proofs.YtfpcbnkipdjlhaaW.PrintWords Go.Proofs.YtfpcbnkipdjlhaaW.PrintLast Go.Proofs.YtfpcbnkipdjlhaaW.PrintMore
attribute [local go_sem] max2_int min2_int max_two min_two max_three min_three max_four min_four   -- for this text's walks alone
set_option linter.unusedVariables false
set_option linter.unusedSimpArgs false

/-! ### gaiterlaw02_FillPlays: function 11 -/
mutual
def gaiterlaw02_FillPlays.j0 : Nat → List Int → List (S75) → Bool → Bool → Option (Bool)
 | 0, _, _, _, _ => none
 | k + 1, x0, x1, x5, x22 => if x22 = true then (some x5) else ((fill_New.f x0).bind fun bt339 => ((gaiterref01_Flat.f k x0).bind fun t343 => (gaiterlaw02_FillPlays.l0 k x1 x5 t343 0 bt339.1 bt339.2.1 bt339.2.2)))
def gaiterlaw02_FillPlays.l0 : Nat → List (S75) → Bool → List Int → Int → List Int → Int → Int → Option (Bool)
 | 0, _, _, _, _, _, _, _ => none
 | k + 1, x1, x5, x7, x8, x343000, x343001, x343002 => if x8 < (x1.length : Int) then (if 0 ≤ x8 then ((gaiterlaw00_Pick.f ((rd_T75 x1 x8).f0) 4).bind fun t348 => (if t348 = 0 then (if ((rd_T75 x1 x8).f1) ≥ 0 then (gaiterlaw02_FillPlays.j2 k x1 x5 x7 x8 ((rd_T75 x1 x8).f1) 0 (decide (((rd_T75 x1 x8).f1) ≤ 56)) x343000 x343001 x343002) else (gaiterlaw02_FillPlays.j2 k x1 x5 x7 x8 ((rd_T75 x1 x8).f1) 0 false x343000 x343001 x343002)) else (if t348 = 1 then (if ((rd_T75 x1 x8).f1) ≥ 0 then (gaiterlaw02_FillPlays.j4 k x1 x5 x7 x8 ((rd_T75 x1 x8).f1) (decide (((rd_T75 x1 x8).f1) ≤ (x7.length : Int))) x343000 x343001 x343002) else (gaiterlaw02_FillPlays.j4 k x1 x5 x7 x8 ((rd_T75 x1 x8).f1) false x343000 x343001 x343002)) else ((fill_Reader_Read.f k x343000 x343001 x343002 ((rd_T75 x1 x8).f1)).bind fun bt386 => (if ((rd_T75 x1 x8).f1) < 0 then (gaiterlaw02_FillPlays.j5 k x1 x5 x7 x8 ((rd_T75 x1 x8).f1) bt386.1 bt386.2.1 true bt386.2.2.1 bt386.2.2.2.1 bt386.2.2.2.2) else (if ((rd_T75 x1 x8).f1) > 64 then (gaiterlaw02_FillPlays.j5 k x1 x5 x7 x8 ((rd_T75 x1 x8).f1) bt386.1 bt386.2.1 true bt386.2.2.1 bt386.2.2.2.1 bt386.2.2.2.2) else (gaiterlaw02_FillPlays.j5 k x1 x5 x7 x8 ((rd_T75 x1 x8).f1) bt386.1 bt386.2.1 (decide (((rd_T75 x1 x8).f1) > (x7.length : Int))) bt386.2.2.1 bt386.2.2.2.1 bt386.2.2.2.2))))))) else (none)) else (some x5)
def gaiterlaw02_FillPlays.j2 : Nat → List (S75) → Bool → List Int → Int → Int → Int → Bool → List Int → Int → Int → Option (Bool)
 | 0, _, _, _, _, _, _, _, _, _, _ => none
 | k + 1, x1, x5, x7, x8, x9, x10, x88, x343000, x343001, x343002 => if x88 = true then ((some (([] : List Int) : List Int)).bind fun y349 => (if y349.length + x7.length < 140737488355328 then ((some (y349 ++ x7 : List Int)).bind fun y352 => (if y352.length + 56 < 140737488355328 then ((some (y352 ++ List.replicate 56 0 : List Int)).bind fun y355 => (if 0 ≤ x9 then (if x9 ≤ (y355.length : Int) then ((gaiterref01_Number.f k (y355.take (x9 : Int).toNat)).bind fun t362 => (gaiterlaw02_FillPlays.j3 k x1 x5 x7 x8 x9 t362 x343000 x343001 x343002)) else (none)) else (none))) else (none))) else (none))) else (gaiterlaw02_FillPlays.j3 k x1 x5 x7 x8 x9 x10 x343000 x343001 x343002)
def gaiterlaw02_FillPlays.j3 : Nat → List (S75) → Bool → List Int → Int → Int → Int → List Int → Int → Int → Option (Bool)
 | 0, _, _, _, _, _, _, _, _, _ => none
 | k + 1, x1, x5, x7, x8, x9, x10, x343000, x343001, x343002 => (fill_Reader_Peek.f k x343000 x343001 x343002 x9).bind fun bt363 => (if bt363.1 = x10 then ((fill_Reader_Left.f bt363.2.1 bt363.2.2.1 bt363.2.2.2).bind fun bt367 => (if bt367.1 = (x7.length : Int) then (gaiterlaw02_FillPlays.l0 k x1 x5 x7 (wrap64 (x8 + 1)) bt367.2.1 bt367.2.2.1 bt367.2.2.2) else (some false))) else (some false))
def gaiterlaw02_FillPlays.j4 : Nat → List (S75) → Bool → List Int → Int → Int → Bool → List Int → Int → Int → Option (Bool)
 | 0, _, _, _, _, _, _, _, _, _ => none
 | k + 1, x1, x5, x7, x8, x9, x11, x343000, x343001, x343002 => (fill_Reader_Skip.f k x343000 x343001 x343002 x9).bind fun bt371 => (if (bt371.1 != x11) = true then (some false) else (if x11 = true then (if 0 ≤ x9 then (if x9 ≤ (x7.length : Int) then ((some (x7.drop (x9 : Int).toNat : List Int)).bind fun y375 => ((fill_Reader_Left.f bt371.2.1 bt371.2.2.1 bt371.2.2.2).bind fun bt378 => (if bt378.1 = (y375.length : Int) then (gaiterlaw02_FillPlays.l0 k x1 x5 y375 (wrap64 (x8 + 1)) bt378.2.1 bt378.2.2.1 bt378.2.2.2) else (some false)))) else (none)) else (none)) else ((fill_Reader_Left.f bt371.2.1 bt371.2.2.1 bt371.2.2.2).bind fun bt382 => (if bt382.1 = (x7.length : Int) then (gaiterlaw02_FillPlays.l0 k x1 x5 x7 (wrap64 (x8 + 1)) bt382.2.1 bt382.2.2.1 bt382.2.2.2) else (some false)))))
def gaiterlaw02_FillPlays.j5 : Nat → List (S75) → Bool → List Int → Int → Int → Int → Bool → Bool → List Int → Int → Int → Option (Bool)
 | 0, _, _, _, _, _, _, _, _, _, _, _ => none
 | k + 1, x1, x5, x7, x8, x9, x12, x13, x62, x343000, x343001, x343002 => if x62 = true then (if x12 = 0 then (gaiterlaw02_FillPlays.j6 k x1 x5 x7 x8 x13 x343000 x343001 x343002) else (gaiterlaw02_FillPlays.j6 k x1 x5 x7 x8 true x343000 x343001 x343002)) else (if 0 ≤ x9 then (if x9 ≤ (x7.length : Int) then ((gaiterref01_Number.f k (x7.take (x9 : Int).toNat)).bind fun t399 => (if x12 = t399 then (gaiterlaw02_FillPlays.j7 k x1 x5 x7 x8 x9 (!x13) x343000 x343001 x343002) else (gaiterlaw02_FillPlays.j7 k x1 x5 x7 x8 x9 true x343000 x343001 x343002))) else (none)) else (none))
def gaiterlaw02_FillPlays.j6 : Nat → List (S75) → Bool → List Int → Int → Bool → List Int → Int → Int → Option (Bool)
 | 0, _, _, _, _, _, _, _, _ => none
 | k + 1, x1, x5, x7, x8, x67, x343000, x343001, x343002 => if x67 = true then (some false) else ((fill_Reader_Left.f x343000 x343001 x343002).bind fun bt391 => (if bt391.1 = (x7.length : Int) then (gaiterlaw02_FillPlays.l0 k x1 x5 x7 (wrap64 (x8 + 1)) bt391.2.1 bt391.2.2.1 bt391.2.2.2) else (some false)))
def gaiterlaw02_FillPlays.j7 : Nat → List (S75) → Bool → List Int → Int → Int → Bool → List Int → Int → Int → Option (Bool)
 | 0, _, _, _, _, _, _, _, _, _ => none
 | k + 1, x1, x5, x7, x8, x9, x77, x343000, x343001, x343002 => if x77 = true then (some false) else (if 0 ≤ x9 then (if x9 ≤ (x7.length : Int) then ((some (x7.drop (x9 : Int).toNat : List Int)).bind fun y400 => ((fill_Reader_Left.f x343000 x343001 x343002).bind fun bt403 => (if bt403.1 = (y400.length : Int) then (gaiterlaw02_FillPlays.l0 k x1 x5 y400 (wrap64 (x8 + 1)) bt403.2.1 bt403.2.2.1 bt403.2.2.2) else (some false)))) else (none)) else (none))
end
def gaiterlaw02_FillPlays.f (k : Nat) (l0 : List Int) (l1 : List (S75)) : Option (Bool) := (gaiterlaw02_up.f k).bind fun t338 => (if (l0.length : Int) > 500 then (gaiterlaw02_FillPlays.j0 k l0 l1 t338 true) else (gaiterlaw02_FillPlays.j0 k l0 l1 t338 (decide ((l1.length : Int) > 100))))
theorem gaiterlaw02_FillPlays.mono_l : ∀ k, (∀ y0 y1 y2 y3, LeO (gaiterlaw02_FillPlays.j0 k y0 y1 y2 y3) (gaiterlaw02_FillPlays.j0 (k + 1) y0 y1 y2 y3)) ∧ (∀ y0 y1 y2 y3 y4 y5 y6, LeO (gaiterlaw02_FillPlays.l0 k y0 y1 y2 y3 y4 y5 y6) (gaiterlaw02_FillPlays.l0 (k + 1) y0 y1 y2 y3 y4 y5 y6)) ∧ (∀ y0 y1 y2 y3 y4 y5 y6 y7 y8 y9, LeO (gaiterlaw02_FillPlays.j2 k y0 y1 y2 y3 y4 y5 y6 y7 y8 y9) (gaiterlaw02_FillPlays.j2 (k + 1) y0 y1 y2 y3 y4 y5 y6 y7 y8 y9)) ∧ (∀ y0 y1 y2 y3 y4 y5 y6 y7 y8, LeO (gaiterlaw02_FillPlays.j3 k y0 y1 y2 y3 y4 y5 y6 y7 y8) (gaiterlaw02_FillPlays.j3 (k + 1) y0 y1 y2 y3 y4 y5 y6 y7 y8)) ∧ (∀ y0 y1 y2 y3 y4 y5 y6 y7 y8, LeO (gaiterlaw02_FillPlays.j4 k y0 y1 y2 y3 y4 y5 y6 y7 y8) (gaiterlaw02_FillPlays.j4 (k + 1) y0 y1 y2 y3 y4 y5 y6 y7 y8)) ∧ (∀ y0 y1 y2 y3 y4 y5 y6 y7 y8 y9 y10, LeO (gaiterlaw02_FillPlays.j5 k y0 y1 y2 y3 y4 y5 y6 y7 y8 y9 y10) (gaiterlaw02_FillPlays.j5 (k + 1) y0 y1 y2 y3 y4 y5 y6 y7 y8 y9 y10)) ∧ (∀ y0 y1 y2 y3 y4 y5 y6 y7, LeO (gaiterlaw02_FillPlays.j6 k y0 y1 y2 y3 y4 y5 y6 y7) (gaiterlaw02_FillPlays.j6 (k + 1) y0 y1 y2 y3 y4 y5 y6 y7)) ∧ (∀ y0 y1 y2 y3 y4 y5 y6 y7 y8, LeO (gaiterlaw02_FillPlays.j7 k y0 y1 y2 y3 y4 y5 y6 y7 y8) (gaiterlaw02_FillPlays.j7 (k + 1) y0 y1 y2 y3 y4 y5 y6 y7 y8))
 | 0 => ⟨fun _ _ _ _ r h => by simp [gaiterlaw02_FillPlays.j0] at h, fun _ _ _ _ _ _ _ r h => by simp [gaiterlaw02_FillPlays.l0] at h, fun _ _ _ _ _ _ _ _ _ _ r h => by simp [gaiterlaw02_FillPlays.j2] at h, fun _ _ _ _ _ _ _ _ _ r h => by simp [gaiterlaw02_FillPlays.j3] at h, fun _ _ _ _ _ _ _ _ _ r h => by simp [gaiterlaw02_FillPlays.j4] at h, fun _ _ _ _ _ _ _ _ _ _ _ r h => by simp [gaiterlaw02_FillPlays.j5] at h, fun _ _ _ _ _ _ _ _ r h => by simp [gaiterlaw02_FillPlays.j6] at h, fun _ _ _ _ _ _ _ _ _ r h => by simp [gaiterlaw02_FillPlays.j7] at h⟩
 | k + 1 => by
  obtain ⟨ih0, ih1, ih2, ih3, ih4, ih5, ih6, ih7⟩ := gaiterlaw02_FillPlays.mono_l k
  refine ⟨?_, ?_, ?_, ?_, ?_, ?_, ?_, ?_⟩
  ·intro y0 y1 y2 y3
   unfold gaiterlaw02_FillPlays.j0
   repeat' first
   | (with_reducible exact ih0 _ _ _ _)
   | (with_reducible exact ih1 _ _ _ _ _ _ _)
   | (with_reducible exact ih2 _ _ _ _ _ _ _ _ _ _)
   | (with_reducible exact ih3 _ _ _ _ _ _ _ _ _)
   | (with_reducible exact ih4 _ _ _ _ _ _ _ _ _)
   | (with_reducible exact ih5 _ _ _ _ _ _ _ _ _ _ _)
   | (with_reducible exact ih6 _ _ _ _ _ _ _ _)
   | (with_reducible exact ih7 _ _ _ _ _ _ _ _ _)
   | (with_reducible exact fill_Reader_Peek.mono _ _ _ _ _)
   | (with_reducible exact fill_Reader_Read.mono _ _ _ _ _)
   | (with_reducible exact fill_Reader_Skip.mono _ _ _ _ _)
   | (with_reducible exact gaiterlaw02_up.mono _)
   | (with_reducible exact gaiterref01_Flat.mono _ _)
   | (with_reducible exact gaiterref01_Number.mono _ _)
   | (with_reducible exact LeO.refl _)
   | (with_reducible exact LeO.none _)
   | (with_reducible refine LeO.ite ?_ ?_)
   | (with_reducible refine LeO.bind ?_ (fun _ => ?_))
   | exact ih0 _ _ _ _
   | exact ih1 _ _ _ _ _ _ _
   | exact ih2 _ _ _ _ _ _ _ _ _ _
   | exact ih3 _ _ _ _ _ _ _ _ _
   | exact ih4 _ _ _ _ _ _ _ _ _
   | exact ih5 _ _ _ _ _ _ _ _ _ _ _
   | exact ih6 _ _ _ _ _ _ _ _
   | exact ih7 _ _ _ _ _ _ _ _ _
   | exact fill_Reader_Peek.mono _ _ _ _ _
   | exact fill_Reader_Read.mono _ _ _ _ _
   | exact fill_Reader_Skip.mono _ _ _ _ _
   | exact gaiterlaw02_up.mono _
   | exact gaiterref01_Flat.mono _ _
   | exact gaiterref01_Number.mono _ _
   | exact LeO.none _
   | refine LeO.ite ?_ ?_
   | refine LeO.bind ?_ (fun _ => ?_)
  ·intro y0 y1 y2 y3 y4 y5 y6
   unfold gaiterlaw02_FillPlays.l0
   repeat' first
   | (with_reducible exact ih0 _ _ _ _)
   | (with_reducible exact ih1 _ _ _ _ _ _ _)
   | (with_reducible exact ih2 _ _ _ _ _ _ _ _ _ _)
   | (with_reducible exact ih3 _ _ _ _ _ _ _ _ _)
   | (with_reducible exact ih4 _ _ _ _ _ _ _ _ _)
   | (with_reducible exact ih5 _ _ _ _ _ _ _ _ _ _ _)
   | (with_reducible exact ih6 _ _ _ _ _ _ _ _)
   | (with_reducible exact ih7 _ _ _ _ _ _ _ _ _)
   | (with_reducible exact fill_Reader_Peek.mono _ _ _ _ _)
   | (with_reducible exact fill_Reader_Read.mono _ _ _ _ _)
   | (with_reducible exact fill_Reader_Skip.mono _ _ _ _ _)
   | (with_reducible exact gaiterlaw02_up.mono _)
   | (with_reducible exact gaiterref01_Flat.mono _ _)
   | (with_reducible exact gaiterref01_Number.mono _ _)
   | (with_reducible exact LeO.refl _)
   | (with_reducible exact LeO.none _)
   | (with_reducible refine LeO.ite ?_ ?_)
   | (with_reducible refine LeO.bind ?_ (fun _ => ?_))
   | exact ih0 _ _ _ _
   | exact ih1 _ _ _ _ _ _ _
   | exact ih2 _ _ _ _ _ _ _ _ _ _
   | exact ih3 _ _ _ _ _ _ _ _ _
   | exact ih4 _ _ _ _ _ _ _ _ _
   | exact ih5 _ _ _ _ _ _ _ _ _ _ _
   | exact ih6 _ _ _ _ _ _ _ _
   | exact ih7 _ _ _ _ _ _ _ _ _
   | exact fill_Reader_Peek.mono _ _ _ _ _
   | exact fill_Reader_Read.mono _ _ _ _ _
   | exact fill_Reader_Skip.mono _ _ _ _ _
   | exact gaiterlaw02_up.mono _
   | exact gaiterref01_Flat.mono _ _
   | exact gaiterref01_Number.mono _ _
   | exact LeO.none _
   | refine LeO.ite ?_ ?_
   | refine LeO.bind ?_ (fun _ => ?_)
  ·intro y0 y1 y2 y3 y4 y5 y6 y7 y8 y9
   unfold gaiterlaw02_FillPlays.j2
   repeat' first
   | (with_reducible exact ih0 _ _ _ _)
   | (with_reducible exact ih1 _ _ _ _ _ _ _)
   | (with_reducible exact ih2 _ _ _ _ _ _ _ _ _ _)
   | (with_reducible exact ih3 _ _ _ _ _ _ _ _ _)
   | (with_reducible exact ih4 _ _ _ _ _ _ _ _ _)
   | (with_reducible exact ih5 _ _ _ _ _ _ _ _ _ _ _)
   | (with_reducible exact ih6 _ _ _ _ _ _ _ _)
   | (with_reducible exact ih7 _ _ _ _ _ _ _ _ _)
   | (with_reducible exact fill_Reader_Peek.mono _ _ _ _ _)
   | (with_reducible exact fill_Reader_Read.mono _ _ _ _ _)
   | (with_reducible exact fill_Reader_Skip.mono _ _ _ _ _)
   | (with_reducible exact gaiterlaw02_up.mono _)
   | (with_reducible exact gaiterref01_Flat.mono _ _)
   | (with_reducible exact gaiterref01_Number.mono _ _)
   | (with_reducible exact LeO.refl _)
   | (with_reducible exact LeO.none _)
   | (with_reducible refine LeO.ite ?_ ?_)
   | (with_reducible refine LeO.bind ?_ (fun _ => ?_))
   | exact ih0 _ _ _ _
   | exact ih1 _ _ _ _ _ _ _
   | exact ih2 _ _ _ _ _ _ _ _ _ _
   | exact ih3 _ _ _ _ _ _ _ _ _
   | exact ih4 _ _ _ _ _ _ _ _ _
   | exact ih5 _ _ _ _ _ _ _ _ _ _ _
   | exact ih6 _ _ _ _ _ _ _ _
   | exact ih7 _ _ _ _ _ _ _ _ _
   | exact fill_Reader_Peek.mono _ _ _ _ _
   | exact fill_Reader_Read.mono _ _ _ _ _
   | exact fill_Reader_Skip.mono _ _ _ _ _
   | exact gaiterlaw02_up.mono _
   | exact gaiterref01_Flat.mono _ _
   | exact gaiterref01_Number.mono _ _
   | exact LeO.none _
   | refine LeO.ite ?_ ?_
   | refine LeO.bind ?_ (fun _ => ?_)
  ·intro y0 y1 y2 y3 y4 y5 y6 y7 y8
   unfold gaiterlaw02_FillPlays.j3
   repeat' first
   | (with_reducible exact ih0 _ _ _ _)
   | (with_reducible exact ih1 _ _ _ _ _ _ _)
   | (with_reducible exact ih2 _ _ _ _ _ _ _ _ _ _)
   | (with_reducible exact ih3 _ _ _ _ _ _ _ _ _)
   | (with_reducible exact ih4 _ _ _ _ _ _ _ _ _)
   | (with_reducible exact ih5 _ _ _ _ _ _ _ _ _ _ _)
   | (with_reducible exact ih6 _ _ _ _ _ _ _ _)
   | (with_reducible exact ih7 _ _ _ _ _ _ _ _ _)
   | (with_reducible exact fill_Reader_Peek.mono _ _ _ _ _)
   | (with_reducible exact fill_Reader_Read.mono _ _ _ _ _)
   | (with_reducible exact fill_Reader_Skip.mono _ _ _ _ _)
   | (with_reducible exact gaiterlaw02_up.mono _)
   | (with_reducible exact gaiterref01_Flat.mono _ _)
   | (with_reducible exact gaiterref01_Number.mono _ _)
   | (with_reducible exact LeO.refl _)
   | (with_reducible exact LeO.none _)
   | (with_reducible refine LeO.ite ?_ ?_)
   | (with_reducible refine LeO.bind ?_ (fun _ => ?_))
   | exact ih0 _ _ _ _
   | exact ih1 _ _ _ _ _ _ _
   | exact ih2 _ _ _ _ _ _ _ _ _ _
   | exact ih3 _ _ _ _ _ _ _ _ _
   | exact ih4 _ _ _ _ _ _ _ _ _
   | exact ih5 _ _ _ _ _ _ _ _ _ _ _
   | exact ih6 _ _ _ _ _ _ _ _
   | exact ih7 _ _ _ _ _ _ _ _ _
   | exact fill_Reader_Peek.mono _ _ _ _ _
   | exact fill_Reader_Read.mono _ _ _ _ _
   | exact fill_Reader_Skip.mono _ _ _ _ _
   | exact gaiterlaw02_up.mono _
   | exact gaiterref01_Flat.mono _ _
   | exact gaiterref01_Number.mono _ _
   | exact LeO.none _
   | refine LeO.ite ?_ ?_
   | refine LeO.bind ?_ (fun _ => ?_)
  ·intro y0 y1 y2 y3 y4 y5 y6 y7 y8
   unfold gaiterlaw02_FillPlays.j4
   repeat' first
   | (with_reducible exact ih0 _ _ _ _)
   | (with_reducible exact ih1 _ _ _ _ _ _ _)
   | (with_reducible exact ih2 _ _ _ _ _ _ _ _ _ _)
   | (with_reducible exact ih3 _ _ _ _ _ _ _ _ _)
   | (with_reducible exact ih4 _ _ _ _ _ _ _ _ _)
   | (with_reducible exact ih5 _ _ _ _ _ _ _ _ _ _ _)
   | (with_reducible exact ih6 _ _ _ _ _ _ _ _)
   | (with_reducible exact ih7 _ _ _ _ _ _ _ _ _)
   | (with_reducible exact fill_Reader_Peek.mono _ _ _ _ _)
   | (with_reducible exact fill_Reader_Read.mono _ _ _ _ _)
   | (with_reducible exact fill_Reader_Skip.mono _ _ _ _ _)
   | (with_reducible exact gaiterlaw02_up.mono _)
   | (with_reducible exact gaiterref01_Flat.mono _ _)
   | (with_reducible exact gaiterref01_Number.mono _ _)
   | (with_reducible exact LeO.refl _)
   | (with_reducible exact LeO.none _)
   | (with_reducible refine LeO.ite ?_ ?_)
   | (with_reducible refine LeO.bind ?_ (fun _ => ?_))
   | exact ih0 _ _ _ _
   | exact ih1 _ _ _ _ _ _ _
   | exact ih2 _ _ _ _ _ _ _ _ _ _
   | exact ih3 _ _ _ _ _ _ _ _ _
   | exact ih4 _ _ _ _ _ _ _ _ _
   | exact ih5 _ _ _ _ _ _ _ _ _ _ _
   | exact ih6 _ _ _ _ _ _ _ _
   | exact ih7 _ _ _ _ _ _ _ _ _
   | exact fill_Reader_Peek.mono _ _ _ _ _
   | exact fill_Reader_Read.mono _ _ _ _ _
   | exact fill_Reader_Skip.mono _ _ _ _ _
   | exact gaiterlaw02_up.mono _
   | exact gaiterref01_Flat.mono _ _
   | exact gaiterref01_Number.mono _ _
   | exact LeO.none _
   | refine LeO.ite ?_ ?_
   | refine LeO.bind ?_ (fun _ => ?_)
  ·intro y0 y1 y2 y3 y4 y5 y6 y7 y8 y9 y10
   unfold gaiterlaw02_FillPlays.j5
   repeat' first
   | (with_reducible exact ih0 _ _ _ _)
   | (with_reducible exact ih1 _ _ _ _ _ _ _)
   | (with_reducible exact ih2 _ _ _ _ _ _ _ _ _ _)
   | (with_reducible exact ih3 _ _ _ _ _ _ _ _ _)
   | (with_reducible exact ih4 _ _ _ _ _ _ _ _ _)
   | (with_reducible exact ih5 _ _ _ _ _ _ _ _ _ _ _)
   | (with_reducible exact ih6 _ _ _ _ _ _ _ _)
   | (with_reducible exact ih7 _ _ _ _ _ _ _ _ _)
   | (with_reducible exact fill_Reader_Peek.mono _ _ _ _ _)
   | (with_reducible exact fill_Reader_Read.mono _ _ _ _ _)
   | (with_reducible exact fill_Reader_Skip.mono _ _ _ _ _)
   | (with_reducible exact gaiterlaw02_up.mono _)
   | (with_reducible exact gaiterref01_Flat.mono _ _)
   | (with_reducible exact gaiterref01_Number.mono _ _)
   | (with_reducible exact LeO.refl _)
   | (with_reducible exact LeO.none _)
   | (with_reducible refine LeO.ite ?_ ?_)
   | (with_reducible refine LeO.bind ?_ (fun _ => ?_))
   | exact ih0 _ _ _ _
   | exact ih1 _ _ _ _ _ _ _
   | exact ih2 _ _ _ _ _ _ _ _ _ _
   | exact ih3 _ _ _ _ _ _ _ _ _
   | exact ih4 _ _ _ _ _ _ _ _ _
   | exact ih5 _ _ _ _ _ _ _ _ _ _ _
   | exact ih6 _ _ _ _ _ _ _ _
   | exact ih7 _ _ _ _ _ _ _ _ _
   | exact fill_Reader_Peek.mono _ _ _ _ _
   | exact fill_Reader_Read.mono _ _ _ _ _
   | exact fill_Reader_Skip.mono _ _ _ _ _
   | exact gaiterlaw02_up.mono _
   | exact gaiterref01_Flat.mono _ _
   | exact gaiterref01_Number.mono _ _
   | exact LeO.none _
   | refine LeO.ite ?_ ?_
   | refine LeO.bind ?_ (fun _ => ?_)
  ·intro y0 y1 y2 y3 y4 y5 y6 y7
   unfold gaiterlaw02_FillPlays.j6
   repeat' first
   | (with_reducible exact ih0 _ _ _ _)
   | (with_reducible exact ih1 _ _ _ _ _ _ _)
   | (with_reducible exact ih2 _ _ _ _ _ _ _ _ _ _)
   | (with_reducible exact ih3 _ _ _ _ _ _ _ _ _)
   | (with_reducible exact ih4 _ _ _ _ _ _ _ _ _)
   | (with_reducible exact ih5 _ _ _ _ _ _ _ _ _ _ _)
   | (with_reducible exact ih6 _ _ _ _ _ _ _ _)
   | (with_reducible exact ih7 _ _ _ _ _ _ _ _ _)
   | (with_reducible exact fill_Reader_Peek.mono _ _ _ _ _)
   | (with_reducible exact fill_Reader_Read.mono _ _ _ _ _)
   | (with_reducible exact fill_Reader_Skip.mono _ _ _ _ _)
   | (with_reducible exact gaiterlaw02_up.mono _)
   | (with_reducible exact gaiterref01_Flat.mono _ _)
   | (with_reducible exact gaiterref01_Number.mono _ _)
   | (with_reducible exact LeO.refl _)
   | (with_reducible exact LeO.none _)
   | (with_reducible refine LeO.ite ?_ ?_)
   | (with_reducible refine LeO.bind ?_ (fun _ => ?_))
   | exact ih0 _ _ _ _
   | exact ih1 _ _ _ _ _ _ _
   | exact ih2 _ _ _ _ _ _ _ _ _ _
   | exact ih3 _ _ _ _ _ _ _ _ _
   | exact ih4 _ _ _ _ _ _ _ _ _
   | exact ih5 _ _ _ _ _ _ _ _ _ _ _
   | exact ih6 _ _ _ _ _ _ _ _
   | exact ih7 _ _ _ _ _ _ _ _ _
   | exact fill_Reader_Peek.mono _ _ _ _ _
   | exact fill_Reader_Read.mono _ _ _ _ _
   | exact fill_Reader_Skip.mono _ _ _ _ _
   | exact gaiterlaw02_up.mono _
   | exact gaiterref01_Flat.mono _ _
   | exact gaiterref01_Number.mono _ _
   | exact LeO.none _
   | refine LeO.ite ?_ ?_
   | refine LeO.bind ?_ (fun _ => ?_)
  ·intro y0 y1 y2 y3 y4 y5 y6 y7 y8
   unfold gaiterlaw02_FillPlays.j7
   repeat' first
   | (with_reducible exact ih0 _ _ _ _)
   | (with_reducible exact ih1 _ _ _ _ _ _ _)
   | (with_reducible exact ih2 _ _ _ _ _ _ _ _ _ _)
   | (with_reducible exact ih3 _ _ _ _ _ _ _ _ _)
   | (with_reducible exact ih4 _ _ _ _ _ _ _ _ _)
   | (with_reducible exact ih5 _ _ _ _ _ _ _ _ _ _ _)
   | (with_reducible exact ih6 _ _ _ _ _ _ _ _)
   | (with_reducible exact ih7 _ _ _ _ _ _ _ _ _)
   | (with_reducible exact fill_Reader_Peek.mono _ _ _ _ _)
   | (with_reducible exact fill_Reader_Read.mono _ _ _ _ _)
   | (with_reducible exact fill_Reader_Skip.mono _ _ _ _ _)
   | (with_reducible exact gaiterlaw02_up.mono _)
   | (with_reducible exact gaiterref01_Flat.mono _ _)
   | (with_reducible exact gaiterref01_Number.mono _ _)
   | (with_reducible exact LeO.refl _)
   | (with_reducible exact LeO.none _)
   | (with_reducible refine LeO.ite ?_ ?_)
   | (with_reducible refine LeO.bind ?_ (fun _ => ?_))
   | exact ih0 _ _ _ _
   | exact ih1 _ _ _ _ _ _ _
   | exact ih2 _ _ _ _ _ _ _ _ _ _
   | exact ih3 _ _ _ _ _ _ _ _ _
   | exact ih4 _ _ _ _ _ _ _ _ _
   | exact ih5 _ _ _ _ _ _ _ _ _ _ _
   | exact ih6 _ _ _ _ _ _ _ _
   | exact ih7 _ _ _ _ _ _ _ _ _
   | exact fill_Reader_Peek.mono _ _ _ _ _
   | exact fill_Reader_Read.mono _ _ _ _ _
   | exact fill_Reader_Skip.mono _ _ _ _ _
   | exact gaiterlaw02_up.mono _
   | exact gaiterref01_Flat.mono _ _
   | exact gaiterref01_Number.mono _ _
   | exact LeO.none _
   | refine LeO.ite ?_ ?_
   | refine LeO.bind ?_ (fun _ => ?_)
theorem gaiterlaw02_FillPlays.mono : ∀ a0 a1 k, LeO (gaiterlaw02_FillPlays.f k a0 a1) (gaiterlaw02_FillPlays.f (k + 1) a0 a1) := by
 intro a0 a1 k
 obtain ⟨ih0, ih1, ih2, ih3, ih4, ih5, ih6, ih7⟩ := gaiterlaw02_FillPlays.mono_l k
 unfold gaiterlaw02_FillPlays.f
 repeat' first
   | (with_reducible exact ih0 _ _ _ _)
   | (with_reducible exact ih1 _ _ _ _ _ _ _)
   | (with_reducible exact ih2 _ _ _ _ _ _ _ _ _ _)
   | (with_reducible exact ih3 _ _ _ _ _ _ _ _ _)
   | (with_reducible exact ih4 _ _ _ _ _ _ _ _ _)
   | (with_reducible exact ih5 _ _ _ _ _ _ _ _ _ _ _)
   | (with_reducible exact ih6 _ _ _ _ _ _ _ _)
   | (with_reducible exact ih7 _ _ _ _ _ _ _ _ _)
   | (with_reducible exact fill_Reader_Peek.mono _ _ _ _ _)
   | (with_reducible exact fill_Reader_Read.mono _ _ _ _ _)
   | (with_reducible exact fill_Reader_Skip.mono _ _ _ _ _)
   | (with_reducible exact gaiterlaw02_up.mono _)
   | (with_reducible exact gaiterref01_Flat.mono _ _)
   | (with_reducible exact gaiterref01_Number.mono _ _)
   | (with_reducible exact LeO.refl _)
   | (with_reducible exact LeO.none _)
   | (with_reducible refine LeO.ite ?_ ?_)
   | (with_reducible refine LeO.bind ?_ (fun _ => ?_))
   | exact ih0 _ _ _ _
   | exact ih1 _ _ _ _ _ _ _
   | exact ih2 _ _ _ _ _ _ _ _ _ _
   | exact ih3 _ _ _ _ _ _ _ _ _
   | exact ih4 _ _ _ _ _ _ _ _ _
   | exact ih5 _ _ _ _ _ _ _ _ _ _ _
   | exact ih6 _ _ _ _ _ _ _ _
   | exact ih7 _ _ _ _ _ _ _ _ _
   | exact fill_Reader_Peek.mono _ _ _ _ _
   | exact fill_Reader_Read.mono _ _ _ _ _
   | exact fill_Reader_Skip.mono _ _ _ _ _
   | exact gaiterlaw02_up.mono _
   | exact gaiterref01_Flat.mono _ _
   | exact gaiterref01_Number.mono _ _
   | exact LeO.none _
   | refine LeO.ite ?_ ?_
   | refine LeO.bind ?_ (fun _ => ?_)
set_option maxHeartbeats 8000000 in
set_option maxRecDepth 100000 in
theorem gaiterlaw02_FillPlays.calls (k : Nat) (A0 : Option Addr) (c0 : Nat) (l0 : List Int) (A1 : Option Addr) (c1 : Nat) (l1 : List (S75)) (r : Bool) (w : World) (hr0 : Kd.C (Kd.int .u8) w A0 l0.length l0) (hc0 : l0.length ≤ c0) (hr1 : Kd.C k75 w A1 l1.length l1) (hc1 : l1.length ≤ c1) (h : gaiterlaw02_FillPlays.f k l0 l1 = some r) :
  Calls Try.prog 11 #[.slice A0 l0.length c0, .slice A1 l1.length c1] w fun e w' => e = .returned (.bool r) ∧ Below w.heap.size w w' := by
 have HR0 := Aside0.mk hr0
 have HC0 := Aside0.mk hc0
 clear hr0 hc0
 have HR1 := Aside0.mk hr1
 have HC1 := Aside0.mk hc1
 clear hr1 hc1
 have HB := Aside0.mk (Below.refl w.heap.size w)
 have H : ((gaiterlaw02_up.f k).bind fun t338 => (if (l0.length : Int) > 500 then (gaiterlaw02_FillPlays.j0 k l0 l1 t338 true) else (gaiterlaw02_FillPlays.j0 k l0 l1 t338 (decide ((l1.length : Int) > 100))))) = some r := h
 clear h
 replace H := Option.bind_eq_some_iff.mp H
 obtain ⟨t338, A30, H⟩ := H
 replace H : (if (l0.length : Int) > 500 then (gaiterlaw02_FillPlays.j0 k l0 l1 t338 true) else (gaiterlaw02_FillPlays.j0 k l0 l1 t338 (decide ((l1.length : Int) > 100)))) = some r := H
 have A3 := Aside0.mk A30
 clear A30
 have HC4 := Aside0.mk H
 clear H
 go_enter Try.func11, Try.ntmps11
 go_upto_region 2 with (first | ((with_reducible refine gate_callee (f := 42) rfl ?_); refine goesL_ (some 14) rfl rfl Try.func42 (by kernel_rfl) rfl #[] rfl (by (try simp only [List.map_toArray, List.map_cons, List.map_nil]); first | done | rfl | (simp only [List.length_drop, List.length_take]; rfl)) ?_; (with_reducible refine (gaiterlaw02_up.calls k  t338 _ A3.out).mono ?_); rintro e w5 ⟨rfl, hb⟩; refine ⟨_, rfl, ?_⟩; have n0_ := Aside0.mk (below_step (by repeat (first | (with_reducible first | exact HB.out | apply below_alloc | apply pw_below_drewN | apply below_drew1) | exact HB.out)) hb); clear HB; have HB := n0_; clear n0_; (try clear hb); (try clear hb2); (try clear hk); (try clear hi)))
 (try simp only [Act.put, List.setIfInBounds_toArray, List.set_cons_zero, List.set_cons_succ])
 go_cut [22] (fun v22 wc => ∃ (kq : Nat) (x22_3 : Bool), v22 = .bool x22_3 ∧ Aside0 (gaiterlaw02_FillPlays.j0 kq l0 l1 t338 x22_3 = some r) ∧ Aside0 (kq ≤ k) ∧ Aside0 (Below w.heap.size w wc))
 case first =>
  have H := HC4.out
  clear HC4
  by_cases c6 : (l0.length : Int) > 500
  ·rw [if_pos c6] at H
   have c6b0 : decide (500 < (l0.length : Int)) = true := decide_eq_true c6
   have c6b1 : decide (500 < l0.length) = true := decide_eq_true (by omega)
   clear c6
   (first | rw [c6b0] | (simp only [i64_w, i32_w]; rw [c6b0]) | skip)
   have H' := Aside0.mk H
   clear H
   go_wp2
   go_meet
   case rel => exact ⟨_, (true), (by first | rfl | (simp; done) | (simp [*]; done)), H', ⟨by first | omega | exact Nat.le_refl _⟩, ⟨by repeat (first | (with_reducible first | exact HB.out | apply below_alloc | apply pw_below_drewN | apply below_drew1) | exact HB.out)⟩⟩
  ·rw [if_neg c6] at H
   have c6b0 : decide (500 < (l0.length : Int)) = false := decide_eq_false c6
   have c6b1 : decide (500 < l0.length) = false := decide_eq_false (by omega)
   clear c6
   (first | rw [c6b0] | (simp only [i64_w, i32_w]; rw [c6b0]) | skip)
   have H' := Aside0.mk H
   clear H
   go_wp2
   go_meet
   case rel => exact ⟨_, (decide ((l1.length : Int) > 100)), (by first | rfl | (simp; done) | (simp [*]; done)), H', ⟨by first | omega | exact Nat.le_refl _⟩, ⟨by repeat (first | (with_reducible first | exact HB.out | apply below_alloc | apply pw_below_drewN | apply below_drew1) | exact HB.out)⟩⟩
 case rest =>
  clear HC4
  try clear c1
  try clear p2
  try clear c4
  try clear c6
  try clear c6b0
  try clear c6b1
  obtain ⟨kq, x22_3, rfl, HA, HJ3, HB⟩ := hcut
  cases kq with
  | zero => exact absurd HA.out (by simp [gaiterlaw02_FillPlays.j0])
  | succ kj3 =>
   have H := HA.out
   clear HA
   simp only [gaiterlaw02_FillPlays.j0] at H
   by_cases c7 : x22_3 = true
   ·subst c7
    have H1 : (some t338) = some r := by rw [if_pos rfl] at H; exact H
    clear H
    have H := H1
    clear H1
    obtain rfl := Option.some.inj H
    go_wp2
    go_ret
    exact ⟨by first | rfl | (simp [errW_none, errW_some] <;> rfl) | (simp [*, errW_none, errW_some] <;> rfl), by repeat (first | (with_reducible first | exact HB.out | apply below_alloc | apply pw_below_drewN | apply below_drew1) | exact HB.out)⟩
   ·replace c7 := Bool.eq_false_iff.mpr c7
    subst c7
    have H1 : ((fill_New.f l0).bind fun bt339 => ((gaiterref01_Flat.f kj3 l0).bind fun t343 => (gaiterlaw02_FillPlays.l0 kj3 l1 t338 t343 0 bt339.1 bt339.2.1 bt339.2.2))) = some r := by rw [if_neg (show ¬ (false = true) by decide)] at H; exact H
    clear H
    have H := H1
    clear H1
    replace H := Option.bind_eq_some_iff.mp H
    obtain ⟨⟨t339, t340, t341⟩, A80, H⟩ := H
    replace H : ((gaiterref01_Flat.f kj3 l0).bind fun t343 => (gaiterlaw02_FillPlays.l0 kj3 l1 t338 t343 0 t339 t340 t341)) = some r := H
    have A8 := Aside0.mk A80
    clear A80
    replace H := Option.bind_eq_some_iff.mp H
    obtain ⟨t343, A90, H⟩ := H
    replace H : (gaiterlaw02_FillPlays.l0 kj3 l1 t338 t343 0 t339 t340 t341) = some r := H
    have A9 := Aside0.mk A90
    clear A90
    have H' := Aside0.mk H
    clear H
    go_wp2_with (first | ((with_reducible refine gate_callee (f := 43) rfl ?_); refine goesL_ (some 25) rfl rfl Try.func43 (by kernel_rfl) rfl #[.slice A0 l0.length c0] rfl (by (try simp only [List.map_toArray, List.map_cons, List.map_nil]); first | done | rfl | (simp only [List.length_drop, List.length_take]; rfl)) ?_; (with_reducible refine (fill_New.calls _ _ l0 t339 t340 t341 w _ ?side1 ?side2 ?side3 A8.out).mono ?_); (case side1 => repeat (first | (with_reducible first | exact HB.out | apply below_alloc | apply pw_below_drewN | apply below_drew1) | exact HB.out)); (case side2 => exact HR0.out); (case side3 => exact HC0.out); rintro e w10 ⟨g342, rfl, hi, hb, hb2⟩; refine ⟨_, rfl, ?_⟩; have n0_ := Aside0.mk (hb); have n1_ := Aside0.mk (hi); clear HB; have HB := n0_; have HI342 := n1_; clear n0_ n1_; (try clear hb); (try clear hb2); (try clear hk); (try clear hi)) | ((with_reducible refine gate_callee (f := 44) rfl ?_); refine goesL_ (some 27) rfl rfl Try.func44 (by kernel_rfl) rfl #[.slice A0 l0.length c0] rfl (by (try simp only [List.map_toArray, List.map_cons, List.map_nil]); first | done | rfl | (simp only [List.length_drop, List.length_take]; rfl)) ?_; (with_reducible refine (gaiterref01_Flat.calls kj3 _ _ l0 t343 _ ?side1 ?side2 A9.out).mono ?_); (case side1 => repeat (first | exact (Kd.C_below HR0.out HB.out) | (with_reducible refine Kd.C_alloc ?_ _) | (with_reducible refine Kd.C_drewN ?_ _) | (with_reducible refine Kd.C_drew ?_))); (case side2 => exact HC0.out); rintro e w11 ⟨v344, rfl, ho0, hb⟩; refine ⟨_, rfl, ?_⟩; have n0_ := Aside0.mk (Kd.R_lower ho0 (below_size (by repeat (first | (with_reducible first | exact HB.out | apply below_alloc | apply pw_below_drewN | apply below_drew1 | refine below_set ?_ (IsS95.ge HI342.out)) | exact HB.out)))); have n1_ := Aside0.mk (IsS95.below (by repeat (first | (with_reducible first | exact HI342.out | apply IsS95.alloc | apply IsS95.drewN | apply IsS95.drew | apply IsS95.set_1 | apply IsS95.set_2) | exact HI342.out)) hb); have n2_ := Aside0.mk (below_step (by repeat (first | (with_reducible first | exact HB.out | apply below_alloc | apply pw_below_drewN | apply below_drew1 | refine below_set ?_ (IsS95.ge HI342.out)) | exact HB.out)) hb); clear HI342; clear HB; have HO345 := n0_; have HI342 := n1_; have HB := n2_; clear n0_ n1_ n2_; (try clear hb); (try clear hb2); (try clear hk); (try clear hi); (try clear ho0)))
    go_loopg [7, 8] kj3 (fun kq v7 v8 w' => ∃ (x7_2 : List Int) (x8_2 : Int) (x343000_2 : List Int) (x343001_2 : Int) (x343002_2 : Int), v8 = .int .i64 x8_2 ∧ Aside0 (gaiterlaw02_FillPlays.l0 kq l1 t338 x7_2 x8_2 x343000_2 x343001_2 x343002_2 = some r) ∧ Aside0 (kq ≤ kj3) ∧ Aside0 (Kd.Q (Kd.int .u8) 5 w' w.heap.size (fun _ => True) v7 x7_2) ∧ Aside0 (IsS95 w w' g342 x343000_2 x343001_2 x343002_2) ∧ Aside0 (Below w.heap.size w w'))
    case atStart => exact ⟨(t343), (0), (t339), (t340), (t341), (by first | rfl | (simp; done) | (simp [*]; done)), H', ⟨Nat.le_refl _⟩, ⟨Kd.Q_of_R (by (with_reducible repeat (first | apply Kd.R_alloc | apply Kd.R_drewN | apply Kd.R_drew)); exact HO345.out)⟩, ⟨by repeat (first | (with_reducible first | exact HI342.out | apply IsS95.alloc | apply IsS95.drewN | apply IsS95.drew | apply IsS95.set_1 | apply IsS95.set_2) | exact HI342.out)⟩, ⟨by repeat (first | (with_reducible first | exact HB.out | apply below_alloc | apply pw_below_drewN | apply below_drew1 | refine below_set ?_ (IsS95.ge HI342.out)) | exact HB.out)⟩⟩
    case round =>
     clear H'
     try clear c1
     try clear p2
     try clear c4
     try clear c6
     try clear c6b0
     try clear c6b1
     try clear c7
     try clear c11
     try clear p2
     obtain ⟨x7_2, x8_2, x343000_2, x343001_2, x343002_2, rfl, HA, HK2, HO_7, HI342, HB⟩ := hrel
     cases gk with
     | zero => exact absurd HA.out (by simp [gaiterlaw02_FillPlays.l0])
     | succ k2 =>
      have H := HA.out
      clear HA
      simp only [gaiterlaw02_FillPlays.l0] at H
      by_cases c12 : x8_2 < (l1.length : Int)
      ·rw [if_pos c12] at H
       have c12b0 : decide (x8_2 < (l1.length : Int)) = true := decide_eq_true c12
       clear c12
       by_cases c13 : 0 ≤ x8_2
       ·rw [if_pos c13] at H
        have c13b0 : decide (0 ≤ x8_2) = true := decide_eq_true c13
        clear c13
        replace H := Option.bind_eq_some_iff.mp H
        obtain ⟨t348, A140, H⟩ := H
        replace H : (if t348 = 0 then (if ((rd_T75 l1 x8_2).f1) ≥ 0 then (gaiterlaw02_FillPlays.j2 k2 l1 t338 x7_2 x8_2 ((rd_T75 l1 x8_2).f1) 0 (decide (((rd_T75 l1 x8_2).f1) ≤ 56)) x343000_2 x343001_2 x343002_2) else (gaiterlaw02_FillPlays.j2 k2 l1 t338 x7_2 x8_2 ((rd_T75 l1 x8_2).f1) 0 false x343000_2 x343001_2 x343002_2)) else (if t348 = 1 then (if ((rd_T75 l1 x8_2).f1) ≥ 0 then (gaiterlaw02_FillPlays.j4 k2 l1 t338 x7_2 x8_2 ((rd_T75 l1 x8_2).f1) (decide (((rd_T75 l1 x8_2).f1) ≤ (x7_2.length : Int))) x343000_2 x343001_2 x343002_2) else (gaiterlaw02_FillPlays.j4 k2 l1 t338 x7_2 x8_2 ((rd_T75 l1 x8_2).f1) false x343000_2 x343001_2 x343002_2)) else ((fill_Reader_Read.f k2 x343000_2 x343001_2 x343002_2 ((rd_T75 l1 x8_2).f1)).bind fun bt386 => (if ((rd_T75 l1 x8_2).f1) < 0 then (gaiterlaw02_FillPlays.j5 k2 l1 t338 x7_2 x8_2 ((rd_T75 l1 x8_2).f1) bt386.1 bt386.2.1 true bt386.2.2.1 bt386.2.2.2.1 bt386.2.2.2.2) else (if ((rd_T75 l1 x8_2).f1) > 64 then (gaiterlaw02_FillPlays.j5 k2 l1 t338 x7_2 x8_2 ((rd_T75 l1 x8_2).f1) bt386.1 bt386.2.1 true bt386.2.2.1 bt386.2.2.2.1 bt386.2.2.2.2) else (gaiterlaw02_FillPlays.j5 k2 l1 t338 x7_2 x8_2 ((rd_T75 l1 x8_2).f1) bt386.1 bt386.2.1 (decide (((rd_T75 l1 x8_2).f1) > (x7_2.length : Int))) bt386.2.2.1 bt386.2.2.2.1 bt386.2.2.2.2)))))) = some r := H
        have A14 := Aside0.mk A140
        clear A140
        by_cases c15 : t348 = 0
        ·rw [if_pos c15] at H
         have c15b0 : (t348 == 0) = true := beq_iff_eq.mpr c15
         have c15b1 : (t348 != 0) = false := bne_eq_false_iff_eq.mpr c15
         clear c15
         have HC16 := Aside0.mk H
         clear H
         have p346 : 0 ≤ (x8_2 : Int) := of_decide_eq_true (by first | (with_reducible assumption) | assumption)
         have q346 : x8_2 < (l1.length : Int) := of_decide_eq_true (by first | (with_reducible assumption) | assumption)
         obtain ⟨ad346, e346, hx346_0, hx346_1⟩ := at_T75 HR1.out x8_2 p346 q346
         cases e346
         replace hx346_0 := (HB.out.cell (World.block_lt_of_cell? w _ hx346_0)).trans hx346_0
         replace hx346_1 := (HB.out.cell (World.block_lt_of_cell? w _ hx346_1)).trans hx346_1
         replace p346 := eq_true p346
         (try (have q346s := q346; simp only [List.length_drop, List.length_take] at q346s; replace q346s := eq_true q346s)); replace q346 := eq_true q346
         have p347 : 0 ≤ (x8_2 : Int) := of_decide_eq_true (by first | (with_reducible assumption) | assumption)
         have q347 : x8_2 < (l1.length : Int) := of_decide_eq_true (by first | (with_reducible assumption) | assumption)
         obtain ⟨ad347, e347, hx347_0, hx347_1⟩ := at_T75 HR1.out x8_2 p347 q347
         obtain rfl : ad346 = ad347 := (by injection e347)
         replace hx347_0 := (HB.out.cell (World.block_lt_of_cell? w _ hx347_0)).trans hx347_0
         replace hx347_1 := (HB.out.cell (World.block_lt_of_cell? w _ hx347_1)).trans hx347_1
         replace p347 := eq_true p347
         (try (have q347s := q347; simp only [List.length_drop, List.length_take] at q347s; replace q347s := eq_true q347s)); replace q347 := eq_true q347
         go_upto_region 20 with (first | ((with_reducible refine gate_callee (f := 29) rfl ?_); refine goesL_ (some 44) rfl rfl Try.func29 (by kernel_rfl) rfl #[.int .i64 ((rd_T75 l1 x8_2).f0), .int .i64 4] rfl (by (try simp only [List.map_toArray, List.map_cons, List.map_nil]); first | done | rfl | (simp only [List.length_drop, List.length_take]; rfl)) ?_; (with_reducible refine (gaiterlaw00_Pick.calls ((rd_T75 l1 x8_2).f0) 4 t348 _ A14.out).mono ?_); rintro e w' ⟨rfl, ⟨nd, rfl⟩⟩; refine ⟨_, rfl, ?_⟩))
         (try simp only [Act.put, List.setIfInBounds_toArray, List.set_cons_zero, List.set_cons_succ])
         go_cut [88] (fun v88 wc => ∃ (kq : Nat) (x88_15 : Bool), v88 = .bool x88_15 ∧ Aside0 (gaiterlaw02_FillPlays.j2 kq l1 t338 x7_2 x8_2 ((rd_T75 l1 x8_2).f1) 0 x88_15 x343000_2 x343001_2 x343002_2 = some r) ∧ Aside0 (kq ≤ k2) ∧ Aside0 (Kd.Q (Kd.int .u8) 5 wc w.heap.size (fun _ => True) u7 x7_2) ∧ Aside0 (IsS95 w wc g342 x343000_2 x343001_2 x343002_2) ∧ Aside0 (Below w.heap.size w wc))
         case first =>
          have H := HC16.out
          clear HC16
          by_cases c17 : ((rd_T75 l1 x8_2).f1) ≥ 0
          ·rw [if_pos c17] at H
           have c17b0 : decide (0 ≤ ((rd_T75 l1 x8_2).f1)) = true := decide_eq_true c17
           clear c17
           (first | rw [c17b0] | (simp only [i64_w, i32_w]; rw [c17b0]) | skip)
           have H' := Aside0.mk H
           clear H
           go_wp2
           go_meet
           case rel => exact ⟨_, (decide (((rd_T75 l1 x8_2).f1) ≤ 56)), (by first | rfl | (simp; done) | (simp [*]; done)), H', ⟨by have := HJ3.out; have := HK2.out; first | omega | exact Nat.le_refl _⟩, ⟨by (with_reducible repeat (first | apply Kd.Q_alloc | apply Kd.Q_drewN | apply Kd.Q_drew)); exact HO_7.out⟩, ⟨by repeat (first | (with_reducible first | exact HI342.out | apply IsS95.alloc | apply IsS95.drewN | apply IsS95.drew | apply IsS95.set_1 | apply IsS95.set_2) | exact HI342.out)⟩, ⟨by repeat (first | (with_reducible first | exact HB.out | apply below_alloc | apply pw_below_drewN | apply below_drew1 | refine below_set ?_ (IsS95.ge HI342.out)) | exact HB.out)⟩⟩
          ·rw [if_neg c17] at H
           have c17b0 : decide (0 ≤ ((rd_T75 l1 x8_2).f1)) = false := decide_eq_false c17
           clear c17
           (first | rw [c17b0] | (simp only [i64_w, i32_w]; rw [c17b0]) | skip)
           have H' := Aside0.mk H
           clear H
           go_wp2
           go_meet
           case rel => exact ⟨_, (false), (by first | rfl | (simp; done) | (simp [*]; done)), H', ⟨by have := HJ3.out; have := HK2.out; first | omega | exact Nat.le_refl _⟩, ⟨by (with_reducible repeat (first | apply Kd.Q_alloc | apply Kd.Q_drewN | apply Kd.Q_drew)); exact HO_7.out⟩, ⟨by repeat (first | (with_reducible first | exact HI342.out | apply IsS95.alloc | apply IsS95.drewN | apply IsS95.drew | apply IsS95.set_1 | apply IsS95.set_2) | exact HI342.out)⟩, ⟨by repeat (first | (with_reducible first | exact HB.out | apply below_alloc | apply pw_below_drewN | apply below_drew1 | refine below_set ?_ (IsS95.ge HI342.out)) | exact HB.out)⟩⟩
         case rest =>
          clear HC16
          try clear c1
          try clear c2
          try clear p2
          try clear p3
          try clear q3
          try clear hx3
          try clear c4
          try clear c6
          try clear c6b0
          try clear c6b1
          try clear c7
          try clear c11
          try clear c12
          try clear c12b0
          try clear c13
          try clear c13b0
          try clear c15
          try clear c15b0
          try clear c15b1
          try clear c17
          try clear c17b0
          try clear hx346_0
          try clear hx346_1
          try clear hx347_0
          try clear hx347_1
          try clear p2
          try clear p346
          try clear p347
          try clear q346
          try clear q347
          obtain ⟨kq, x88_15, rfl, HA, HJ15, HO_7, HI342, HB⟩ := hcut
          cases kq with
          | zero => exact absurd HA.out (by simp [gaiterlaw02_FillPlays.j2])
          | succ kj15 =>
           have H := HA.out
           clear HA
           simp only [gaiterlaw02_FillPlays.j2] at H
           have HC18 := Aside0.mk H
           clear H
           go_upto_if 88 with (fail)
           go_cut [10] (fun v10 wc => ∃ (kq : Nat) (x10_17 : Int), v10 = .int .u64 x10_17 ∧ Aside0 (gaiterlaw02_FillPlays.j3 kq l1 t338 x7_2 x8_2 ((rd_T75 l1 x8_2).f1) x10_17 x343000_2 x343001_2 x343002_2 = some r) ∧ Aside0 (kq ≤ kj15) ∧ Aside0 (Kd.Q (Kd.int .u8) 5 wc w.heap.size (fun _ => True) u7 x7_2) ∧ Aside0 (IsS95 w wc g342 x343000_2 x343001_2 x343002_2) ∧ Aside0 (Below w.heap.size w wc))
           case first =>
            have H := HC18.out
            clear HC18
            by_cases c19 : x88_15 = true
            ·subst c19
             have H1 : ((some (([] : List Int) : List Int)).bind fun y349 => (if y349.length + x7_2.length < 140737488355328 then ((some (y349 ++ x7_2 : List Int)).bind fun y352 => (if y352.length + 56 < 140737488355328 then ((some (y352 ++ List.replicate 56 0 : List Int)).bind fun y355 => (if 0 ≤ ((rd_T75 l1 x8_2).f1) then (if ((rd_T75 l1 x8_2).f1) ≤ (y355.length : Int) then ((gaiterref01_Number.f kj15 (y355.take (((rd_T75 l1 x8_2).f1) : Int).toNat)).bind fun t362 => (gaiterlaw02_FillPlays.j3 kj15 l1 t338 x7_2 x8_2 ((rd_T75 l1 x8_2).f1) t362 x343000_2 x343001_2 x343002_2)) else (none)) else (none))) else (none))) else (none))) = some r := by rw [if_pos rfl] at H; exact H
             clear H
             have H := H1
             clear H1
             obtain ⟨y349, hy349⟩ : ∃ y_ : List Int, y_ = (([] : List Int)) := ⟨_, rfl⟩
             replace H : (if y349.length + x7_2.length < 140737488355328 then ((some (y349 ++ x7_2 : List Int)).bind fun y352 => (if y352.length + 56 < 140737488355328 then ((some (y352 ++ List.replicate 56 0 : List Int)).bind fun y355 => (if 0 ≤ ((rd_T75 l1 x8_2).f1) then (if ((rd_T75 l1 x8_2).f1) ≤ (y355.length : Int) then ((gaiterref01_Number.f kj15 (y355.take (((rd_T75 l1 x8_2).f1) : Int).toNat)).bind fun t362 => (gaiterlaw02_FillPlays.j3 kj15 l1 t338 x7_2 x8_2 ((rd_T75 l1 x8_2).f1) t362 x343000_2 x343001_2 x343002_2)) else (none)) else (none))) else (none))) else (none)) = some r := by first | (rw [hy349]; with_reducible exact H) | (have H2_ := (Option.bind_some _ _).symm.trans H; rw [hy349]; with_reducible exact H2_) | (have H2_ := (Option.bind_some _ _).symm.trans H; with_reducible exact H2_) | with_reducible exact H | (rw [hy349]; exact H) | exact H
             have Ny349 := Aside0.mk hy349
             clear hy349
             by_cases c20 : y349.length + x7_2.length < 140737488355328
             ·rw [if_pos c20] at H
              have LMc20 := Aside0.mk c20
              clear c20
              obtain ⟨y352, hy352⟩ : ∃ y_ : List Int, y_ = (y349 ++ x7_2) := ⟨_, rfl⟩
              replace H : (if y352.length + 56 < 140737488355328 then ((some (y352 ++ List.replicate 56 0 : List Int)).bind fun y355 => (if 0 ≤ ((rd_T75 l1 x8_2).f1) then (if ((rd_T75 l1 x8_2).f1) ≤ (y355.length : Int) then ((gaiterref01_Number.f kj15 (y355.take (((rd_T75 l1 x8_2).f1) : Int).toNat)).bind fun t362 => (gaiterlaw02_FillPlays.j3 kj15 l1 t338 x7_2 x8_2 ((rd_T75 l1 x8_2).f1) t362 x343000_2 x343001_2 x343002_2)) else (none)) else (none))) else (none)) = some r := by first | (rw [hy352]; with_reducible exact H) | (have H2_ := (Option.bind_some _ _).symm.trans H; rw [hy352]; with_reducible exact H2_) | (have H2_ := (Option.bind_some _ _).symm.trans H; with_reducible exact H2_) | with_reducible exact H | (rw [hy352]; exact H) | exact H
              have Ny352 := Aside0.mk hy352
              clear hy352
              by_cases c21 : y352.length + 56 < 140737488355328
              ·rw [if_pos c21] at H
               have LMc21 := Aside0.mk c21
               clear c21
               obtain ⟨y355, hy355⟩ : ∃ y_ : List Int, y_ = (y352 ++ List.replicate 56 0) := ⟨_, rfl⟩
               replace H : (if 0 ≤ ((rd_T75 l1 x8_2).f1) then (if ((rd_T75 l1 x8_2).f1) ≤ (y355.length : Int) then ((gaiterref01_Number.f kj15 (y355.take (((rd_T75 l1 x8_2).f1) : Int).toNat)).bind fun t362 => (gaiterlaw02_FillPlays.j3 kj15 l1 t338 x7_2 x8_2 ((rd_T75 l1 x8_2).f1) t362 x343000_2 x343001_2 x343002_2)) else (none)) else (none)) = some r := by first | (rw [hy355]; with_reducible exact H) | (have H2_ := (Option.bind_some _ _).symm.trans H; rw [hy355]; with_reducible exact H2_) | (have H2_ := (Option.bind_some _ _).symm.trans H; with_reducible exact H2_) | with_reducible exact H | (rw [hy355]; exact H) | exact H
               have Ny355 := Aside0.mk hy355
               clear hy355
               by_cases c22 : 0 ≤ ((rd_T75 l1 x8_2).f1)
               ·rw [if_pos c22] at H
                have c22b0 := eq_true c22
                have c22b1 : decide (0 ≤ ((rd_T75 l1 x8_2).f1)) = true := decide_eq_true c22
                clear c22
                by_cases c23 : ((rd_T75 l1 x8_2).f1) ≤ (y355.length : Int)
                ·rw [if_pos c23] at H
                 have c23b0 := eq_true c23
                 have c23b1 : decide (((rd_T75 l1 x8_2).f1) ≤ (y355.length : Int)) = true := decide_eq_true c23
                 clear c23
                 obtain ⟨y358, hy358⟩ : ∃ y_ : List Int, y_ = (y355.take (((rd_T75 l1 x8_2).f1) : Int).toNat) := ⟨_, rfl⟩
                 replace H : ((gaiterref01_Number.f kj15 y358).bind fun t362 => (gaiterlaw02_FillPlays.j3 kj15 l1 t338 x7_2 x8_2 ((rd_T75 l1 x8_2).f1) t362 x343000_2 x343001_2 x343002_2)) = some r := by first | (rw [hy358]; with_reducible exact H) | (have H2_ := (Option.bind_some _ _).symm.trans H; rw [hy358]; with_reducible exact H2_) | (have H2_ := (Option.bind_some _ _).symm.trans H; with_reducible exact H2_) | with_reducible exact H | (rw [hy358]; exact H) | exact H
                 have Ny358 := Aside0.mk hy358
                 clear hy358
                 replace H := Option.bind_eq_some_iff.mp H
                 obtain ⟨t362, A240, H⟩ := H
                 replace H : (gaiterlaw02_FillPlays.j3 kj15 l1 t338 x7_2 x8_2 ((rd_T75 l1 x8_2).f1) t362 x343000_2 x343001_2 x343002_2) = some r := H
                 have A24 := Aside0.mk A240
                 clear A240
                 have H' := Aside0.mk H
                 clear H
                 go_wp2_with (first | ((with_reducible refine gate_dst (N := 89) rfl ?_); (try (refine gate_guard (by rfl) ?_; dsimp only)); refine Kd.R_lit (Kd.int .u8) _ 5 ?hg (N := 89) ?hd (xs := ([] : List Int)) (inner := []) (ok := fun _ => True) (okp := fun _ => True) ?hr ?hp (fun _ hk => hk) trivial (Below.refl _ _) (Nat.le_refl _) (by simp) ?_; (case hd => rfl); (case hg => rfl); (case hr => first | (go_simp; done) | (go_simp; rfl)); (case hp => exact (Reps.none _ _)); intro v350 w25 ho26 hb hg_ hnew_; clear hg_ hnew_; (first | rw [← Ny349.out] at ho26 | (simp only [Int.reduceToNat] at ho26; rw [← Ny349.out] at ho26)); have n0_ := Aside0.mk (Kd.Q_elder' (by (with_reducible repeat (first | apply Kd.Q_alloc | apply Kd.Q_drewN | apply Kd.Q_drew)); exact HO_7.out) (Kd.R_base ho26) hb); have n1_ := Aside0.mk (Kd.R_lower (Kd.R_new' ho26 (Kd.Q_lt (by (with_reducible repeat (first | apply Kd.Q_alloc | apply Kd.Q_drewN | apply Kd.Q_drew)); exact HO_7.out))) (below_size (by repeat (first | (with_reducible first | exact HB.out | apply below_alloc | apply pw_below_drewN | apply below_drew1 | refine below_set ?_ (IsS95.ge HI342.out)) | exact HB.out)))); have n2_ := Aside0.mk (IsS95.below (by repeat (first | (with_reducible first | exact HI342.out | apply IsS95.alloc | apply IsS95.drewN | apply IsS95.drew | apply IsS95.set_1 | apply IsS95.set_2) | exact HI342.out)) hb); have n3_ := Aside0.mk (below_step (by repeat (first | (with_reducible first | exact HB.out | apply below_alloc | apply pw_below_drewN | apply below_drew1 | refine below_set ?_ (IsS95.ge HI342.out)) | exact HB.out)) hb); clear HO_7; clear HI342; clear HB; have HO_7 := n0_; have HO351 := n1_; have HI342 := n2_; have HB := n3_; clear n0_ n1_ n2_ n3_; clear hb ho26; obtain ⟨Ao28, co28, eo28, _⟩ := Kd.Q_slice HO_7.out; subst eo28) | ((with_reducible refine gate_builtin (b := .append) (xs := #[.tmp 89, .tmp 90]) rfl ?_); (try (refine gate_guard (by rfl) ?_; dsimp only)); at_builtin; refine Kd.R_append_rows (Kd.int .u8) (w0 := w) w.heap.size rfl (.tmp 89) (.tmp 90) 27 5 (.int .u8 0) 1 rfl Try.underlying27 info5 rfl (by decide) (by omega) v350 y349 x7_2 _ _ _ (fun k_ => some k_ ≠ (.slice Ao28 x7_2.length co28 : Value).ownBlock) (fun _ => False) rfl rfl ?aO ?aR (fun _ _ h => h) (fun _ h => h.elim) ?aF ?aB ?aS ?aL ?_; (case aR => repeat (first | exact (Kd.Q_reads' HO_7.out).2.2 | (with_reducible refine Kd.C_alloc ?_ _) | (with_reducible refine Kd.C_drewN ?_ _) | (with_reducible refine Kd.C_drew ?_))); (case aB => exact (by repeat (first | (with_reducible first | exact HB.out | apply below_alloc | apply pw_below_drewN | apply below_drew1 | refine below_set ?_ (IsS95.ge HI342.out)) | exact HB.out))); (case aF => exact (fun k_ hk => Kd.fresh' (Kd.Q_lt (by (with_reducible repeat (first | apply Kd.Q_alloc | apply Kd.Q_drewN | apply Kd.Q_drew)); exact HO_7.out)) k_ hk)); (case aO => exact (by (with_reducible repeat (first | apply Kd.R_alloc | apply Kd.R_drewN | apply Kd.R_drew)); exact Kd.R_mono HO351.out (fun _ hk => hk.2))); (case aS => exact (below_size (by repeat (first | (with_reducible first | exact HB.out | apply below_alloc | apply pw_below_drewN | apply below_drew1 | refine below_set ?_ (IsS95.ge HI342.out)) | exact HB.out)))); (case aL => have := LMc20.out; omega); intro v353 w27 ho hb hg hat; rw [← Ny352.out] at ho; have n0_ := Aside0.mk (Kd.Q_after (ok := (fun _ => True)) (by (with_reducible repeat (first | apply Kd.Q_alloc | apply Kd.Q_drewN | apply Kd.Q_drew)); exact HO_7.out) hg hat); have n1_ := Aside0.mk (IsS95.grown (by repeat (first | (with_reducible first | exact HI342.out | apply IsS95.alloc | apply IsS95.drewN | apply IsS95.drew | apply IsS95.set_1 | apply IsS95.set_2) | exact HI342.out)) hg (IsS95.own_ne HI342.out HO351.out (by decide))); have n2_ := Aside0.mk (hb); have n3_ := Aside0.mk (ho); clear HO_7; clear HI342; clear HB; clear HO351; have HO_7 := n0_; have HI342 := n1_; have HB := n2_; have HO354 := n3_; clear n0_ n1_ n2_ n3_; clear ho hb hg hat) | (at_builtin; refine Kd.R_append_zeros (Kd.int .u8) (w0 := w) w.heap.size rfl (.tmp 91) (.const (.int .i64 56)) 27 3 5 (.int .u8 0) 1 rfl Try.underlying27 Try.underlying3 info5 rfl (by decide) (by omega) v353 y352 0 (56 : Int) (fun k_ => some k_ ≠ (.slice Ao28 x7_2.length co28 : Value).ownBlock) rfl rfl rfl ?aF ?aO (by omega) ?aB ?aS ?aL ?_; (case aB => exact (by repeat (first | (with_reducible first | exact HB.out | apply below_alloc | apply pw_below_drewN | apply below_drew1 | refine below_set ?_ (IsS95.ge HI342.out)) | exact HB.out))); (case aF => exact (fun k_ hk => Kd.fresh' (Kd.Q_lt (by (with_reducible repeat (first | apply Kd.Q_alloc | apply Kd.Q_drewN | apply Kd.Q_drew)); exact HO_7.out)) k_ hk)); (case aO => exact (by (with_reducible repeat (first | apply Kd.R_alloc | apply Kd.R_drewN | apply Kd.R_drew)); exact HO354.out)); (case aS => exact (below_size (by repeat (first | (with_reducible first | exact HB.out | apply below_alloc | apply pw_below_drewN | apply below_drew1 | refine below_set ?_ (IsS95.ge HI342.out)) | exact HB.out)))); (case aL => have := LMc21.out; omega); intro v356 w29 ho hb hg hat; (try simp only [Int.reduceToNat] at ho); rw [← Ny355.out] at ho; have n0_ := Aside0.mk (Kd.Q_after (ok := (fun _ => True)) (by (with_reducible repeat (first | apply Kd.Q_alloc | apply Kd.Q_drewN | apply Kd.Q_drew)); exact HO_7.out) hg hat); have n1_ := Aside0.mk (IsS95.grown (by repeat (first | (with_reducible first | exact HI342.out | apply IsS95.alloc | apply IsS95.drewN | apply IsS95.drew | apply IsS95.set_1 | apply IsS95.set_2) | exact HI342.out)) hg (IsS95.own_ne HI342.out HO354.out (by decide))); have n2_ := Aside0.mk (hb); have n3_ := Aside0.mk (ho); clear HO_7; clear HI342; clear HB; clear HO354; have HO_7 := n0_; have HI342 := n1_; have HB := n2_; have HO357 := n3_; clear n0_ n1_ n2_ n3_; clear ho hb hg hat; obtain ⟨Ao31, co31, eo31⟩ := Kd.R_slice HO357.out; subst eo31; have q30 : (((rd_T75 l1 x8_2).f1) : Int) ≤ ((y355.length : Int) : Int) := of_decide_eq_true (by first | (with_reducible assumption) | assumption); obtain ⟨i030, hi030, _, hsz30, _⟩ := info_parts info5; have hroom30 : y355.length ≤ co31 := (Kd.R_reads' HO357.out).2.1; have hC30 : Kd.C (Kd.int .u8) _ Ao31 y355.length y355 := (Kd.R_reads' HO357.out).2.2; have hcut30 := cut_to (P := Try.prog) 27 5 .i64 Try.underlying27 hi030 Ao31 y355.length co31 ((rd_T75 l1 x8_2).f1) (of_decide_eq_true (by first | (with_reducible assumption) | assumption)) q30 hroom30; have hr30 := Kd.C_take (m := (((rd_T75 l1 x8_2).f1) : Int).toNat) hC30 (by omega); have hy30 : y358.length = (((rd_T75 l1 x8_2).f1) : Int).toNat := (by rw [Ny358.out, List.length_take]; omega); rw [← Ny358.out] at hr30; rw [← hy30] at hcut30; have HR361 := Aside0.mk hr30; have HC361 := Aside0.mk (show y358.length ≤ co31 from by omega); clear hr30 hC30 hroom30 hi030 hsz30; have KY30 := Aside0.mk hy30; clear hy30; have KL30 := Aside0.mk (show (((rd_T75 l1 x8_2).f1) : Int).toNat ≤ y355.length from by omega); (try (have q30s := q30; simp only [List.length_drop, List.length_take] at q30s; replace q30s := eq_true q30s)); replace q30 := eq_true q30) | ((with_reducible refine gate_callee (f := 45) rfl ?_); refine goesL_ (some 95) rfl rfl Try.func45 (by kernel_rfl) rfl #[.slice Ao31 y358.length co31] rfl (by (try simp only [List.map_toArray, List.map_cons, List.map_nil]); first | done | rfl | (simp only [List.length_drop, List.length_take]; rfl)) ?_; (with_reducible refine (gaiterref01_Number.calls kj15 _ _ y358 t362 _ ?side1 ?side2 A24.out).mono ?_); (case side1 => repeat (first | exact (by repeat (first | (with_reducible exact HR361.out) | (with_reducible refine Kd.C_alloc ?_ _) | (with_reducible refine Kd.C_drewN ?_ _) | (with_reducible refine Kd.C_drew ?_) | exact HR361.out)) | (with_reducible refine Kd.C_alloc ?_ _) | (with_reducible refine Kd.C_drewN ?_ _) | (with_reducible refine Kd.C_drew ?_))); (case side2 => exact HC361.out); rintro e w' ⟨rfl, ⟨nd, rfl⟩⟩; refine ⟨_, rfl, ?_⟩))
                 go_meet
                 case rel => exact ⟨_, (t362), (by first | rfl | (simp; done) | (simp [*]; done)), H', ⟨by have := HJ3.out; have := HK2.out; have := HJ15.out; first | omega | exact Nat.le_refl _⟩, ⟨by (with_reducible repeat (first | apply Kd.Q_alloc | apply Kd.Q_drewN | apply Kd.Q_drew)); exact Kd.Q_mono HO_7.out (fun _ hk => trivial)⟩, ⟨by repeat (first | (with_reducible first | exact HI342.out | apply IsS95.alloc | apply IsS95.drewN | apply IsS95.drew | apply IsS95.set_1 | apply IsS95.set_2) | exact HI342.out)⟩, ⟨by repeat (first | (with_reducible first | exact HB.out | apply below_alloc | apply pw_below_drewN | apply below_drew1 | refine below_set ?_ (IsS95.ge HI342.out)) | exact HB.out)⟩⟩
                ·rw [if_neg c23] at H
                 exact absurd H (by simp)
               ·rw [if_neg c22] at H
                exact absurd H (by simp)
              ·rw [if_neg c21] at H
               exact absurd H (by simp)
             ·rw [if_neg c20] at H
              exact absurd H (by simp)
            ·replace c19 := Bool.eq_false_iff.mpr c19
             subst c19
             have H1 : (gaiterlaw02_FillPlays.j3 kj15 l1 t338 x7_2 x8_2 ((rd_T75 l1 x8_2).f1) 0 x343000_2 x343001_2 x343002_2) = some r := by rw [if_neg (show ¬ (false = true) by decide)] at H; exact H
             clear H
             have H := H1
             clear H1
             have H' := Aside0.mk H
             clear H
             go_wp2
             go_meet
             case rel => exact ⟨_, (0), (by first | rfl | (simp; done) | (simp [*]; done)), H', ⟨by have := HJ3.out; have := HK2.out; have := HJ15.out; first | omega | exact Nat.le_refl _⟩, ⟨by (with_reducible repeat (first | apply Kd.Q_alloc | apply Kd.Q_drewN | apply Kd.Q_drew)); exact HO_7.out⟩, ⟨by repeat (first | (with_reducible first | exact HI342.out | apply IsS95.alloc | apply IsS95.drewN | apply IsS95.drew | apply IsS95.set_1 | apply IsS95.set_2) | exact HI342.out)⟩, ⟨by repeat (first | (with_reducible first | exact HB.out | apply below_alloc | apply pw_below_drewN | apply below_drew1 | refine below_set ?_ (IsS95.ge HI342.out)) | exact HB.out)⟩⟩
           case rest =>
            clear HC18
            try clear c1
            try clear c2
            try clear p2
            try clear p3
            try clear q3
            try clear hx3
            try clear c4
            try clear c6
            try clear c6b0
            try clear c6b1
            try clear c7
            try clear c11
            try clear c12
            try clear c12b0
            try clear c13
            try clear c13b0
            try clear c15
            try clear c15b0
            try clear c15b1
            try clear c17
            try clear c17b0
            try clear c19
            try clear c20
            try clear c21
            try clear c22
            try clear c22b0
            try clear c22b1
            try clear c23
            try clear c23b0
            try clear c23b1
            try clear c29
            try clear q30
            try clear hx346_0
            try clear hx346_1
            try clear hx347_0
            try clear hx347_1
            try clear p2
            try clear p3
            try clear p346
            try clear p347
            try clear q3
            try clear q30
            try clear q346
            try clear q347
            obtain ⟨kq, x10_17, rfl, HA, HJ17, HO_7, HI342, HB⟩ := hcut
            cases kq with
            | zero => exact absurd HA.out (by simp [gaiterlaw02_FillPlays.j3])
            | succ kj17 =>
             have H := HA.out
             clear HA
             simp only [gaiterlaw02_FillPlays.j3] at H
             replace H := Option.bind_eq_some_iff.mp H
             obtain ⟨⟨t363, t364, t365, t366⟩, A320, H⟩ := H
             replace H : (if t363 = x10_17 then ((fill_Reader_Left.f t364 t365 t366).bind fun bt367 => (if bt367.1 = (x7_2.length : Int) then (gaiterlaw02_FillPlays.l0 kj17 l1 t338 x7_2 (wrap64 (x8_2 + 1)) bt367.2.1 bt367.2.2.1 bt367.2.2.2) else (some false))) else (some false)) = some r := H
             have A32 := Aside0.mk A320
             clear A320
             by_cases c33 : t363 = x10_17
             ·rw [if_pos c33] at H
              have c33b0 : (t363 == x10_17) = true := beq_iff_eq.mpr c33
              have c33b1 : (t363 != x10_17) = false := bne_eq_false_iff_eq.mpr c33
              clear c33
              replace H := Option.bind_eq_some_iff.mp H
              obtain ⟨⟨t367, t368, t369, t370⟩, A340, H⟩ := H
              replace H : (if t367 = (x7_2.length : Int) then (gaiterlaw02_FillPlays.l0 kj17 l1 t338 x7_2 (wrap64 (x8_2 + 1)) t368 t369 t370) else (some false)) = some r := H
              have A34 := Aside0.mk A340
              clear A340
              by_cases c35 : t367 = (x7_2.length : Int)
              ·rw [if_pos c35] at H
               have c35b0 : (t367 == (x7_2.length : Int)) = true := beq_iff_eq.mpr c35
               have c35b1 : (t367 != (x7_2.length : Int)) = false := bne_eq_false_iff_eq.mpr c35
               clear c35
               have H' := Aside0.mk H
               clear H
               go_wp2_with (first | ((with_reducible refine gate_callee (f := 46) rfl ?_); refine goesL_ (some 98) rfl rfl Try.func46 (by kernel_rfl) rfl #[.pointer (some ⟨g342, 0, none⟩), .int .i64 ((rd_T75 l1 x8_2).f1)] rfl (by (try simp only [List.map_toArray, List.map_cons, List.map_nil]); first | done | rfl | (simp only [List.length_drop, List.length_take]; rfl)) ?_; (with_reducible refine (fill_Reader_Peek.calls kj17 g342 x343000_2 x343001_2 x343002_2 ((rd_T75 l1 x8_2).f1) t363 t364 t365 t366 w _ ?side1 ?side2 A32.out).mono ?_); (case side1 => repeat (first | (with_reducible first | exact HI342.out | apply IsS95.alloc | apply IsS95.drewN | apply IsS95.drew | apply IsS95.set_1 | apply IsS95.set_2) | exact HI342.out)); (case side2 => repeat (first | (with_reducible first | exact HB.out | apply below_alloc | apply pw_below_drewN | apply below_drew1 | refine below_set ?_ (IsS95.ge HI342.out)) | exact HB.out)); rintro e w36 ⟨rfl, hi, hb, hk⟩; refine ⟨_, rfl, ?_⟩; have n0_ := Aside0.mk (Kd.Q_mono (Kd.Q_keep (IsS95.apartQ (show IsS95 w _ g342 x343000_2 x343001_2 x343002_2 from by repeat (first | (with_reducible first | exact HI342.out | apply IsS95.alloc | apply IsS95.drewN | apply IsS95.drew | apply IsS95.set_1 | apply IsS95.set_2) | exact HI342.out)) (by (with_reducible repeat (first | apply Kd.Q_alloc | apply Kd.Q_drewN | apply Kd.Q_drew)); exact HO_7.out) (by decide)) hk (fun _ h => h.2)) (fun _ h => h.1)); have n1_ := Aside0.mk (hb); have n2_ := Aside0.mk (hi); clear HO_7; clear HB; clear HI342; have HO_7 := n0_; have HB := n1_; have HI342 := n2_; clear n0_ n1_ n2_; (try clear hb); (try clear hb2); (try clear hk); (try clear hi)) | ((with_reducible refine gate_callee (f := 49) rfl ?_); refine goesL_ (some 121) rfl rfl Try.func49 (by kernel_rfl) rfl #[.pointer (some ⟨g342, 0, none⟩)] rfl (by (try simp only [List.map_toArray, List.map_cons, List.map_nil]); first | done | rfl | (simp only [List.length_drop, List.length_take]; rfl)) ?_; (with_reducible refine (fill_Reader_Left.calls g342 t364 t365 t366 t367 t368 t369 t370 w _ ?side1 ?side2 A34.out).mono ?_); (case side1 => repeat (first | (with_reducible first | exact HI342.out | apply IsS95.alloc | apply IsS95.drewN | apply IsS95.drew | apply IsS95.set_1 | apply IsS95.set_2) | exact HI342.out)); (case side2 => repeat (first | (with_reducible first | exact HB.out | apply below_alloc | apply pw_below_drewN | apply below_drew1 | refine below_set ?_ (IsS95.ge HI342.out)) | exact HB.out)); rintro e w37 ⟨rfl, hi, hb, hk⟩; refine ⟨_, rfl, ?_⟩; have n0_ := Aside0.mk (Kd.Q_mono (Kd.Q_keep (IsS95.apartQ (show IsS95 w _ g342 t364 t365 t366 from by repeat (first | (with_reducible first | exact HI342.out | apply IsS95.alloc | apply IsS95.drewN | apply IsS95.drew | apply IsS95.set_1 | apply IsS95.set_2) | exact HI342.out)) (by (with_reducible repeat (first | apply Kd.Q_alloc | apply Kd.Q_drewN | apply Kd.Q_drew)); exact HO_7.out) (by decide)) hk (fun _ h => h.2)) (fun _ h => h.1)); have n1_ := Aside0.mk (hb); have n2_ := Aside0.mk (hi); clear HO_7; clear HB; clear HI342; have HO_7 := n0_; have HB := n1_; have HI342 := n2_; clear n0_ n1_ n2_; (try clear hb); (try clear hb2); (try clear hk); (try clear hi); obtain ⟨Ao38, co38, eo38, _⟩ := Kd.Q_slice HO_7.out; subst eo38))
               go_roundg kj17
               case measure => have := HJ3.out; have := HK2.out; have := HJ15.out; have := HJ17.out; omega
               case rel => exact ⟨(x7_2), (wrap64 (x8_2 + 1)), (t368), (t369), (t370), (by first | rfl | (simp; done) | (simp [*]; done)), H', ⟨by have := HJ3.out; have := HK2.out; have := HJ15.out; have := HJ17.out; omega⟩, ⟨by (with_reducible repeat (first | apply Kd.Q_alloc | apply Kd.Q_drewN | apply Kd.Q_drew)); exact HO_7.out⟩, ⟨by repeat (first | (with_reducible first | exact HI342.out | apply IsS95.alloc | apply IsS95.drewN | apply IsS95.drew | apply IsS95.set_1 | apply IsS95.set_2) | exact HI342.out)⟩, ⟨by repeat (first | (with_reducible first | exact HB.out | apply below_alloc | apply pw_below_drewN | apply below_drew1 | refine below_set ?_ (IsS95.ge HI342.out)) | exact HB.out)⟩⟩
              ·rw [if_neg c35] at H
               have c35b0 : (t367 == (x7_2.length : Int)) = false := beq_eq_false_iff_ne.mpr c35
               have c35b1 : (t367 != (x7_2.length : Int)) = true := bne_iff_ne.mpr c35
               obtain rfl := Option.some.inj H
               go_wp2_with (first | ((with_reducible refine gate_callee (f := 46) rfl ?_); refine goesL_ (some 98) rfl rfl Try.func46 (by kernel_rfl) rfl #[.pointer (some ⟨g342, 0, none⟩), .int .i64 ((rd_T75 l1 x8_2).f1)] rfl (by (try simp only [List.map_toArray, List.map_cons, List.map_nil]); first | done | rfl | (simp only [List.length_drop, List.length_take]; rfl)) ?_; (with_reducible refine (fill_Reader_Peek.calls kj17 g342 x343000_2 x343001_2 x343002_2 ((rd_T75 l1 x8_2).f1) t363 t364 t365 t366 w _ ?side1 ?side2 A32.out).mono ?_); (case side1 => repeat (first | (with_reducible first | exact HI342.out | apply IsS95.alloc | apply IsS95.drewN | apply IsS95.drew | apply IsS95.set_1 | apply IsS95.set_2) | exact HI342.out)); (case side2 => repeat (first | (with_reducible first | exact HB.out | apply below_alloc | apply pw_below_drewN | apply below_drew1 | refine below_set ?_ (IsS95.ge HI342.out)) | exact HB.out)); rintro e w39 ⟨rfl, hi, hb, hk⟩; refine ⟨_, rfl, ?_⟩; have n0_ := Aside0.mk (Kd.Q_mono (Kd.Q_keep (IsS95.apartQ (show IsS95 w _ g342 x343000_2 x343001_2 x343002_2 from by repeat (first | (with_reducible first | exact HI342.out | apply IsS95.alloc | apply IsS95.drewN | apply IsS95.drew | apply IsS95.set_1 | apply IsS95.set_2) | exact HI342.out)) (by (with_reducible repeat (first | apply Kd.Q_alloc | apply Kd.Q_drewN | apply Kd.Q_drew)); exact HO_7.out) (by decide)) hk (fun _ h => h.2)) (fun _ h => h.1)); have n1_ := Aside0.mk (hb); have n2_ := Aside0.mk (hi); clear HO_7; clear HB; clear HI342; have HO_7 := n0_; have HB := n1_; have HI342 := n2_; clear n0_ n1_ n2_; (try clear hb); (try clear hb2); (try clear hk); (try clear hi)) | ((with_reducible refine gate_callee (f := 49) rfl ?_); refine goesL_ (some 121) rfl rfl Try.func49 (by kernel_rfl) rfl #[.pointer (some ⟨g342, 0, none⟩)] rfl (by (try simp only [List.map_toArray, List.map_cons, List.map_nil]); first | done | rfl | (simp only [List.length_drop, List.length_take]; rfl)) ?_; (with_reducible refine (fill_Reader_Left.calls g342 t364 t365 t366 t367 t368 t369 t370 w _ ?side1 ?side2 A34.out).mono ?_); (case side1 => repeat (first | (with_reducible first | exact HI342.out | apply IsS95.alloc | apply IsS95.drewN | apply IsS95.drew | apply IsS95.set_1 | apply IsS95.set_2) | exact HI342.out)); (case side2 => repeat (first | (with_reducible first | exact HB.out | apply below_alloc | apply pw_below_drewN | apply below_drew1 | refine below_set ?_ (IsS95.ge HI342.out)) | exact HB.out)); rintro e w40 ⟨rfl, hi, hb, hk⟩; refine ⟨_, rfl, ?_⟩; have n0_ := Aside0.mk (Kd.Q_mono (Kd.Q_keep (IsS95.apartQ (show IsS95 w _ g342 t364 t365 t366 from by repeat (first | (with_reducible first | exact HI342.out | apply IsS95.alloc | apply IsS95.drewN | apply IsS95.drew | apply IsS95.set_1 | apply IsS95.set_2) | exact HI342.out)) (by (with_reducible repeat (first | apply Kd.Q_alloc | apply Kd.Q_drewN | apply Kd.Q_drew)); exact HO_7.out) (by decide)) hk (fun _ h => h.2)) (fun _ h => h.1)); have n1_ := Aside0.mk (hb); have n2_ := Aside0.mk (hi); clear HO_7; clear HB; clear HI342; have HO_7 := n0_; have HB := n1_; have HI342 := n2_; clear n0_ n1_ n2_; (try clear hb); (try clear hb2); (try clear hk); (try clear hi); obtain ⟨Ao41, co41, eo41, _⟩ := Kd.Q_slice HO_7.out; subst eo41))
               go_ret
               exact ⟨by first | rfl | (simp [errW_none, errW_some] <;> rfl) | (simp [*, errW_none, errW_some] <;> rfl), by repeat (first | (with_reducible first | exact HB.out | apply below_alloc | apply pw_below_drewN | apply below_drew1 | refine below_set ?_ (IsS95.ge HI342.out)) | exact HB.out)⟩
             ·rw [if_neg c33] at H
              have c33b0 : (t363 == x10_17) = false := beq_eq_false_iff_ne.mpr c33
              have c33b1 : (t363 != x10_17) = true := bne_iff_ne.mpr c33
              obtain rfl := Option.some.inj H
              go_wp2_with (first | ((with_reducible refine gate_callee (f := 46) rfl ?_); refine goesL_ (some 98) rfl rfl Try.func46 (by kernel_rfl) rfl #[.pointer (some ⟨g342, 0, none⟩), .int .i64 ((rd_T75 l1 x8_2).f1)] rfl (by (try simp only [List.map_toArray, List.map_cons, List.map_nil]); first | done | rfl | (simp only [List.length_drop, List.length_take]; rfl)) ?_; (with_reducible refine (fill_Reader_Peek.calls kj17 g342 x343000_2 x343001_2 x343002_2 ((rd_T75 l1 x8_2).f1) t363 t364 t365 t366 w _ ?side1 ?side2 A32.out).mono ?_); (case side1 => repeat (first | (with_reducible first | exact HI342.out | apply IsS95.alloc | apply IsS95.drewN | apply IsS95.drew | apply IsS95.set_1 | apply IsS95.set_2) | exact HI342.out)); (case side2 => repeat (first | (with_reducible first | exact HB.out | apply below_alloc | apply pw_below_drewN | apply below_drew1 | refine below_set ?_ (IsS95.ge HI342.out)) | exact HB.out)); rintro e w42 ⟨rfl, hi, hb, hk⟩; refine ⟨_, rfl, ?_⟩; have n0_ := Aside0.mk (Kd.Q_mono (Kd.Q_keep (IsS95.apartQ (show IsS95 w _ g342 x343000_2 x343001_2 x343002_2 from by repeat (first | (with_reducible first | exact HI342.out | apply IsS95.alloc | apply IsS95.drewN | apply IsS95.drew | apply IsS95.set_1 | apply IsS95.set_2) | exact HI342.out)) (by (with_reducible repeat (first | apply Kd.Q_alloc | apply Kd.Q_drewN | apply Kd.Q_drew)); exact HO_7.out) (by decide)) hk (fun _ h => h.2)) (fun _ h => h.1)); have n1_ := Aside0.mk (hb); have n2_ := Aside0.mk (hi); clear HO_7; clear HB; clear HI342; have HO_7 := n0_; have HB := n1_; have HI342 := n2_; clear n0_ n1_ n2_; (try clear hb); (try clear hb2); (try clear hk); (try clear hi)))
              go_ret
              exact ⟨by first | rfl | (simp [errW_none, errW_some] <;> rfl) | (simp [*, errW_none, errW_some] <;> rfl), by repeat (first | (with_reducible first | exact HB.out | apply below_alloc | apply pw_below_drewN | apply below_drew1 | refine below_set ?_ (IsS95.ge HI342.out)) | exact HB.out)⟩
        ·rw [if_neg c15] at H
         have c15b0 : (t348 == 0) = false := beq_eq_false_iff_ne.mpr c15
         have c15b1 : (t348 != 0) = true := bne_iff_ne.mpr c15
         by_cases c43 : t348 = 1
         ·rw [if_pos c43] at H
          have c43b0 : (t348 == 1) = true := beq_iff_eq.mpr c43
          have c43b1 : (t348 != 1) = false := bne_eq_false_iff_eq.mpr c43
          clear c43
          have HC44 := Aside0.mk H
          clear H
          have p346 : 0 ≤ (x8_2 : Int) := of_decide_eq_true (by first | (with_reducible assumption) | assumption)
          have q346 : x8_2 < (l1.length : Int) := of_decide_eq_true (by first | (with_reducible assumption) | assumption)
          obtain ⟨ad346, e346, hx346_0, hx346_1⟩ := at_T75 HR1.out x8_2 p346 q346
          cases e346
          replace hx346_0 := (HB.out.cell (World.block_lt_of_cell? w _ hx346_0)).trans hx346_0
          replace hx346_1 := (HB.out.cell (World.block_lt_of_cell? w _ hx346_1)).trans hx346_1
          replace p346 := eq_true p346
          (try (have q346s := q346; simp only [List.length_drop, List.length_take] at q346s; replace q346s := eq_true q346s)); replace q346 := eq_true q346
          have p347 : 0 ≤ (x8_2 : Int) := of_decide_eq_true (by first | (with_reducible assumption) | assumption)
          have q347 : x8_2 < (l1.length : Int) := of_decide_eq_true (by first | (with_reducible assumption) | assumption)
          obtain ⟨ad347, e347, hx347_0, hx347_1⟩ := at_T75 HR1.out x8_2 p347 q347
          obtain rfl : ad346 = ad347 := (by injection e347)
          replace hx347_0 := (HB.out.cell (World.block_lt_of_cell? w _ hx347_0)).trans hx347_0
          replace hx347_1 := (HB.out.cell (World.block_lt_of_cell? w _ hx347_1)).trans hx347_1
          replace p347 := eq_true p347
          (try (have q347s := q347; simp only [List.length_drop, List.length_take] at q347s; replace q347s := eq_true q347s)); replace q347 := eq_true q347
          go_upto_region 25 with (first | ((with_reducible refine gate_callee (f := 29) rfl ?_); refine goesL_ (some 44) rfl rfl Try.func29 (by kernel_rfl) rfl #[.int .i64 ((rd_T75 l1 x8_2).f0), .int .i64 4] rfl (by (try simp only [List.map_toArray, List.map_cons, List.map_nil]); first | done | rfl | (simp only [List.length_drop, List.length_take]; rfl)) ?_; (with_reducible refine (gaiterlaw00_Pick.calls ((rd_T75 l1 x8_2).f0) 4 t348 _ A14.out).mono ?_); rintro e w' ⟨rfl, ⟨nd, rfl⟩⟩; refine ⟨_, rfl, ?_⟩))
          (try simp only [Act.put, List.setIfInBounds_toArray, List.set_cons_zero, List.set_cons_succ])
          go_cut [11] (fun v11 wc => ∃ (kq : Nat) (x11_43 : Bool), v11 = .bool x11_43 ∧ Aside0 (gaiterlaw02_FillPlays.j4 kq l1 t338 x7_2 x8_2 ((rd_T75 l1 x8_2).f1) x11_43 x343000_2 x343001_2 x343002_2 = some r) ∧ Aside0 (kq ≤ k2) ∧ Aside0 (Kd.Q (Kd.int .u8) 5 wc w.heap.size (fun _ => True) u7 x7_2) ∧ Aside0 (IsS95 w wc g342 x343000_2 x343001_2 x343002_2) ∧ Aside0 (Below w.heap.size w wc))
          case first =>
           have H := HC44.out
           clear HC44
           by_cases c45 : ((rd_T75 l1 x8_2).f1) ≥ 0
           ·rw [if_pos c45] at H
            have c45b0 : decide (0 ≤ ((rd_T75 l1 x8_2).f1)) = true := decide_eq_true c45
            clear c45
            (first | rw [c45b0] | (simp only [i64_w, i32_w]; rw [c45b0]) | skip)
            have H' := Aside0.mk H
            clear H
            obtain ⟨Ao46, co46, eo46, _⟩ := Kd.Q_slice HO_7.out
            subst eo46
            go_wp2
            go_meet
            case rel => exact ⟨_, (decide (((rd_T75 l1 x8_2).f1) ≤ (x7_2.length : Int))), (by first | rfl | (simp; done) | (simp [*]; done)), H', ⟨by have := HJ3.out; have := HK2.out; first | omega | exact Nat.le_refl _⟩, ⟨by (with_reducible repeat (first | apply Kd.Q_alloc | apply Kd.Q_drewN | apply Kd.Q_drew)); exact HO_7.out⟩, ⟨by repeat (first | (with_reducible first | exact HI342.out | apply IsS95.alloc | apply IsS95.drewN | apply IsS95.drew | apply IsS95.set_1 | apply IsS95.set_2) | exact HI342.out)⟩, ⟨by repeat (first | (with_reducible first | exact HB.out | apply below_alloc | apply pw_below_drewN | apply below_drew1 | refine below_set ?_ (IsS95.ge HI342.out)) | exact HB.out)⟩⟩
           ·rw [if_neg c45] at H
            have c45b0 : decide (0 ≤ ((rd_T75 l1 x8_2).f1)) = false := decide_eq_false c45
            clear c45
            (first | rw [c45b0] | (simp only [i64_w, i32_w]; rw [c45b0]) | skip)
            have H' := Aside0.mk H
            clear H
            go_wp2
            go_meet
            case rel => exact ⟨_, (false), (by first | rfl | (simp; done) | (simp [*]; done)), H', ⟨by have := HJ3.out; have := HK2.out; first | omega | exact Nat.le_refl _⟩, ⟨by (with_reducible repeat (first | apply Kd.Q_alloc | apply Kd.Q_drewN | apply Kd.Q_drew)); exact HO_7.out⟩, ⟨by repeat (first | (with_reducible first | exact HI342.out | apply IsS95.alloc | apply IsS95.drewN | apply IsS95.drew | apply IsS95.set_1 | apply IsS95.set_2) | exact HI342.out)⟩, ⟨by repeat (first | (with_reducible first | exact HB.out | apply below_alloc | apply pw_below_drewN | apply below_drew1 | refine below_set ?_ (IsS95.ge HI342.out)) | exact HB.out)⟩⟩
          case rest =>
           clear HC44
           try clear c1
           try clear c2
           try clear p2
           try clear c3
           try clear p3
           try clear q3
           try clear hx3
           try clear c4
           try clear c6
           try clear c6b0
           try clear c6b1
           try clear p6
           try clear c7
           try clear c11
           try clear c12
           try clear c12b0
           try clear c13
           try clear c13b0
           try clear c15
           try clear c15b0
           try clear c15b1
           try clear c17
           try clear c17b0
           try clear c19
           try clear c20
           try clear c21
           try clear c22
           try clear c22b0
           try clear c22b1
           try clear c23
           try clear c23b0
           try clear c23b1
           try clear c29
           try clear q30
           try clear c33
           try clear c33b0
           try clear c33b1
           try clear p34
           try clear q34
           try clear hx34
           try clear c35
           try clear c35b0
           try clear c35b1
           try clear c42
           try clear c43
           try clear c43b0
           try clear c43b1
           try clear c44
           try clear c45
           try clear c45b0
           try clear c46
           try clear hx346_0
           try clear hx346_1
           try clear hx347_0
           try clear hx347_1
           try clear p2
           try clear p3
           try clear p346
           try clear p347
           try clear q3
           try clear q30
           try clear q346
           try clear q347
           obtain ⟨kq, x11_43, rfl, HA, HJ43, HO_7, HI342, HB⟩ := hcut
           cases kq with
           | zero => exact absurd HA.out (by simp [gaiterlaw02_FillPlays.j4])
           | succ kj43 =>
            have H := HA.out
            clear HA
            simp only [gaiterlaw02_FillPlays.j4] at H
            replace H := Option.bind_eq_some_iff.mp H
            obtain ⟨⟨t371, t372, t373, t374⟩, A470, H⟩ := H
            replace H : (if (t371 != x11_43) = true then (some false) else (if x11_43 = true then (if 0 ≤ ((rd_T75 l1 x8_2).f1) then (if ((rd_T75 l1 x8_2).f1) ≤ (x7_2.length : Int) then ((some (x7_2.drop (((rd_T75 l1 x8_2).f1) : Int).toNat : List Int)).bind fun y375 => ((fill_Reader_Left.f t372 t373 t374).bind fun bt378 => (if bt378.1 = (y375.length : Int) then (gaiterlaw02_FillPlays.l0 kj43 l1 t338 y375 (wrap64 (x8_2 + 1)) bt378.2.1 bt378.2.2.1 bt378.2.2.2) else (some false)))) else (none)) else (none)) else ((fill_Reader_Left.f t372 t373 t374).bind fun bt382 => (if bt382.1 = (x7_2.length : Int) then (gaiterlaw02_FillPlays.l0 kj43 l1 t338 x7_2 (wrap64 (x8_2 + 1)) bt382.2.1 bt382.2.2.1 bt382.2.2.2) else (some false))))) = some r := H
            have A47 := Aside0.mk A470
            clear A470
            by_cases c48 : (t371 != x11_43) = true
            ·rw [if_pos c48] at H
             have c48b0 : (t371 != x11_43) = true := c48
             (try (have c48b1 : decide (t371 = x11_43) = false := by simpa using c48))
             (try (have c48b2 : (t371 == x11_43) = false := by simpa using c48))
             (try (have c48b3 : ¬ (t371 = x11_43) := by simpa using c48))
             clear c48
             obtain rfl := Option.some.inj H
             go_wp2_with (first | ((with_reducible refine gate_callee (f := 47) rfl ?_); refine goesL_ (some 113) rfl rfl Try.func47 (by kernel_rfl) rfl #[.pointer (some ⟨g342, 0, none⟩), .int .i64 ((rd_T75 l1 x8_2).f1)] rfl (by (try simp only [List.map_toArray, List.map_cons, List.map_nil]); first | done | rfl | (simp only [List.length_drop, List.length_take]; rfl)) ?_; (with_reducible refine (fill_Reader_Skip.calls kj43 g342 x343000_2 x343001_2 x343002_2 ((rd_T75 l1 x8_2).f1) t371 t372 t373 t374 w _ ?side1 ?side2 A47.out).mono ?_); (case side1 => repeat (first | (with_reducible first | exact HI342.out | apply IsS95.alloc | apply IsS95.drewN | apply IsS95.drew | apply IsS95.set_1 | apply IsS95.set_2) | exact HI342.out)); (case side2 => repeat (first | (with_reducible first | exact HB.out | apply below_alloc | apply pw_below_drewN | apply below_drew1 | refine below_set ?_ (IsS95.ge HI342.out)) | exact HB.out)); rintro e w49 ⟨rfl, hi, hb, hk⟩; refine ⟨_, rfl, ?_⟩; have n0_ := Aside0.mk (Kd.Q_mono (Kd.Q_keep (IsS95.apartQ (show IsS95 w _ g342 x343000_2 x343001_2 x343002_2 from by repeat (first | (with_reducible first | exact HI342.out | apply IsS95.alloc | apply IsS95.drewN | apply IsS95.drew | apply IsS95.set_1 | apply IsS95.set_2) | exact HI342.out)) (by (with_reducible repeat (first | apply Kd.Q_alloc | apply Kd.Q_drewN | apply Kd.Q_drew)); exact HO_7.out) (by decide)) hk (fun _ h => h.2)) (fun _ h => h.1)); have n1_ := Aside0.mk (hb); have n2_ := Aside0.mk (hi); clear HO_7; clear HB; clear HI342; have HO_7 := n0_; have HB := n1_; have HI342 := n2_; clear n0_ n1_ n2_; (try clear hb); (try clear hb2); (try clear hk); (try clear hi)))
             go_ret
             exact ⟨by first | rfl | (simp [errW_none, errW_some] <;> rfl) | (simp [*, errW_none, errW_some] <;> rfl), by repeat (first | (with_reducible first | exact HB.out | apply below_alloc | apply pw_below_drewN | apply below_drew1 | refine below_set ?_ (IsS95.ge HI342.out)) | exact HB.out)⟩
            ·rw [if_neg c48] at H
             have c48b0 : (t371 != x11_43) = false := by simpa using c48
             (try (have c48b1 : decide (t371 = x11_43) = true := by simpa using c48))
             (try (have c48b2 : (t371 == x11_43) = true := by simpa using c48))
             clear c48
             by_cases c50 : x11_43 = true
             ·subst c50
              have H1 : (if 0 ≤ ((rd_T75 l1 x8_2).f1) then (if ((rd_T75 l1 x8_2).f1) ≤ (x7_2.length : Int) then ((some (x7_2.drop (((rd_T75 l1 x8_2).f1) : Int).toNat : List Int)).bind fun y375 => ((fill_Reader_Left.f t372 t373 t374).bind fun bt378 => (if bt378.1 = (y375.length : Int) then (gaiterlaw02_FillPlays.l0 kj43 l1 t338 y375 (wrap64 (x8_2 + 1)) bt378.2.1 bt378.2.2.1 bt378.2.2.2) else (some false)))) else (none)) else (none)) = some r := by rw [if_pos rfl] at H; exact H
              clear H
              have H := H1
              clear H1
              by_cases c51 : 0 ≤ ((rd_T75 l1 x8_2).f1)
              ·rw [if_pos c51] at H
               have c51b0 := eq_true c51
               have c51b1 : decide (0 ≤ ((rd_T75 l1 x8_2).f1)) = true := decide_eq_true c51
               clear c51
               by_cases c52 : ((rd_T75 l1 x8_2).f1) ≤ (x7_2.length : Int)
               ·rw [if_pos c52] at H
                have c52b0 := eq_true c52
                have c52b1 : decide (((rd_T75 l1 x8_2).f1) ≤ (x7_2.length : Int)) = true := decide_eq_true c52
                clear c52
                obtain ⟨y375, hy375⟩ : ∃ y_ : List Int, y_ = (x7_2.drop (((rd_T75 l1 x8_2).f1) : Int).toNat) := ⟨_, rfl⟩
                replace H : ((fill_Reader_Left.f t372 t373 t374).bind fun bt378 => (if bt378.1 = (y375.length : Int) then (gaiterlaw02_FillPlays.l0 kj43 l1 t338 y375 (wrap64 (x8_2 + 1)) bt378.2.1 bt378.2.2.1 bt378.2.2.2) else (some false))) = some r := by first | (rw [hy375]; with_reducible exact H) | (have H2_ := (Option.bind_some _ _).symm.trans H; rw [hy375]; with_reducible exact H2_) | (have H2_ := (Option.bind_some _ _).symm.trans H; with_reducible exact H2_) | with_reducible exact H | (rw [hy375]; exact H) | exact H
                have Ny375 := Aside0.mk hy375
                clear hy375
                replace H := Option.bind_eq_some_iff.mp H
                obtain ⟨⟨t378, t379, t380, t381⟩, A530, H⟩ := H
                replace H : (if t378 = (y375.length : Int) then (gaiterlaw02_FillPlays.l0 kj43 l1 t338 y375 (wrap64 (x8_2 + 1)) t379 t380 t381) else (some false)) = some r := H
                have A53 := Aside0.mk A530
                clear A530
                by_cases c54 : t378 = (y375.length : Int)
                ·rw [if_pos c54] at H
                 have c54b0 : (t378 == (y375.length : Int)) = true := beq_iff_eq.mpr c54
                 have c54b1 : (t378 != (y375.length : Int)) = false := bne_eq_false_iff_eq.mpr c54
                 clear c54
                 have H' := Aside0.mk H
                 clear H
                 go_wp2_with (first | ((with_reducible refine gate_callee (f := 47) rfl ?_); refine goesL_ (some 113) rfl rfl Try.func47 (by kernel_rfl) rfl #[.pointer (some ⟨g342, 0, none⟩), .int .i64 ((rd_T75 l1 x8_2).f1)] rfl (by (try simp only [List.map_toArray, List.map_cons, List.map_nil]); first | done | rfl | (simp only [List.length_drop, List.length_take]; rfl)) ?_; (with_reducible refine (fill_Reader_Skip.calls kj43 g342 x343000_2 x343001_2 x343002_2 ((rd_T75 l1 x8_2).f1) t371 t372 t373 t374 w _ ?side1 ?side2 A47.out).mono ?_); (case side1 => repeat (first | (with_reducible first | exact HI342.out | apply IsS95.alloc | apply IsS95.drewN | apply IsS95.drew | apply IsS95.set_1 | apply IsS95.set_2) | exact HI342.out)); (case side2 => repeat (first | (with_reducible first | exact HB.out | apply below_alloc | apply pw_below_drewN | apply below_drew1 | refine below_set ?_ (IsS95.ge HI342.out)) | exact HB.out)); rintro e w55 ⟨rfl, hi, hb, hk⟩; refine ⟨_, rfl, ?_⟩; have n0_ := Aside0.mk (Kd.Q_mono (Kd.Q_keep (IsS95.apartQ (show IsS95 w _ g342 x343000_2 x343001_2 x343002_2 from by repeat (first | (with_reducible first | exact HI342.out | apply IsS95.alloc | apply IsS95.drewN | apply IsS95.drew | apply IsS95.set_1 | apply IsS95.set_2) | exact HI342.out)) (by (with_reducible repeat (first | apply Kd.Q_alloc | apply Kd.Q_drewN | apply Kd.Q_drew)); exact HO_7.out) (by decide)) hk (fun _ h => h.2)) (fun _ h => h.1)); have n1_ := Aside0.mk (hb); have n2_ := Aside0.mk (hi); clear HO_7; clear HB; clear HI342; have HO_7 := n0_; have HB := n1_; have HI342 := n2_; clear n0_ n1_ n2_; (try clear hb); (try clear hb2); (try clear hk); (try clear hi); obtain ⟨Ao56, co56, eo56, _⟩ := Kd.Q_slice HO_7.out; subst eo56; have q57 : (((rd_T75 l1 x8_2).f1) : Int) ≤ ((x7_2.length : Int) : Int) := of_decide_eq_true (by first | (with_reducible assumption) | assumption); obtain ⟨i057, hi057, _, hsz57, _⟩ := info_parts info5; have hcut57 := cut_from (P := Try.prog) 27 5 .i64 Try.underlying27 hi057 1 hsz57 Ao56 x7_2.length co56 ((rd_T75 l1 x8_2).f1) (of_decide_eq_true (by first | (with_reducible assumption) | assumption)) q57; have hr57 := Kd.Q_drop (k := (((rd_T75 l1 x8_2).f1) : Int).toNat) HO_7.out (by omega); obtain ⟨A57, hA57⟩ : ∃ A1, A1 = (if co56 = (((rd_T75 l1 x8_2).f1) : Int).toNat then Ao56 else (Ao56 : Option Addr).map (·.add ((((rd_T75 l1 x8_2).f1) : Int).toNat * 1))) := ⟨_, rfl⟩; obtain ⟨c57, hc57⟩ : ∃ c1, c1 = co56 - (((rd_T75 l1 x8_2).f1) : Int).toNat := ⟨_, rfl⟩; have hy57 : y375.length = x7_2.length - (((rd_T75 l1 x8_2).f1) : Int).toNat := (by rw [Ny375.out, List.length_drop]); rw [← Ny375.out] at hr57; rw [← hy57, ← hA57, ← hc57] at hcut57; replace hr57 : Kd.Q (Kd.int .u8) 5 w55 w.heap.size (fun _ => True) (.slice A57 y375.length c57) y375 := (by rw [hA57, hc57, hy57]; exact hr57); have HE57 : Aside0 ((Value.slice A57 y375.length c57).ownBlock = (.slice Ao56 x7_2.length co56 : Value).ownBlock) := ⟨by rw [hA57]; split <;> (cases (Ao56 : Option Addr) <;> first | rfl | (simp only [Option.map, Value.ownBlock, Addr.add]; split <;> rfl))⟩; clear hy57 hi057 hsz57 HO_7 hA57 hc57; have HO377 := Aside0.mk hr57; clear hr57; (try (have q57s := q57; simp only [List.length_drop, List.length_take] at q57s; replace q57s := eq_true q57s)); replace q57 := eq_true q57) | ((with_reducible refine gate_callee (f := 49) rfl ?_); refine goesL_ (some 121) rfl rfl Try.func49 (by kernel_rfl) rfl #[.pointer (some ⟨g342, 0, none⟩)] rfl (by (try simp only [List.map_toArray, List.map_cons, List.map_nil]); first | done | rfl | (simp only [List.length_drop, List.length_take]; rfl)) ?_; (with_reducible refine (fill_Reader_Left.calls g342 t372 t373 t374 t378 t379 t380 t381 w _ ?side1 ?side2 A53.out).mono ?_); (case side1 => repeat (first | (with_reducible first | exact HI342.out | apply IsS95.alloc | apply IsS95.drewN | apply IsS95.drew | apply IsS95.set_1 | apply IsS95.set_2) | exact HI342.out)); (case side2 => repeat (first | (with_reducible first | exact HB.out | apply below_alloc | apply pw_below_drewN | apply below_drew1 | refine below_set ?_ (IsS95.ge HI342.out)) | exact HB.out)); rintro e w58 ⟨rfl, hi, hb, hk⟩; refine ⟨_, rfl, ?_⟩; have n0_ := Aside0.mk (Kd.Q_mono (Kd.Q_keep (IsS95.apartQ (show IsS95 w _ g342 t372 t373 t374 from by repeat (first | (with_reducible first | exact HI342.out | apply IsS95.alloc | apply IsS95.drewN | apply IsS95.drew | apply IsS95.set_1 | apply IsS95.set_2) | exact HI342.out)) (by (with_reducible repeat (first | apply Kd.Q_alloc | apply Kd.Q_drewN | apply Kd.Q_drew)); exact HO377.out) (by decide)) hk (fun _ h => h.2)) (fun _ h => h.1)); have n1_ := Aside0.mk (hb); have n2_ := Aside0.mk (hi); clear HO377; clear HB; clear HI342; have HO377 := n0_; have HB := n1_; have HI342 := n2_; clear n0_ n1_ n2_; (try clear hb); (try clear hb2); (try clear hk); (try clear hi)))
                 go_roundg kj43
                 case measure => have := HJ3.out; have := HK2.out; have := HJ43.out; omega
                 case rel => exact ⟨(y375), (wrap64 (x8_2 + 1)), (t379), (t380), (t381), (by first | rfl | (simp; done) | (simp [*]; done)), H', ⟨by have := HJ3.out; have := HK2.out; have := HJ43.out; omega⟩, ⟨by (with_reducible repeat (first | apply Kd.Q_alloc | apply Kd.Q_drewN | apply Kd.Q_drew)); exact HO377.out⟩, ⟨by repeat (first | (with_reducible first | exact HI342.out | apply IsS95.alloc | apply IsS95.drewN | apply IsS95.drew | apply IsS95.set_1 | apply IsS95.set_2) | exact HI342.out)⟩, ⟨by repeat (first | (with_reducible first | exact HB.out | apply below_alloc | apply pw_below_drewN | apply below_drew1 | refine below_set ?_ (IsS95.ge HI342.out)) | exact HB.out)⟩⟩
                ·rw [if_neg c54] at H
                 have c54b0 : (t378 == (y375.length : Int)) = false := beq_eq_false_iff_ne.mpr c54
                 have c54b1 : (t378 != (y375.length : Int)) = true := bne_iff_ne.mpr c54
                 obtain rfl := Option.some.inj H
                 go_wp2_with (first | ((with_reducible refine gate_callee (f := 47) rfl ?_); refine goesL_ (some 113) rfl rfl Try.func47 (by kernel_rfl) rfl #[.pointer (some ⟨g342, 0, none⟩), .int .i64 ((rd_T75 l1 x8_2).f1)] rfl (by (try simp only [List.map_toArray, List.map_cons, List.map_nil]); first | done | rfl | (simp only [List.length_drop, List.length_take]; rfl)) ?_; (with_reducible refine (fill_Reader_Skip.calls kj43 g342 x343000_2 x343001_2 x343002_2 ((rd_T75 l1 x8_2).f1) t371 t372 t373 t374 w _ ?side1 ?side2 A47.out).mono ?_); (case side1 => repeat (first | (with_reducible first | exact HI342.out | apply IsS95.alloc | apply IsS95.drewN | apply IsS95.drew | apply IsS95.set_1 | apply IsS95.set_2) | exact HI342.out)); (case side2 => repeat (first | (with_reducible first | exact HB.out | apply below_alloc | apply pw_below_drewN | apply below_drew1 | refine below_set ?_ (IsS95.ge HI342.out)) | exact HB.out)); rintro e w59 ⟨rfl, hi, hb, hk⟩; refine ⟨_, rfl, ?_⟩; have n0_ := Aside0.mk (Kd.Q_mono (Kd.Q_keep (IsS95.apartQ (show IsS95 w _ g342 x343000_2 x343001_2 x343002_2 from by repeat (first | (with_reducible first | exact HI342.out | apply IsS95.alloc | apply IsS95.drewN | apply IsS95.drew | apply IsS95.set_1 | apply IsS95.set_2) | exact HI342.out)) (by (with_reducible repeat (first | apply Kd.Q_alloc | apply Kd.Q_drewN | apply Kd.Q_drew)); exact HO_7.out) (by decide)) hk (fun _ h => h.2)) (fun _ h => h.1)); have n1_ := Aside0.mk (hb); have n2_ := Aside0.mk (hi); clear HO_7; clear HB; clear HI342; have HO_7 := n0_; have HB := n1_; have HI342 := n2_; clear n0_ n1_ n2_; (try clear hb); (try clear hb2); (try clear hk); (try clear hi); obtain ⟨Ao60, co60, eo60, _⟩ := Kd.Q_slice HO_7.out; subst eo60; have q61 : (((rd_T75 l1 x8_2).f1) : Int) ≤ ((x7_2.length : Int) : Int) := of_decide_eq_true (by first | (with_reducible assumption) | assumption); obtain ⟨i061, hi061, _, hsz61, _⟩ := info_parts info5; have hcut61 := cut_from (P := Try.prog) 27 5 .i64 Try.underlying27 hi061 1 hsz61 Ao60 x7_2.length co60 ((rd_T75 l1 x8_2).f1) (of_decide_eq_true (by first | (with_reducible assumption) | assumption)) q61; have hr61 := Kd.Q_drop (k := (((rd_T75 l1 x8_2).f1) : Int).toNat) HO_7.out (by omega); obtain ⟨A61, hA61⟩ : ∃ A1, A1 = (if co60 = (((rd_T75 l1 x8_2).f1) : Int).toNat then Ao60 else (Ao60 : Option Addr).map (·.add ((((rd_T75 l1 x8_2).f1) : Int).toNat * 1))) := ⟨_, rfl⟩; obtain ⟨c61, hc61⟩ : ∃ c1, c1 = co60 - (((rd_T75 l1 x8_2).f1) : Int).toNat := ⟨_, rfl⟩; have hy61 : y375.length = x7_2.length - (((rd_T75 l1 x8_2).f1) : Int).toNat := (by rw [Ny375.out, List.length_drop]); rw [← Ny375.out] at hr61; rw [← hy61, ← hA61, ← hc61] at hcut61; replace hr61 : Kd.Q (Kd.int .u8) 5 w59 w.heap.size (fun _ => True) (.slice A61 y375.length c61) y375 := (by rw [hA61, hc61, hy61]; exact hr61); have HE61 : Aside0 ((Value.slice A61 y375.length c61).ownBlock = (.slice Ao60 x7_2.length co60 : Value).ownBlock) := ⟨by rw [hA61]; split <;> (cases (Ao60 : Option Addr) <;> first | rfl | (simp only [Option.map, Value.ownBlock, Addr.add]; split <;> rfl))⟩; clear hy61 hi061 hsz61 HO_7 hA61 hc61; have HO377 := Aside0.mk hr61; clear hr61; (try (have q61s := q61; simp only [List.length_drop, List.length_take] at q61s; replace q61s := eq_true q61s)); replace q61 := eq_true q61) | ((with_reducible refine gate_callee (f := 49) rfl ?_); refine goesL_ (some 121) rfl rfl Try.func49 (by kernel_rfl) rfl #[.pointer (some ⟨g342, 0, none⟩)] rfl (by (try simp only [List.map_toArray, List.map_cons, List.map_nil]); first | done | rfl | (simp only [List.length_drop, List.length_take]; rfl)) ?_; (with_reducible refine (fill_Reader_Left.calls g342 t372 t373 t374 t378 t379 t380 t381 w _ ?side1 ?side2 A53.out).mono ?_); (case side1 => repeat (first | (with_reducible first | exact HI342.out | apply IsS95.alloc | apply IsS95.drewN | apply IsS95.drew | apply IsS95.set_1 | apply IsS95.set_2) | exact HI342.out)); (case side2 => repeat (first | (with_reducible first | exact HB.out | apply below_alloc | apply pw_below_drewN | apply below_drew1 | refine below_set ?_ (IsS95.ge HI342.out)) | exact HB.out)); rintro e w62 ⟨rfl, hi, hb, hk⟩; refine ⟨_, rfl, ?_⟩; have n0_ := Aside0.mk (Kd.Q_mono (Kd.Q_keep (IsS95.apartQ (show IsS95 w _ g342 t372 t373 t374 from by repeat (first | (with_reducible first | exact HI342.out | apply IsS95.alloc | apply IsS95.drewN | apply IsS95.drew | apply IsS95.set_1 | apply IsS95.set_2) | exact HI342.out)) (by (with_reducible repeat (first | apply Kd.Q_alloc | apply Kd.Q_drewN | apply Kd.Q_drew)); exact HO377.out) (by decide)) hk (fun _ h => h.2)) (fun _ h => h.1)); have n1_ := Aside0.mk (hb); have n2_ := Aside0.mk (hi); clear HO377; clear HB; clear HI342; have HO377 := n0_; have HB := n1_; have HI342 := n2_; clear n0_ n1_ n2_; (try clear hb); (try clear hb2); (try clear hk); (try clear hi)))
                 go_ret
                 exact ⟨by first | rfl | (simp [errW_none, errW_some] <;> rfl) | (simp [*, errW_none, errW_some] <;> rfl), by repeat (first | (with_reducible first | exact HB.out | apply below_alloc | apply pw_below_drewN | apply below_drew1 | refine below_set ?_ (IsS95.ge HI342.out)) | exact HB.out)⟩
               ·rw [if_neg c52] at H
                exact absurd H (by simp)
              ·rw [if_neg c51] at H
               exact absurd H (by simp)
             ·replace c50 := Bool.eq_false_iff.mpr c50
              subst c50
              have H1 : ((fill_Reader_Left.f t372 t373 t374).bind fun bt382 => (if bt382.1 = (x7_2.length : Int) then (gaiterlaw02_FillPlays.l0 kj43 l1 t338 x7_2 (wrap64 (x8_2 + 1)) bt382.2.1 bt382.2.2.1 bt382.2.2.2) else (some false))) = some r := by rw [if_neg (show ¬ (false = true) by decide)] at H; exact H
              clear H
              have H := H1
              clear H1
              replace H := Option.bind_eq_some_iff.mp H
              obtain ⟨⟨t382, t383, t384, t385⟩, A630, H⟩ := H
              replace H : (if t382 = (x7_2.length : Int) then (gaiterlaw02_FillPlays.l0 kj43 l1 t338 x7_2 (wrap64 (x8_2 + 1)) t383 t384 t385) else (some false)) = some r := H
              have A63 := Aside0.mk A630
              clear A630
              by_cases c64 : t382 = (x7_2.length : Int)
              ·rw [if_pos c64] at H
               have c64b0 : (t382 == (x7_2.length : Int)) = true := beq_iff_eq.mpr c64
               have c64b1 : (t382 != (x7_2.length : Int)) = false := bne_eq_false_iff_eq.mpr c64
               clear c64
               have H' := Aside0.mk H
               clear H
               go_wp2_with (first | ((with_reducible refine gate_callee (f := 47) rfl ?_); refine goesL_ (some 113) rfl rfl Try.func47 (by kernel_rfl) rfl #[.pointer (some ⟨g342, 0, none⟩), .int .i64 ((rd_T75 l1 x8_2).f1)] rfl (by (try simp only [List.map_toArray, List.map_cons, List.map_nil]); first | done | rfl | (simp only [List.length_drop, List.length_take]; rfl)) ?_; (with_reducible refine (fill_Reader_Skip.calls kj43 g342 x343000_2 x343001_2 x343002_2 ((rd_T75 l1 x8_2).f1) t371 t372 t373 t374 w _ ?side1 ?side2 A47.out).mono ?_); (case side1 => repeat (first | (with_reducible first | exact HI342.out | apply IsS95.alloc | apply IsS95.drewN | apply IsS95.drew | apply IsS95.set_1 | apply IsS95.set_2) | exact HI342.out)); (case side2 => repeat (first | (with_reducible first | exact HB.out | apply below_alloc | apply pw_below_drewN | apply below_drew1 | refine below_set ?_ (IsS95.ge HI342.out)) | exact HB.out)); rintro e w65 ⟨rfl, hi, hb, hk⟩; refine ⟨_, rfl, ?_⟩; have n0_ := Aside0.mk (Kd.Q_mono (Kd.Q_keep (IsS95.apartQ (show IsS95 w _ g342 x343000_2 x343001_2 x343002_2 from by repeat (first | (with_reducible first | exact HI342.out | apply IsS95.alloc | apply IsS95.drewN | apply IsS95.drew | apply IsS95.set_1 | apply IsS95.set_2) | exact HI342.out)) (by (with_reducible repeat (first | apply Kd.Q_alloc | apply Kd.Q_drewN | apply Kd.Q_drew)); exact HO_7.out) (by decide)) hk (fun _ h => h.2)) (fun _ h => h.1)); have n1_ := Aside0.mk (hb); have n2_ := Aside0.mk (hi); clear HO_7; clear HB; clear HI342; have HO_7 := n0_; have HB := n1_; have HI342 := n2_; clear n0_ n1_ n2_; (try clear hb); (try clear hb2); (try clear hk); (try clear hi)) | ((with_reducible refine gate_callee (f := 49) rfl ?_); refine goesL_ (some 121) rfl rfl Try.func49 (by kernel_rfl) rfl #[.pointer (some ⟨g342, 0, none⟩)] rfl (by (try simp only [List.map_toArray, List.map_cons, List.map_nil]); first | done | rfl | (simp only [List.length_drop, List.length_take]; rfl)) ?_; (with_reducible refine (fill_Reader_Left.calls g342 t372 t373 t374 t382 t383 t384 t385 w _ ?side1 ?side2 A63.out).mono ?_); (case side1 => repeat (first | (with_reducible first | exact HI342.out | apply IsS95.alloc | apply IsS95.drewN | apply IsS95.drew | apply IsS95.set_1 | apply IsS95.set_2) | exact HI342.out)); (case side2 => repeat (first | (with_reducible first | exact HB.out | apply below_alloc | apply pw_below_drewN | apply below_drew1 | refine below_set ?_ (IsS95.ge HI342.out)) | exact HB.out)); rintro e w66 ⟨rfl, hi, hb, hk⟩; refine ⟨_, rfl, ?_⟩; have n0_ := Aside0.mk (Kd.Q_mono (Kd.Q_keep (IsS95.apartQ (show IsS95 w _ g342 t372 t373 t374 from by repeat (first | (with_reducible first | exact HI342.out | apply IsS95.alloc | apply IsS95.drewN | apply IsS95.drew | apply IsS95.set_1 | apply IsS95.set_2) | exact HI342.out)) (by (with_reducible repeat (first | apply Kd.Q_alloc | apply Kd.Q_drewN | apply Kd.Q_drew)); exact HO_7.out) (by decide)) hk (fun _ h => h.2)) (fun _ h => h.1)); have n1_ := Aside0.mk (hb); have n2_ := Aside0.mk (hi); clear HO_7; clear HB; clear HI342; have HO_7 := n0_; have HB := n1_; have HI342 := n2_; clear n0_ n1_ n2_; (try clear hb); (try clear hb2); (try clear hk); (try clear hi); obtain ⟨Ao67, co67, eo67, _⟩ := Kd.Q_slice HO_7.out; subst eo67))
               go_roundg kj43
               case measure => have := HJ3.out; have := HK2.out; have := HJ43.out; omega
               case rel => exact ⟨(x7_2), (wrap64 (x8_2 + 1)), (t383), (t384), (t385), (by first | rfl | (simp; done) | (simp [*]; done)), H', ⟨by have := HJ3.out; have := HK2.out; have := HJ43.out; omega⟩, ⟨by (with_reducible repeat (first | apply Kd.Q_alloc | apply Kd.Q_drewN | apply Kd.Q_drew)); exact HO_7.out⟩, ⟨by repeat (first | (with_reducible first | exact HI342.out | apply IsS95.alloc | apply IsS95.drewN | apply IsS95.drew | apply IsS95.set_1 | apply IsS95.set_2) | exact HI342.out)⟩, ⟨by repeat (first | (with_reducible first | exact HB.out | apply below_alloc | apply pw_below_drewN | apply below_drew1 | refine below_set ?_ (IsS95.ge HI342.out)) | exact HB.out)⟩⟩
              ·rw [if_neg c64] at H
               have c64b0 : (t382 == (x7_2.length : Int)) = false := beq_eq_false_iff_ne.mpr c64
               have c64b1 : (t382 != (x7_2.length : Int)) = true := bne_iff_ne.mpr c64
               obtain rfl := Option.some.inj H
               go_wp2_with (first | ((with_reducible refine gate_callee (f := 47) rfl ?_); refine goesL_ (some 113) rfl rfl Try.func47 (by kernel_rfl) rfl #[.pointer (some ⟨g342, 0, none⟩), .int .i64 ((rd_T75 l1 x8_2).f1)] rfl (by (try simp only [List.map_toArray, List.map_cons, List.map_nil]); first | done | rfl | (simp only [List.length_drop, List.length_take]; rfl)) ?_; (with_reducible refine (fill_Reader_Skip.calls kj43 g342 x343000_2 x343001_2 x343002_2 ((rd_T75 l1 x8_2).f1) t371 t372 t373 t374 w _ ?side1 ?side2 A47.out).mono ?_); (case side1 => repeat (first | (with_reducible first | exact HI342.out | apply IsS95.alloc | apply IsS95.drewN | apply IsS95.drew | apply IsS95.set_1 | apply IsS95.set_2) | exact HI342.out)); (case side2 => repeat (first | (with_reducible first | exact HB.out | apply below_alloc | apply pw_below_drewN | apply below_drew1 | refine below_set ?_ (IsS95.ge HI342.out)) | exact HB.out)); rintro e w68 ⟨rfl, hi, hb, hk⟩; refine ⟨_, rfl, ?_⟩; have n0_ := Aside0.mk (Kd.Q_mono (Kd.Q_keep (IsS95.apartQ (show IsS95 w _ g342 x343000_2 x343001_2 x343002_2 from by repeat (first | (with_reducible first | exact HI342.out | apply IsS95.alloc | apply IsS95.drewN | apply IsS95.drew | apply IsS95.set_1 | apply IsS95.set_2) | exact HI342.out)) (by (with_reducible repeat (first | apply Kd.Q_alloc | apply Kd.Q_drewN | apply Kd.Q_drew)); exact HO_7.out) (by decide)) hk (fun _ h => h.2)) (fun _ h => h.1)); have n1_ := Aside0.mk (hb); have n2_ := Aside0.mk (hi); clear HO_7; clear HB; clear HI342; have HO_7 := n0_; have HB := n1_; have HI342 := n2_; clear n0_ n1_ n2_; (try clear hb); (try clear hb2); (try clear hk); (try clear hi)) | ((with_reducible refine gate_callee (f := 49) rfl ?_); refine goesL_ (some 121) rfl rfl Try.func49 (by kernel_rfl) rfl #[.pointer (some ⟨g342, 0, none⟩)] rfl (by (try simp only [List.map_toArray, List.map_cons, List.map_nil]); first | done | rfl | (simp only [List.length_drop, List.length_take]; rfl)) ?_; (with_reducible refine (fill_Reader_Left.calls g342 t372 t373 t374 t382 t383 t384 t385 w _ ?side1 ?side2 A63.out).mono ?_); (case side1 => repeat (first | (with_reducible first | exact HI342.out | apply IsS95.alloc | apply IsS95.drewN | apply IsS95.drew | apply IsS95.set_1 | apply IsS95.set_2) | exact HI342.out)); (case side2 => repeat (first | (with_reducible first | exact HB.out | apply below_alloc | apply pw_below_drewN | apply below_drew1 | refine below_set ?_ (IsS95.ge HI342.out)) | exact HB.out)); rintro e w69 ⟨rfl, hi, hb, hk⟩; refine ⟨_, rfl, ?_⟩; have n0_ := Aside0.mk (Kd.Q_mono (Kd.Q_keep (IsS95.apartQ (show IsS95 w _ g342 t372 t373 t374 from by repeat (first | (with_reducible first | exact HI342.out | apply IsS95.alloc | apply IsS95.drewN | apply IsS95.drew | apply IsS95.set_1 | apply IsS95.set_2) | exact HI342.out)) (by (with_reducible repeat (first | apply Kd.Q_alloc | apply Kd.Q_drewN | apply Kd.Q_drew)); exact HO_7.out) (by decide)) hk (fun _ h => h.2)) (fun _ h => h.1)); have n1_ := Aside0.mk (hb); have n2_ := Aside0.mk (hi); clear HO_7; clear HB; clear HI342; have HO_7 := n0_; have HB := n1_; have HI342 := n2_; clear n0_ n1_ n2_; (try clear hb); (try clear hb2); (try clear hk); (try clear hi); obtain ⟨Ao70, co70, eo70, _⟩ := Kd.Q_slice HO_7.out; subst eo70))
               go_ret
               exact ⟨by first | rfl | (simp [errW_none, errW_some] <;> rfl) | (simp [*, errW_none, errW_some] <;> rfl), by repeat (first | (with_reducible first | exact HB.out | apply below_alloc | apply pw_below_drewN | apply below_drew1 | refine below_set ?_ (IsS95.ge HI342.out)) | exact HB.out)⟩
         ·rw [if_neg c43] at H
          have c43b0 : (t348 == 1) = false := beq_eq_false_iff_ne.mpr c43
          have c43b1 : (t348 != 1) = true := bne_iff_ne.mpr c43
          replace H := Option.bind_eq_some_iff.mp H
          obtain ⟨⟨t386, t387, t388, t389, t390⟩, A710, H⟩ := H
          replace H : (if ((rd_T75 l1 x8_2).f1) < 0 then (gaiterlaw02_FillPlays.j5 k2 l1 t338 x7_2 x8_2 ((rd_T75 l1 x8_2).f1) t386 t387 true t388 t389 t390) else (if ((rd_T75 l1 x8_2).f1) > 64 then (gaiterlaw02_FillPlays.j5 k2 l1 t338 x7_2 x8_2 ((rd_T75 l1 x8_2).f1) t386 t387 true t388 t389 t390) else (gaiterlaw02_FillPlays.j5 k2 l1 t338 x7_2 x8_2 ((rd_T75 l1 x8_2).f1) t386 t387 (decide (((rd_T75 l1 x8_2).f1) > (x7_2.length : Int))) t388 t389 t390))) = some r := H
          have A71 := Aside0.mk A710
          clear A710
          have HC72 := Aside0.mk H
          clear H
          have p346 : 0 ≤ (x8_2 : Int) := of_decide_eq_true (by first | (with_reducible assumption) | assumption)
          have q346 : x8_2 < (l1.length : Int) := of_decide_eq_true (by first | (with_reducible assumption) | assumption)
          obtain ⟨ad346, e346, hx346_0, hx346_1⟩ := at_T75 HR1.out x8_2 p346 q346
          cases e346
          replace hx346_0 := (HB.out.cell (World.block_lt_of_cell? w _ hx346_0)).trans hx346_0
          replace hx346_1 := (HB.out.cell (World.block_lt_of_cell? w _ hx346_1)).trans hx346_1
          replace p346 := eq_true p346
          (try (have q346s := q346; simp only [List.length_drop, List.length_take] at q346s; replace q346s := eq_true q346s)); replace q346 := eq_true q346
          have p347 : 0 ≤ (x8_2 : Int) := of_decide_eq_true (by first | (with_reducible assumption) | assumption)
          have q347 : x8_2 < (l1.length : Int) := of_decide_eq_true (by first | (with_reducible assumption) | assumption)
          obtain ⟨ad347, e347, hx347_0, hx347_1⟩ := at_T75 HR1.out x8_2 p347 q347
          obtain rfl : ad346 = ad347 := (by injection e347)
          replace hx347_0 := (HB.out.cell (World.block_lt_of_cell? w _ hx347_0)).trans hx347_0
          replace hx347_1 := (HB.out.cell (World.block_lt_of_cell? w _ hx347_1)).trans hx347_1
          replace p347 := eq_true p347
          (try (have q347s := q347; simp only [List.length_drop, List.length_take] at q347s; replace q347s := eq_true q347s)); replace q347 := eq_true q347
          go_upto_region 12 with (first | ((with_reducible refine gate_callee (f := 29) rfl ?_); refine goesL_ (some 44) rfl rfl Try.func29 (by kernel_rfl) rfl #[.int .i64 ((rd_T75 l1 x8_2).f0), .int .i64 4] rfl (by (try simp only [List.map_toArray, List.map_cons, List.map_nil]); first | done | rfl | (simp only [List.length_drop, List.length_take]; rfl)) ?_; (with_reducible refine (gaiterlaw00_Pick.calls ((rd_T75 l1 x8_2).f0) 4 t348 _ A14.out).mono ?_); rintro e w' ⟨rfl, ⟨nd, rfl⟩⟩; refine ⟨_, rfl, ?_⟩) | ((with_reducible refine gate_callee (f := 48) rfl ?_); refine goesL_ (some 48) rfl rfl Try.func48 (by kernel_rfl) rfl #[.pointer (some ⟨g342, 0, none⟩), .int .i64 ((rd_T75 l1 x8_2).f1)] rfl (by (try simp only [List.map_toArray, List.map_cons, List.map_nil]); first | done | rfl | (simp only [List.length_drop, List.length_take]; rfl)) ?_; (with_reducible refine (fill_Reader_Read.calls k2 g342 x343000_2 x343001_2 x343002_2 ((rd_T75 l1 x8_2).f1) t386 t387 t388 t389 t390 w _ ?side1 ?side2 A71.out).mono ?_); (case side1 => repeat (first | (with_reducible first | exact HI342.out | apply IsS95.alloc | apply IsS95.drewN | apply IsS95.drew | apply IsS95.set_1 | apply IsS95.set_2) | exact HI342.out)); (case side2 => repeat (first | (with_reducible first | exact HB.out | apply below_alloc | apply pw_below_drewN | apply below_drew1 | refine below_set ?_ (IsS95.ge HI342.out)) | exact HB.out)); rintro e w73 ⟨rfl, hi, hb, hk⟩; refine ⟨_, rfl, ?_⟩; have n0_ := Aside0.mk (Kd.Q_mono (Kd.Q_keep (IsS95.apartQ (show IsS95 w _ g342 x343000_2 x343001_2 x343002_2 from by repeat (first | (with_reducible first | exact HI342.out | apply IsS95.alloc | apply IsS95.drewN | apply IsS95.drew | apply IsS95.set_1 | apply IsS95.set_2) | exact HI342.out)) (by (with_reducible repeat (first | apply Kd.Q_alloc | apply Kd.Q_drewN | apply Kd.Q_drew)); exact HO_7.out) (by decide)) hk (fun _ h => h.2)) (fun _ h => h.1)); have n1_ := Aside0.mk (hb); have n2_ := Aside0.mk (hi); clear HO_7; clear HB; clear HI342; have HO_7 := n0_; have HB := n1_; have HI342 := n2_; clear n0_ n1_ n2_; (try clear hb); (try clear hb2); (try clear hk); (try clear hi)))
          (try simp only [Act.put, List.setIfInBounds_toArray, List.set_cons_zero, List.set_cons_succ])
          go_cut [62] (fun v62 wc => ∃ (kq : Nat) (x62_71 : Bool), v62 = .bool x62_71 ∧ Aside0 (gaiterlaw02_FillPlays.j5 kq l1 t338 x7_2 x8_2 ((rd_T75 l1 x8_2).f1) t386 t387 x62_71 t388 t389 t390 = some r) ∧ Aside0 (kq ≤ k2) ∧ Aside0 (Kd.Q (Kd.int .u8) 5 wc w.heap.size (fun _ => True) u7 x7_2) ∧ Aside0 (IsS95 w wc g342 t388 t389 t390) ∧ Aside0 (Below w.heap.size w wc))
          case first =>
           have H := HC72.out
           clear HC72
           by_cases c74 : ((rd_T75 l1 x8_2).f1) < 0
           ·rw [if_pos c74] at H
            have c74b0 : decide (((rd_T75 l1 x8_2).f1) < 0) = true := decide_eq_true c74
            clear c74
            (first | rw [c74b0] | (simp only [i64_w, i32_w]; rw [c74b0]) | skip)
            have H' := Aside0.mk H
            clear H
            go_wp2
            go_meet
            case rel => exact ⟨_, (true), (by first | rfl | (simp; done) | (simp [*]; done)), H', ⟨by have := HJ3.out; have := HK2.out; first | omega | exact Nat.le_refl _⟩, ⟨by (with_reducible repeat (first | apply Kd.Q_alloc | apply Kd.Q_drewN | apply Kd.Q_drew)); exact HO_7.out⟩, ⟨by repeat (first | (with_reducible first | exact HI342.out | apply IsS95.alloc | apply IsS95.drewN | apply IsS95.drew | apply IsS95.set_1 | apply IsS95.set_2) | exact HI342.out)⟩, ⟨by repeat (first | (with_reducible first | exact HB.out | apply below_alloc | apply pw_below_drewN | apply below_drew1 | refine below_set ?_ (IsS95.ge HI342.out)) | exact HB.out)⟩⟩
           ·rw [if_neg c74] at H
            have c74b0 : decide (((rd_T75 l1 x8_2).f1) < 0) = false := decide_eq_false c74
            clear c74
            (first | rw [c74b0] | (simp only [i64_w, i32_w]; rw [c74b0]) | skip)
            by_cases c75 : ((rd_T75 l1 x8_2).f1) > 64
            ·rw [if_pos c75] at H
             have c75b0 : decide (64 < ((rd_T75 l1 x8_2).f1)) = true := decide_eq_true c75
             clear c75
             have H' := Aside0.mk H
             clear H
             go_wp2
             go_meet
             case rel => exact ⟨_, (true), (by first | rfl | (simp; done) | (simp [*]; done)), H', ⟨by have := HJ3.out; have := HK2.out; first | omega | exact Nat.le_refl _⟩, ⟨by (with_reducible repeat (first | apply Kd.Q_alloc | apply Kd.Q_drewN | apply Kd.Q_drew)); exact HO_7.out⟩, ⟨by repeat (first | (with_reducible first | exact HI342.out | apply IsS95.alloc | apply IsS95.drewN | apply IsS95.drew | apply IsS95.set_1 | apply IsS95.set_2) | exact HI342.out)⟩, ⟨by repeat (first | (with_reducible first | exact HB.out | apply below_alloc | apply pw_below_drewN | apply below_drew1 | refine below_set ?_ (IsS95.ge HI342.out)) | exact HB.out)⟩⟩
            ·rw [if_neg c75] at H
             have c75b0 : decide (64 < ((rd_T75 l1 x8_2).f1)) = false := decide_eq_false c75
             clear c75
             have H' := Aside0.mk H
             clear H
             obtain ⟨Ao76, co76, eo76, _⟩ := Kd.Q_slice HO_7.out
             subst eo76
             go_wp2
             go_meet
             case rel => exact ⟨_, (decide (((rd_T75 l1 x8_2).f1) > (x7_2.length : Int))), (by first | rfl | (simp; done) | (simp [*]; done)), H', ⟨by have := HJ3.out; have := HK2.out; first | omega | exact Nat.le_refl _⟩, ⟨by (with_reducible repeat (first | apply Kd.Q_alloc | apply Kd.Q_drewN | apply Kd.Q_drew)); exact HO_7.out⟩, ⟨by repeat (first | (with_reducible first | exact HI342.out | apply IsS95.alloc | apply IsS95.drewN | apply IsS95.drew | apply IsS95.set_1 | apply IsS95.set_2) | exact HI342.out)⟩, ⟨by repeat (first | (with_reducible first | exact HB.out | apply below_alloc | apply pw_below_drewN | apply below_drew1 | refine below_set ?_ (IsS95.ge HI342.out)) | exact HB.out)⟩⟩
          case rest =>
           clear HC72
           try clear c1
           try clear c2
           try clear p2
           try clear c3
           try clear p3
           try clear q3
           try clear hx3
           try clear c4
           try clear c5
           try clear q5
           try clear c6
           try clear c6b0
           try clear c6b1
           try clear p6
           try clear q6
           try clear c7
           try clear c11
           try clear c12
           try clear c12b0
           try clear c13
           try clear c13b0
           try clear c15
           try clear c15b0
           try clear c15b1
           try clear c17
           try clear c17b0
           try clear c19
           try clear c20
           try clear c21
           try clear c22
           try clear c22b0
           try clear c22b1
           try clear c23
           try clear c23b0
           try clear c23b1
           try clear c29
           try clear q30
           try clear c33
           try clear c33b0
           try clear c33b1
           try clear p34
           try clear q34
           try clear hx34
           try clear c35
           try clear c35b0
           try clear c35b1
           try clear c42
           try clear c43
           try clear c43b0
           try clear c43b1
           try clear c44
           try clear c45
           try clear c45b0
           try clear c46
           try clear c47
           try clear c48
           try clear c48b0
           try clear c48b1
           try clear c48b2
           try clear c49
           try clear c50
           try clear c51
           try clear c51b0
           try clear c51b1
           try clear c52
           try clear c52b0
           try clear c52b1
           try clear c54
           try clear c54b0
           try clear c54b1
           try clear c57
           try clear q57
           try clear c61
           try clear q61
           try clear c64
           try clear c64b0
           try clear c64b1
           try clear p64
           try clear c74
           try clear c74b0
           try clear c75
           try clear c75b0
           try clear hx346_0
           try clear hx346_1
           try clear hx347_0
           try clear hx347_1
           try clear p2
           try clear p3
           try clear p34
           try clear p346
           try clear p347
           try clear p6
           try clear q3
           try clear q30
           try clear q34
           try clear q346
           try clear q347
           try clear q57
           try clear q61
           obtain ⟨kq, x62_71, rfl, HA, HJ71, HO_7, HI342, HB⟩ := hcut
           cases kq with
           | zero => exact absurd HA.out (by simp [gaiterlaw02_FillPlays.j5])
           | succ kj71 =>
            have H := HA.out
            clear HA
            simp only [gaiterlaw02_FillPlays.j5] at H
            by_cases c77 : x62_71 = true
            ·subst c77
             have H1 : (if t386 = 0 then (gaiterlaw02_FillPlays.j6 kj71 l1 t338 x7_2 x8_2 t387 t388 t389 t390) else (gaiterlaw02_FillPlays.j6 kj71 l1 t338 x7_2 x8_2 true t388 t389 t390)) = some r := by rw [if_pos rfl] at H; exact H
             clear H
             have H := H1
             clear H1
             have HC78 := Aside0.mk H
             clear H
             go_upto_region 13 with (fail)
             go_cut [67] (fun v67 wc => ∃ (kq : Nat) (x67_77 : Bool), v67 = .bool x67_77 ∧ Aside0 (gaiterlaw02_FillPlays.j6 kq l1 t338 x7_2 x8_2 x67_77 t388 t389 t390 = some r) ∧ Aside0 (kq ≤ kj71) ∧ Aside0 (Kd.Q (Kd.int .u8) 5 wc w.heap.size (fun _ => True) u7 x7_2) ∧ Aside0 (IsS95 w wc g342 t388 t389 t390) ∧ Aside0 (Below w.heap.size w wc))
             case first =>
              have H := HC78.out
              clear HC78
              by_cases c79 : t386 = 0
              ·rw [if_pos c79] at H
               have c79b0 : (t386 == 0) = true := beq_iff_eq.mpr c79
               have c79b1 : (t386 != 0) = false := bne_eq_false_iff_eq.mpr c79
               clear c79
               (first | rw [c79b0] | (simp only [i64_w, i32_w]; rw [c79b0]) | skip)
               have H' := Aside0.mk H
               clear H
               go_wp2
               go_meet
               case rel => exact ⟨_, (t387), (by first | rfl | (simp; done) | (simp [*]; done)), H', ⟨by have := HJ3.out; have := HK2.out; have := HJ71.out; first | omega | exact Nat.le_refl _⟩, ⟨by (with_reducible repeat (first | apply Kd.Q_alloc | apply Kd.Q_drewN | apply Kd.Q_drew)); exact HO_7.out⟩, ⟨by repeat (first | (with_reducible first | exact HI342.out | apply IsS95.alloc | apply IsS95.drewN | apply IsS95.drew | apply IsS95.set_1 | apply IsS95.set_2) | exact HI342.out)⟩, ⟨by repeat (first | (with_reducible first | exact HB.out | apply below_alloc | apply pw_below_drewN | apply below_drew1 | refine below_set ?_ (IsS95.ge HI342.out)) | exact HB.out)⟩⟩
              ·rw [if_neg c79] at H
               have c79b0 : (t386 == 0) = false := beq_eq_false_iff_ne.mpr c79
               have c79b1 : (t386 != 0) = true := bne_iff_ne.mpr c79
               (first | rw [c79b0] | (simp only [i64_w, i32_w]; rw [c79b0]) | skip)
               have H' := Aside0.mk H
               clear H
               go_wp2
               go_meet
               case rel => exact ⟨_, (true), (by first | rfl | (simp; done) | (simp [*]; done)), H', ⟨by have := HJ3.out; have := HK2.out; have := HJ71.out; first | omega | exact Nat.le_refl _⟩, ⟨by (with_reducible repeat (first | apply Kd.Q_alloc | apply Kd.Q_drewN | apply Kd.Q_drew)); exact HO_7.out⟩, ⟨by repeat (first | (with_reducible first | exact HI342.out | apply IsS95.alloc | apply IsS95.drewN | apply IsS95.drew | apply IsS95.set_1 | apply IsS95.set_2) | exact HI342.out)⟩, ⟨by repeat (first | (with_reducible first | exact HB.out | apply below_alloc | apply pw_below_drewN | apply below_drew1 | refine below_set ?_ (IsS95.ge HI342.out)) | exact HB.out)⟩⟩
             case rest =>
              clear HC78
              try clear c1
              try clear c2
              try clear p2
              try clear c3
              try clear p3
              try clear q3
              try clear hx3
              try clear c4
              try clear c5
              try clear q5
              try clear c6
              try clear c6b0
              try clear c6b1
              try clear p6
              try clear q6
              try clear c7
              try clear c11
              try clear c12
              try clear c12b0
              try clear c13
              try clear c13b0
              try clear c15
              try clear c15b0
              try clear c15b1
              try clear c17
              try clear c17b0
              try clear c19
              try clear c20
              try clear c21
              try clear c22
              try clear c22b0
              try clear c22b1
              try clear c23
              try clear c23b0
              try clear c23b1
              try clear c29
              try clear q30
              try clear c33
              try clear c33b0
              try clear c33b1
              try clear p34
              try clear q34
              try clear hx34
              try clear c35
              try clear c35b0
              try clear c35b1
              try clear c42
              try clear c43
              try clear c43b0
              try clear c43b1
              try clear c44
              try clear c45
              try clear c45b0
              try clear c46
              try clear c47
              try clear c48
              try clear c48b0
              try clear c48b1
              try clear c48b2
              try clear c49
              try clear c50
              try clear c51
              try clear c51b0
              try clear c51b1
              try clear c52
              try clear c52b0
              try clear c52b1
              try clear c54
              try clear c54b0
              try clear c54b1
              try clear c57
              try clear q57
              try clear c61
              try clear q61
              try clear c64
              try clear c64b0
              try clear c64b1
              try clear p64
              try clear c74
              try clear c74b0
              try clear c75
              try clear c75b0
              try clear c77
              try clear c79
              try clear c79b0
              try clear c79b1
              try clear hx346_0
              try clear hx346_1
              try clear hx347_0
              try clear hx347_1
              try clear p2
              try clear p3
              try clear p34
              try clear p346
              try clear p347
              try clear p6
              try clear p64
              try clear q3
              try clear q30
              try clear q34
              try clear q346
              try clear q347
              try clear q5
              try clear q57
              try clear q6
              try clear q61
              obtain ⟨kq, x67_77, rfl, HA, HJ77, HO_7, HI342, HB⟩ := hcut
              cases kq with
              | zero => exact absurd HA.out (by simp [gaiterlaw02_FillPlays.j6])
              | succ kj77 =>
               have H := HA.out
               clear HA
               simp only [gaiterlaw02_FillPlays.j6] at H
               by_cases c80 : x67_77 = true
               ·subst c80
                have H1 : (some false) = some r := by rw [if_pos rfl] at H; exact H
                clear H
                have H := H1
                clear H1
                obtain rfl := Option.some.inj H
                go_wp2
                go_ret
                exact ⟨by first | rfl | (simp [errW_none, errW_some] <;> rfl) | (simp [*, errW_none, errW_some] <;> rfl), by repeat (first | (with_reducible first | exact HB.out | apply below_alloc | apply pw_below_drewN | apply below_drew1 | refine below_set ?_ (IsS95.ge HI342.out)) | exact HB.out)⟩
               ·replace c80 := Bool.eq_false_iff.mpr c80
                subst c80
                have H1 : ((fill_Reader_Left.f t388 t389 t390).bind fun bt391 => (if bt391.1 = (x7_2.length : Int) then (gaiterlaw02_FillPlays.l0 kj77 l1 t338 x7_2 (wrap64 (x8_2 + 1)) bt391.2.1 bt391.2.2.1 bt391.2.2.2) else (some false))) = some r := by rw [if_neg (show ¬ (false = true) by decide)] at H; exact H
                clear H
                have H := H1
                clear H1
                replace H := Option.bind_eq_some_iff.mp H
                obtain ⟨⟨t391, t392, t393, t394⟩, A810, H⟩ := H
                replace H : (if t391 = (x7_2.length : Int) then (gaiterlaw02_FillPlays.l0 kj77 l1 t338 x7_2 (wrap64 (x8_2 + 1)) t392 t393 t394) else (some false)) = some r := H
                have A81 := Aside0.mk A810
                clear A810
                by_cases c82 : t391 = (x7_2.length : Int)
                ·rw [if_pos c82] at H
                 have c82b0 : (t391 == (x7_2.length : Int)) = true := beq_iff_eq.mpr c82
                 have c82b1 : (t391 != (x7_2.length : Int)) = false := bne_eq_false_iff_eq.mpr c82
                 clear c82
                 have H' := Aside0.mk H
                 clear H
                 go_wp2_with (first | ((with_reducible refine gate_callee (f := 49) rfl ?_); refine goesL_ (some 121) rfl rfl Try.func49 (by kernel_rfl) rfl #[.pointer (some ⟨g342, 0, none⟩)] rfl (by (try simp only [List.map_toArray, List.map_cons, List.map_nil]); first | done | rfl | (simp only [List.length_drop, List.length_take]; rfl)) ?_; (with_reducible refine (fill_Reader_Left.calls g342 t388 t389 t390 t391 t392 t393 t394 w _ ?side1 ?side2 A81.out).mono ?_); (case side1 => repeat (first | (with_reducible first | exact HI342.out | apply IsS95.alloc | apply IsS95.drewN | apply IsS95.drew | apply IsS95.set_1 | apply IsS95.set_2) | exact HI342.out)); (case side2 => repeat (first | (with_reducible first | exact HB.out | apply below_alloc | apply pw_below_drewN | apply below_drew1 | refine below_set ?_ (IsS95.ge HI342.out)) | exact HB.out)); rintro e w83 ⟨rfl, hi, hb, hk⟩; refine ⟨_, rfl, ?_⟩; have n0_ := Aside0.mk (Kd.Q_mono (Kd.Q_keep (IsS95.apartQ (show IsS95 w _ g342 t388 t389 t390 from by repeat (first | (with_reducible first | exact HI342.out | apply IsS95.alloc | apply IsS95.drewN | apply IsS95.drew | apply IsS95.set_1 | apply IsS95.set_2) | exact HI342.out)) (by (with_reducible repeat (first | apply Kd.Q_alloc | apply Kd.Q_drewN | apply Kd.Q_drew)); exact HO_7.out) (by decide)) hk (fun _ h => h.2)) (fun _ h => h.1)); have n1_ := Aside0.mk (hb); have n2_ := Aside0.mk (hi); clear HO_7; clear HB; clear HI342; have HO_7 := n0_; have HB := n1_; have HI342 := n2_; clear n0_ n1_ n2_; (try clear hb); (try clear hb2); (try clear hk); (try clear hi); obtain ⟨Ao84, co84, eo84, _⟩ := Kd.Q_slice HO_7.out; subst eo84))
                 go_roundg kj77
                 case measure => have := HJ3.out; have := HK2.out; have := HJ71.out; have := HJ77.out; omega
                 case rel => exact ⟨(x7_2), (wrap64 (x8_2 + 1)), (t392), (t393), (t394), (by first | rfl | (simp; done) | (simp [*]; done)), H', ⟨by have := HJ3.out; have := HK2.out; have := HJ71.out; have := HJ77.out; omega⟩, ⟨by (with_reducible repeat (first | apply Kd.Q_alloc | apply Kd.Q_drewN | apply Kd.Q_drew)); exact HO_7.out⟩, ⟨by repeat (first | (with_reducible first | exact HI342.out | apply IsS95.alloc | apply IsS95.drewN | apply IsS95.drew | apply IsS95.set_1 | apply IsS95.set_2) | exact HI342.out)⟩, ⟨by repeat (first | (with_reducible first | exact HB.out | apply below_alloc | apply pw_below_drewN | apply below_drew1 | refine below_set ?_ (IsS95.ge HI342.out)) | exact HB.out)⟩⟩
                ·rw [if_neg c82] at H
                 have c82b0 : (t391 == (x7_2.length : Int)) = false := beq_eq_false_iff_ne.mpr c82
                 have c82b1 : (t391 != (x7_2.length : Int)) = true := bne_iff_ne.mpr c82
                 obtain rfl := Option.some.inj H
                 go_wp2_with (first | ((with_reducible refine gate_callee (f := 49) rfl ?_); refine goesL_ (some 121) rfl rfl Try.func49 (by kernel_rfl) rfl #[.pointer (some ⟨g342, 0, none⟩)] rfl (by (try simp only [List.map_toArray, List.map_cons, List.map_nil]); first | done | rfl | (simp only [List.length_drop, List.length_take]; rfl)) ?_; (with_reducible refine (fill_Reader_Left.calls g342 t388 t389 t390 t391 t392 t393 t394 w _ ?side1 ?side2 A81.out).mono ?_); (case side1 => repeat (first | (with_reducible first | exact HI342.out | apply IsS95.alloc | apply IsS95.drewN | apply IsS95.drew | apply IsS95.set_1 | apply IsS95.set_2) | exact HI342.out)); (case side2 => repeat (first | (with_reducible first | exact HB.out | apply below_alloc | apply pw_below_drewN | apply below_drew1 | refine below_set ?_ (IsS95.ge HI342.out)) | exact HB.out)); rintro e w85 ⟨rfl, hi, hb, hk⟩; refine ⟨_, rfl, ?_⟩; have n0_ := Aside0.mk (Kd.Q_mono (Kd.Q_keep (IsS95.apartQ (show IsS95 w _ g342 t388 t389 t390 from by repeat (first | (with_reducible first | exact HI342.out | apply IsS95.alloc | apply IsS95.drewN | apply IsS95.drew | apply IsS95.set_1 | apply IsS95.set_2) | exact HI342.out)) (by (with_reducible repeat (first | apply Kd.Q_alloc | apply Kd.Q_drewN | apply Kd.Q_drew)); exact HO_7.out) (by decide)) hk (fun _ h => h.2)) (fun _ h => h.1)); have n1_ := Aside0.mk (hb); have n2_ := Aside0.mk (hi); clear HO_7; clear HB; clear HI342; have HO_7 := n0_; have HB := n1_; have HI342 := n2_; clear n0_ n1_ n2_; (try clear hb); (try clear hb2); (try clear hk); (try clear hi); obtain ⟨Ao86, co86, eo86, _⟩ := Kd.Q_slice HO_7.out; subst eo86))
                 go_ret
                 exact ⟨by first | rfl | (simp [errW_none, errW_some] <;> rfl) | (simp [*, errW_none, errW_some] <;> rfl), by repeat (first | (with_reducible first | exact HB.out | apply below_alloc | apply pw_below_drewN | apply below_drew1 | refine below_set ?_ (IsS95.ge HI342.out)) | exact HB.out)⟩
            ·replace c77 := Bool.eq_false_iff.mpr c77
             subst c77
             have H1 : (if 0 ≤ ((rd_T75 l1 x8_2).f1) then (if ((rd_T75 l1 x8_2).f1) ≤ (x7_2.length : Int) then ((gaiterref01_Number.f kj71 (x7_2.take (((rd_T75 l1 x8_2).f1) : Int).toNat)).bind fun t399 => (if t386 = t399 then (gaiterlaw02_FillPlays.j7 kj71 l1 t338 x7_2 x8_2 ((rd_T75 l1 x8_2).f1) (!t387) t388 t389 t390) else (gaiterlaw02_FillPlays.j7 kj71 l1 t338 x7_2 x8_2 ((rd_T75 l1 x8_2).f1) true t388 t389 t390))) else (none)) else (none)) = some r := by rw [if_neg (show ¬ (false = true) by decide)] at H; exact H
             clear H
             have H := H1
             clear H1
             have HC87 := Aside0.mk H
             clear H
             go_upto_region 15 with (fail)
             go_cut [77] (fun v77 wc => ∃ (kq : Nat) (x77_86 : Bool), v77 = .bool x77_86 ∧ Aside0 (gaiterlaw02_FillPlays.j7 kq l1 t338 x7_2 x8_2 ((rd_T75 l1 x8_2).f1) x77_86 t388 t389 t390 = some r) ∧ Aside0 (kq ≤ kj71) ∧ Aside0 (Kd.Q (Kd.int .u8) 5 wc w.heap.size (fun _ => True) u7 x7_2) ∧ Aside0 (IsS95 w wc g342 t388 t389 t390) ∧ Aside0 (Below w.heap.size w wc))
             case first =>
              have H := HC87.out
              clear HC87
              by_cases c88 : 0 ≤ ((rd_T75 l1 x8_2).f1)
              ·rw [if_pos c88] at H
               have c88b0 := eq_true c88
               have c88b1 : decide (0 ≤ ((rd_T75 l1 x8_2).f1)) = true := decide_eq_true c88
               clear c88
               by_cases c89 : ((rd_T75 l1 x8_2).f1) ≤ (x7_2.length : Int)
               ·rw [if_pos c89] at H
                have c89b0 := eq_true c89
                have c89b1 : decide (((rd_T75 l1 x8_2).f1) ≤ (x7_2.length : Int)) = true := decide_eq_true c89
                clear c89
                obtain ⟨y395, hy395⟩ : ∃ y_ : List Int, y_ = (x7_2.take (((rd_T75 l1 x8_2).f1) : Int).toNat) := ⟨_, rfl⟩
                replace H : ((gaiterref01_Number.f kj71 y395).bind fun t399 => (if t386 = t399 then (gaiterlaw02_FillPlays.j7 kj71 l1 t338 x7_2 x8_2 ((rd_T75 l1 x8_2).f1) (!t387) t388 t389 t390) else (gaiterlaw02_FillPlays.j7 kj71 l1 t338 x7_2 x8_2 ((rd_T75 l1 x8_2).f1) true t388 t389 t390))) = some r := by first | (rw [hy395]; with_reducible exact H) | (have H2_ := (Option.bind_some _ _).symm.trans H; rw [hy395]; with_reducible exact H2_) | (have H2_ := (Option.bind_some _ _).symm.trans H; with_reducible exact H2_) | with_reducible exact H | (rw [hy395]; exact H) | exact H
                have Ny395 := Aside0.mk hy395
                clear hy395
                replace H := Option.bind_eq_some_iff.mp H
                obtain ⟨t399, A900, H⟩ := H
                replace H : (if t386 = t399 then (gaiterlaw02_FillPlays.j7 kj71 l1 t338 x7_2 x8_2 ((rd_T75 l1 x8_2).f1) (!t387) t388 t389 t390) else (gaiterlaw02_FillPlays.j7 kj71 l1 t338 x7_2 x8_2 ((rd_T75 l1 x8_2).f1) true t388 t389 t390)) = some r := H
                have A90 := Aside0.mk A900
                clear A900
                by_cases c91 : t386 = t399
                ·rw [if_pos c91] at H
                 have c91b0 : (t386 == t399) = true := beq_iff_eq.mpr c91
                 have c91b1 : (t386 != t399) = false := bne_eq_false_iff_eq.mpr c91
                 clear c91
                 (first | rw [c91b0] | (simp only [i64_w, i32_w]; rw [c91b0]) | skip)
                 have H' := Aside0.mk H
                 clear H
                 obtain ⟨Ao93, co93, eo93, _⟩ := Kd.Q_slice HO_7.out
                 subst eo93
                 have q92 : (((rd_T75 l1 x8_2).f1) : Int) ≤ ((x7_2.length : Int) : Int) := of_decide_eq_true (by first | (with_reducible assumption) | assumption)
                 obtain ⟨i092, hi092, _, hsz92, _⟩ := info_parts info5
                 have hroom92 : x7_2.length ≤ co93 := (Kd.Q_reads' HO_7.out).2.1
                 have hC92 : Kd.C (Kd.int .u8) _ Ao93 x7_2.length x7_2 := (Kd.Q_reads' HO_7.out).2.2
                 have hcut92 := cut_to (P := Try.prog) 27 5 .i64 Try.underlying27 hi092 Ao93 x7_2.length co93 ((rd_T75 l1 x8_2).f1) (of_decide_eq_true (by first | (with_reducible assumption) | assumption)) q92 hroom92
                 have hr92 := Kd.C_take (m := (((rd_T75 l1 x8_2).f1) : Int).toNat) hC92 (by omega)
                 have hy92 : y395.length = (((rd_T75 l1 x8_2).f1) : Int).toNat := (by rw [Ny395.out, List.length_take]; omega)
                 rw [← Ny395.out] at hr92
                 rw [← hy92] at hcut92
                 have HR398 := Aside0.mk hr92
                 have HC398 := Aside0.mk (show y395.length ≤ co93 from by omega)
                 clear hr92 hC92 hroom92 hi092 hsz92
                 have KY92 := Aside0.mk hy92
                 clear hy92
                 have KL92 := Aside0.mk (show (((rd_T75 l1 x8_2).f1) : Int).toNat ≤ x7_2.length from by omega)
                 (try (have q92s := q92; simp only [List.length_drop, List.length_take] at q92s; replace q92s := eq_true q92s)); replace q92 := eq_true q92
                 go_wp2_with (first | ((with_reducible refine gate_callee (f := 45) rfl ?_); refine goesL_ (some 72) rfl rfl Try.func45 (by kernel_rfl) rfl #[.slice Ao93 y395.length co93] rfl (by (try simp only [List.map_toArray, List.map_cons, List.map_nil]); first | done | rfl | (simp only [List.length_drop, List.length_take]; rfl)) ?_; (with_reducible refine (gaiterref01_Number.calls kj71 _ _ y395 t399 _ ?side1 ?side2 A90.out).mono ?_); (case side1 => repeat (first | exact (by repeat (first | (with_reducible exact HR398.out) | (with_reducible refine Kd.C_alloc ?_ _) | (with_reducible refine Kd.C_drewN ?_ _) | (with_reducible refine Kd.C_drew ?_) | exact HR398.out)) | (with_reducible refine Kd.C_alloc ?_ _) | (with_reducible refine Kd.C_drewN ?_ _) | (with_reducible refine Kd.C_drew ?_))); (case side2 => exact HC398.out); rintro e w' ⟨rfl, ⟨nd, rfl⟩⟩; refine ⟨_, rfl, ?_⟩))
                 go_meet
                 case rel => exact ⟨_, (!t387), (by first | rfl | (simp; done) | (simp [*]; done)), H', ⟨by have := HJ3.out; have := HK2.out; have := HJ71.out; first | omega | exact Nat.le_refl _⟩, ⟨by (with_reducible repeat (first | apply Kd.Q_alloc | apply Kd.Q_drewN | apply Kd.Q_drew)); exact HO_7.out⟩, ⟨by repeat (first | (with_reducible first | exact HI342.out | apply IsS95.alloc | apply IsS95.drewN | apply IsS95.drew | apply IsS95.set_1 | apply IsS95.set_2) | exact HI342.out)⟩, ⟨by repeat (first | (with_reducible first | exact HB.out | apply below_alloc | apply pw_below_drewN | apply below_drew1 | refine below_set ?_ (IsS95.ge HI342.out)) | exact HB.out)⟩⟩
                ·rw [if_neg c91] at H
                 have c91b0 : (t386 == t399) = false := beq_eq_false_iff_ne.mpr c91
                 have c91b1 : (t386 != t399) = true := bne_iff_ne.mpr c91
                 (first | rw [c91b0] | (simp only [i64_w, i32_w]; rw [c91b0]) | skip)
                 have H' := Aside0.mk H
                 clear H
                 obtain ⟨Ao95, co95, eo95, _⟩ := Kd.Q_slice HO_7.out
                 subst eo95
                 have q94 : (((rd_T75 l1 x8_2).f1) : Int) ≤ ((x7_2.length : Int) : Int) := of_decide_eq_true (by first | (with_reducible assumption) | assumption)
                 obtain ⟨i094, hi094, _, hsz94, _⟩ := info_parts info5
                 have hroom94 : x7_2.length ≤ co95 := (Kd.Q_reads' HO_7.out).2.1
                 have hC94 : Kd.C (Kd.int .u8) _ Ao95 x7_2.length x7_2 := (Kd.Q_reads' HO_7.out).2.2
                 have hcut94 := cut_to (P := Try.prog) 27 5 .i64 Try.underlying27 hi094 Ao95 x7_2.length co95 ((rd_T75 l1 x8_2).f1) (of_decide_eq_true (by first | (with_reducible assumption) | assumption)) q94 hroom94
                 have hr94 := Kd.C_take (m := (((rd_T75 l1 x8_2).f1) : Int).toNat) hC94 (by omega)
                 have hy94 : y395.length = (((rd_T75 l1 x8_2).f1) : Int).toNat := (by rw [Ny395.out, List.length_take]; omega)
                 rw [← Ny395.out] at hr94
                 rw [← hy94] at hcut94
                 have HR398 := Aside0.mk hr94
                 have HC398 := Aside0.mk (show y395.length ≤ co95 from by omega)
                 clear hr94 hC94 hroom94 hi094 hsz94
                 have KY94 := Aside0.mk hy94
                 clear hy94
                 have KL94 := Aside0.mk (show (((rd_T75 l1 x8_2).f1) : Int).toNat ≤ x7_2.length from by omega)
                 (try (have q94s := q94; simp only [List.length_drop, List.length_take] at q94s; replace q94s := eq_true q94s)); replace q94 := eq_true q94
                 go_wp2_with (first | ((with_reducible refine gate_callee (f := 45) rfl ?_); refine goesL_ (some 72) rfl rfl Try.func45 (by kernel_rfl) rfl #[.slice Ao95 y395.length co95] rfl (by (try simp only [List.map_toArray, List.map_cons, List.map_nil]); first | done | rfl | (simp only [List.length_drop, List.length_take]; rfl)) ?_; (with_reducible refine (gaiterref01_Number.calls kj71 _ _ y395 t399 _ ?side1 ?side2 A90.out).mono ?_); (case side1 => repeat (first | exact (by repeat (first | (with_reducible exact HR398.out) | (with_reducible refine Kd.C_alloc ?_ _) | (with_reducible refine Kd.C_drewN ?_ _) | (with_reducible refine Kd.C_drew ?_) | exact HR398.out)) | (with_reducible refine Kd.C_alloc ?_ _) | (with_reducible refine Kd.C_drewN ?_ _) | (with_reducible refine Kd.C_drew ?_))); (case side2 => exact HC398.out); rintro e w' ⟨rfl, ⟨nd, rfl⟩⟩; refine ⟨_, rfl, ?_⟩))
                 go_meet
                 case rel => exact ⟨_, (true), (by first | rfl | (simp; done) | (simp [*]; done)), H', ⟨by have := HJ3.out; have := HK2.out; have := HJ71.out; first | omega | exact Nat.le_refl _⟩, ⟨by (with_reducible repeat (first | apply Kd.Q_alloc | apply Kd.Q_drewN | apply Kd.Q_drew)); exact HO_7.out⟩, ⟨by repeat (first | (with_reducible first | exact HI342.out | apply IsS95.alloc | apply IsS95.drewN | apply IsS95.drew | apply IsS95.set_1 | apply IsS95.set_2) | exact HI342.out)⟩, ⟨by repeat (first | (with_reducible first | exact HB.out | apply below_alloc | apply pw_below_drewN | apply below_drew1 | refine below_set ?_ (IsS95.ge HI342.out)) | exact HB.out)⟩⟩
               ·rw [if_neg c89] at H
                exact absurd H (by simp)
              ·rw [if_neg c88] at H
               exact absurd H (by simp)
             case rest =>
              clear HC87
              try clear c1
              try clear c2
              try clear p2
              try clear c3
              try clear p3
              try clear q3
              try clear hx3
              try clear c4
              try clear c5
              try clear q5
              try clear c6
              try clear c6b0
              try clear c6b1
              try clear p6
              try clear q6
              try clear c7
              try clear c8
              try clear c9
              try clear q9
              try clear c11
              try clear c12
              try clear c12b0
              try clear c13
              try clear c13b0
              try clear c15
              try clear c15b0
              try clear c15b1
              try clear c17
              try clear c17b0
              try clear c19
              try clear c20
              try clear c21
              try clear c22
              try clear c22b0
              try clear c22b1
              try clear c23
              try clear c23b0
              try clear c23b1
              try clear c29
              try clear q30
              try clear c33
              try clear c33b0
              try clear c33b1
              try clear p34
              try clear q34
              try clear hx34
              try clear c35
              try clear c35b0
              try clear c35b1
              try clear c42
              try clear c43
              try clear c43b0
              try clear c43b1
              try clear c44
              try clear c45
              try clear c45b0
              try clear c46
              try clear c47
              try clear c48
              try clear c48b0
              try clear c48b1
              try clear c48b2
              try clear c49
              try clear c50
              try clear c51
              try clear c51b0
              try clear c51b1
              try clear c52
              try clear c52b0
              try clear c52b1
              try clear c54
              try clear c54b0
              try clear c54b1
              try clear c57
              try clear q57
              try clear c61
              try clear q61
              try clear c64
              try clear c64b0
              try clear c64b1
              try clear p64
              try clear c74
              try clear c74b0
              try clear c75
              try clear c75b0
              try clear c77
              try clear c79
              try clear c79b0
              try clear c79b1
              try clear c80
              try clear c82
              try clear c82b0
              try clear c82b1
              try clear c88
              try clear c88b0
              try clear c88b1
              try clear c89
              try clear c89b0
              try clear c89b1
              try clear c91
              try clear c91b0
              try clear c91b1
              try clear q92
              try clear q94
              try clear hx346_0
              try clear hx346_1
              try clear hx347_0
              try clear hx347_1
              try clear p2
              try clear p3
              try clear p34
              try clear p346
              try clear p347
              try clear p6
              try clear p64
              try clear q3
              try clear q30
              try clear q34
              try clear q346
              try clear q347
              try clear q5
              try clear q57
              try clear q6
              try clear q61
              try clear q92
              try clear q94
              obtain ⟨kq, x77_86, rfl, HA, HJ86, HO_7, HI342, HB⟩ := hcut
              cases kq with
              | zero => exact absurd HA.out (by simp [gaiterlaw02_FillPlays.j7])
              | succ kj86 =>
               have H := HA.out
               clear HA
               simp only [gaiterlaw02_FillPlays.j7] at H
               by_cases c96 : x77_86 = true
               ·subst c96
                have H1 : (some false) = some r := by rw [if_pos rfl] at H; exact H
                clear H
                have H := H1
                clear H1
                obtain rfl := Option.some.inj H
                go_wp2
                go_ret
                exact ⟨by first | rfl | (simp [errW_none, errW_some] <;> rfl) | (simp [*, errW_none, errW_some] <;> rfl), by repeat (first | (with_reducible first | exact HB.out | apply below_alloc | apply pw_below_drewN | apply below_drew1 | refine below_set ?_ (IsS95.ge HI342.out)) | exact HB.out)⟩
               ·replace c96 := Bool.eq_false_iff.mpr c96
                subst c96
                have H1 : (if 0 ≤ ((rd_T75 l1 x8_2).f1) then (if ((rd_T75 l1 x8_2).f1) ≤ (x7_2.length : Int) then ((some (x7_2.drop (((rd_T75 l1 x8_2).f1) : Int).toNat : List Int)).bind fun y400 => ((fill_Reader_Left.f t388 t389 t390).bind fun bt403 => (if bt403.1 = (y400.length : Int) then (gaiterlaw02_FillPlays.l0 kj86 l1 t338 y400 (wrap64 (x8_2 + 1)) bt403.2.1 bt403.2.2.1 bt403.2.2.2) else (some false)))) else (none)) else (none)) = some r := by rw [if_neg (show ¬ (false = true) by decide)] at H; exact H
                clear H
                have H := H1
                clear H1
                by_cases c97 : 0 ≤ ((rd_T75 l1 x8_2).f1)
                ·rw [if_pos c97] at H
                 have c97b0 := eq_true c97
                 have c97b1 : decide (0 ≤ ((rd_T75 l1 x8_2).f1)) = true := decide_eq_true c97
                 clear c97
                 by_cases c98 : ((rd_T75 l1 x8_2).f1) ≤ (x7_2.length : Int)
                 ·rw [if_pos c98] at H
                  have c98b0 := eq_true c98
                  have c98b1 : decide (((rd_T75 l1 x8_2).f1) ≤ (x7_2.length : Int)) = true := decide_eq_true c98
                  clear c98
                  obtain ⟨y400, hy400⟩ : ∃ y_ : List Int, y_ = (x7_2.drop (((rd_T75 l1 x8_2).f1) : Int).toNat) := ⟨_, rfl⟩
                  replace H : ((fill_Reader_Left.f t388 t389 t390).bind fun bt403 => (if bt403.1 = (y400.length : Int) then (gaiterlaw02_FillPlays.l0 kj86 l1 t338 y400 (wrap64 (x8_2 + 1)) bt403.2.1 bt403.2.2.1 bt403.2.2.2) else (some false))) = some r := by first | (rw [hy400]; with_reducible exact H) | (have H2_ := (Option.bind_some _ _).symm.trans H; rw [hy400]; with_reducible exact H2_) | (have H2_ := (Option.bind_some _ _).symm.trans H; with_reducible exact H2_) | with_reducible exact H | (rw [hy400]; exact H) | exact H
                  have Ny400 := Aside0.mk hy400
                  clear hy400
                  replace H := Option.bind_eq_some_iff.mp H
                  obtain ⟨⟨t403, t404, t405, t406⟩, A990, H⟩ := H
                  replace H : (if t403 = (y400.length : Int) then (gaiterlaw02_FillPlays.l0 kj86 l1 t338 y400 (wrap64 (x8_2 + 1)) t404 t405 t406) else (some false)) = some r := H
                  have A99 := Aside0.mk A990
                  clear A990
                  by_cases c100 : t403 = (y400.length : Int)
                  ·rw [if_pos c100] at H
                   have c100b0 : (t403 == (y400.length : Int)) = true := beq_iff_eq.mpr c100
                   have c100b1 : (t403 != (y400.length : Int)) = false := bne_eq_false_iff_eq.mpr c100
                   clear c100
                   have H' := Aside0.mk H
                   clear H
                   obtain ⟨Ao101, co101, eo101, _⟩ := Kd.Q_slice HO_7.out
                   subst eo101
                   have q102 : (((rd_T75 l1 x8_2).f1) : Int) ≤ ((x7_2.length : Int) : Int) := of_decide_eq_true (by first | (with_reducible assumption) | assumption)
                   obtain ⟨i0102, hi0102, _, hsz102, _⟩ := info_parts info5
                   have hcut102 := cut_from (P := Try.prog) 27 5 .i64 Try.underlying27 hi0102 1 hsz102 Ao101 x7_2.length co101 ((rd_T75 l1 x8_2).f1) (of_decide_eq_true (by first | (with_reducible assumption) | assumption)) q102
                   have hr102 := Kd.Q_drop (k := (((rd_T75 l1 x8_2).f1) : Int).toNat) HO_7.out (by omega)
                   obtain ⟨A102, hA102⟩ : ∃ A1, A1 = (if co101 = (((rd_T75 l1 x8_2).f1) : Int).toNat then Ao101 else (Ao101 : Option Addr).map (·.add ((((rd_T75 l1 x8_2).f1) : Int).toNat * 1))) := ⟨_, rfl⟩
                   obtain ⟨c102, hc102⟩ : ∃ c1, c1 = co101 - (((rd_T75 l1 x8_2).f1) : Int).toNat := ⟨_, rfl⟩
                   have hy102 : y400.length = x7_2.length - (((rd_T75 l1 x8_2).f1) : Int).toNat := (by rw [Ny400.out, List.length_drop])
                   rw [← Ny400.out] at hr102
                   rw [← hy102, ← hA102, ← hc102] at hcut102
                   replace hr102 : Kd.Q (Kd.int .u8) 5 wc w.heap.size (fun _ => True) (.slice A102 y400.length c102) y400 := (by rw [hA102, hc102, hy102]; exact hr102)
                   have HE102 : Aside0 ((Value.slice A102 y400.length c102).ownBlock = (.slice Ao101 x7_2.length co101 : Value).ownBlock) := ⟨by rw [hA102]; split <;> (cases (Ao101 : Option Addr) <;> first | rfl | (simp only [Option.map, Value.ownBlock, Addr.add]; split <;> rfl))⟩
                   clear hy102 hi0102 hsz102 HO_7 hA102 hc102
                   have HO402 := Aside0.mk hr102
                   clear hr102
                   (try (have q102s := q102; simp only [List.length_drop, List.length_take] at q102s; replace q102s := eq_true q102s)); replace q102 := eq_true q102
                   go_wp2_with (first | ((with_reducible refine gate_callee (f := 49) rfl ?_); refine goesL_ (some 121) rfl rfl Try.func49 (by kernel_rfl) rfl #[.pointer (some ⟨g342, 0, none⟩)] rfl (by (try simp only [List.map_toArray, List.map_cons, List.map_nil]); first | done | rfl | (simp only [List.length_drop, List.length_take]; rfl)) ?_; (with_reducible refine (fill_Reader_Left.calls g342 t388 t389 t390 t403 t404 t405 t406 w _ ?side1 ?side2 A99.out).mono ?_); (case side1 => repeat (first | (with_reducible first | exact HI342.out | apply IsS95.alloc | apply IsS95.drewN | apply IsS95.drew | apply IsS95.set_1 | apply IsS95.set_2) | exact HI342.out)); (case side2 => repeat (first | (with_reducible first | exact HB.out | apply below_alloc | apply pw_below_drewN | apply below_drew1 | refine below_set ?_ (IsS95.ge HI342.out)) | exact HB.out)); rintro e w103 ⟨rfl, hi, hb, hk⟩; refine ⟨_, rfl, ?_⟩; have n0_ := Aside0.mk (Kd.Q_mono (Kd.Q_keep (IsS95.apartQ (show IsS95 w _ g342 t388 t389 t390 from by repeat (first | (with_reducible first | exact HI342.out | apply IsS95.alloc | apply IsS95.drewN | apply IsS95.drew | apply IsS95.set_1 | apply IsS95.set_2) | exact HI342.out)) (by (with_reducible repeat (first | apply Kd.Q_alloc | apply Kd.Q_drewN | apply Kd.Q_drew)); exact HO402.out) (by decide)) hk (fun _ h => h.2)) (fun _ h => h.1)); have n1_ := Aside0.mk (hb); have n2_ := Aside0.mk (hi); clear HO402; clear HB; clear HI342; have HO402 := n0_; have HB := n1_; have HI342 := n2_; clear n0_ n1_ n2_; (try clear hb); (try clear hb2); (try clear hk); (try clear hi)))
                   go_roundg kj86
                   case measure => have := HJ3.out; have := HK2.out; have := HJ71.out; have := HJ86.out; omega
                   case rel => exact ⟨(y400), (wrap64 (x8_2 + 1)), (t404), (t405), (t406), (by first | rfl | (simp; done) | (simp [*]; done)), H', ⟨by have := HJ3.out; have := HK2.out; have := HJ71.out; have := HJ86.out; omega⟩, ⟨by (with_reducible repeat (first | apply Kd.Q_alloc | apply Kd.Q_drewN | apply Kd.Q_drew)); exact HO402.out⟩, ⟨by repeat (first | (with_reducible first | exact HI342.out | apply IsS95.alloc | apply IsS95.drewN | apply IsS95.drew | apply IsS95.set_1 | apply IsS95.set_2) | exact HI342.out)⟩, ⟨by repeat (first | (with_reducible first | exact HB.out | apply below_alloc | apply pw_below_drewN | apply below_drew1 | refine below_set ?_ (IsS95.ge HI342.out)) | exact HB.out)⟩⟩
                  ·rw [if_neg c100] at H
                   have c100b0 : (t403 == (y400.length : Int)) = false := beq_eq_false_iff_ne.mpr c100
                   have c100b1 : (t403 != (y400.length : Int)) = true := bne_iff_ne.mpr c100
                   obtain rfl := Option.some.inj H
                   obtain ⟨Ao104, co104, eo104, _⟩ := Kd.Q_slice HO_7.out
                   subst eo104
                   have q105 : (((rd_T75 l1 x8_2).f1) : Int) ≤ ((x7_2.length : Int) : Int) := of_decide_eq_true (by first | (with_reducible assumption) | assumption)
                   obtain ⟨i0105, hi0105, _, hsz105, _⟩ := info_parts info5
                   have hcut105 := cut_from (P := Try.prog) 27 5 .i64 Try.underlying27 hi0105 1 hsz105 Ao104 x7_2.length co104 ((rd_T75 l1 x8_2).f1) (of_decide_eq_true (by first | (with_reducible assumption) | assumption)) q105
                   have hr105 := Kd.Q_drop (k := (((rd_T75 l1 x8_2).f1) : Int).toNat) HO_7.out (by omega)
                   obtain ⟨A105, hA105⟩ : ∃ A1, A1 = (if co104 = (((rd_T75 l1 x8_2).f1) : Int).toNat then Ao104 else (Ao104 : Option Addr).map (·.add ((((rd_T75 l1 x8_2).f1) : Int).toNat * 1))) := ⟨_, rfl⟩
                   obtain ⟨c105, hc105⟩ : ∃ c1, c1 = co104 - (((rd_T75 l1 x8_2).f1) : Int).toNat := ⟨_, rfl⟩
                   have hy105 : y400.length = x7_2.length - (((rd_T75 l1 x8_2).f1) : Int).toNat := (by rw [Ny400.out, List.length_drop])
                   rw [← Ny400.out] at hr105
                   rw [← hy105, ← hA105, ← hc105] at hcut105
                   replace hr105 : Kd.Q (Kd.int .u8) 5 wc w.heap.size (fun _ => True) (.slice A105 y400.length c105) y400 := (by rw [hA105, hc105, hy105]; exact hr105)
                   have HE105 : Aside0 ((Value.slice A105 y400.length c105).ownBlock = (.slice Ao104 x7_2.length co104 : Value).ownBlock) := ⟨by rw [hA105]; split <;> (cases (Ao104 : Option Addr) <;> first | rfl | (simp only [Option.map, Value.ownBlock, Addr.add]; split <;> rfl))⟩
                   clear hy105 hi0105 hsz105 HO_7 hA105 hc105
                   have HO402 := Aside0.mk hr105
                   clear hr105
                   (try (have q105s := q105; simp only [List.length_drop, List.length_take] at q105s; replace q105s := eq_true q105s)); replace q105 := eq_true q105
                   go_wp2_with (first | ((with_reducible refine gate_callee (f := 49) rfl ?_); refine goesL_ (some 121) rfl rfl Try.func49 (by kernel_rfl) rfl #[.pointer (some ⟨g342, 0, none⟩)] rfl (by (try simp only [List.map_toArray, List.map_cons, List.map_nil]); first | done | rfl | (simp only [List.length_drop, List.length_take]; rfl)) ?_; (with_reducible refine (fill_Reader_Left.calls g342 t388 t389 t390 t403 t404 t405 t406 w _ ?side1 ?side2 A99.out).mono ?_); (case side1 => repeat (first | (with_reducible first | exact HI342.out | apply IsS95.alloc | apply IsS95.drewN | apply IsS95.drew | apply IsS95.set_1 | apply IsS95.set_2) | exact HI342.out)); (case side2 => repeat (first | (with_reducible first | exact HB.out | apply below_alloc | apply pw_below_drewN | apply below_drew1 | refine below_set ?_ (IsS95.ge HI342.out)) | exact HB.out)); rintro e w106 ⟨rfl, hi, hb, hk⟩; refine ⟨_, rfl, ?_⟩; have n0_ := Aside0.mk (Kd.Q_mono (Kd.Q_keep (IsS95.apartQ (show IsS95 w _ g342 t388 t389 t390 from by repeat (first | (with_reducible first | exact HI342.out | apply IsS95.alloc | apply IsS95.drewN | apply IsS95.drew | apply IsS95.set_1 | apply IsS95.set_2) | exact HI342.out)) (by (with_reducible repeat (first | apply Kd.Q_alloc | apply Kd.Q_drewN | apply Kd.Q_drew)); exact HO402.out) (by decide)) hk (fun _ h => h.2)) (fun _ h => h.1)); have n1_ := Aside0.mk (hb); have n2_ := Aside0.mk (hi); clear HO402; clear HB; clear HI342; have HO402 := n0_; have HB := n1_; have HI342 := n2_; clear n0_ n1_ n2_; (try clear hb); (try clear hb2); (try clear hk); (try clear hi)))
                   go_ret
                   exact ⟨by first | rfl | (simp [errW_none, errW_some] <;> rfl) | (simp [*, errW_none, errW_some] <;> rfl), by repeat (first | (with_reducible first | exact HB.out | apply below_alloc | apply pw_below_drewN | apply below_drew1 | refine below_set ?_ (IsS95.ge HI342.out)) | exact HB.out)⟩
                 ·rw [if_neg c98] at H
                  exact absurd H (by simp)
                ·rw [if_neg c97] at H
                 exact absurd H (by simp)
       ·rw [if_neg c13] at H
        exact absurd H (by simp)
      ·rw [if_neg c12] at H
       have c12b0 : decide (x8_2 < (l1.length : Int)) = false := decide_eq_false c12
       clear c12
       obtain rfl := Option.some.inj H
       go_wp2
       go_ret
       exact ⟨by first | rfl | (simp [errW_none, errW_some] <;> rfl) | (simp [*, errW_none, errW_some] <;> rfl), by repeat (first | (with_reducible first | exact HB.out | apply below_alloc | apply pw_below_drewN | apply below_drew1 | refine below_set ?_ (IsS95.ge HI342.out)) | exact HB.out)⟩

/-- THE ONE PURE STATEMENT of gaiterlaw02_FillPlays: yours. -/
def gaiterlaw02_FillPlays.Pure : Prop := ∀ (l0 : List Int) (l1 : List (S75)), l0.length ≤ maxLen → l0.length * 1 ≤ 140737488351232 → (∀ x ∈ l0, (Lit.int .u8 x).wf = true) → l1.length ≤ maxLen → l1.length * 16 ≤ 140737488351232 → (∀ x ∈ l1, (Lit.int .i64 x.f0).wf = true ∧ (Lit.int .i64 x.f1).wf = true) → ∃ k, gaiterlaw02_FillPlays.f k l0 l1 = some true
theorem gaiterlaw02_FillPlays.walk (P : gaiterlaw02_FillPlays.Pure) (a0 : Option Addr) (len0 cap0 : Nat) (z0 : List Int) (a1 : Option Addr) (cap1 : Nat) (l1 : List (S75)) (w : World) (w0 : (a0 = none ∧ len0 = 0 ∧ cap0 = 0 ∧ z0 = []) ∨ ∃ x, a0 = some x ∧ len0 ≤ cap0 ∧ cap0 ≤ maxLen ∧ z0.length = cap0 ∧ (∀ i, i < z0.length → w.cell? (x.add i) = some (.int .u8 (z0.getD i 0))) ∧ ∀ n ∈ z0, (Lit.int .u8 n).wf = true) (y0 : len0 * 1 ≤ 140737488351232) (hr1 : Kd.C k75 w a1 l1.length l1) (hc1 : l1.length ≤ cap1) (hm1 : l1.length ≤ maxLen) (y1 : l1.length * 16 ≤ 140737488351232) (hw1 : ∀ x ∈ l1, (Lit.int .i64 x.f0).wf = true ∧ (Lit.int .i64 x.f1).wf = true) :
  Calls Try.prog 11 #[.slice a0 len0 cap0, .slice a1 l1.length cap1] w fun e w' => e = .returned (.bool true) ∧ Below w.heap.size w w' := by
 obtain ⟨l0, rfl, hr0, hm0, hw0, hc0⟩ := ReadsInt.ofRowC w0
 obtain ⟨k, h⟩ := P l0 l1 hm0 y0 hw0 hm1 y1 hw1
 refine (gaiterlaw02_FillPlays.calls k _ _ l0 _ _ l1 true w (Kd.C_of_reads (d := (0 : Int)) (h1 := fun _ => rfl) hr0) hc0 hr1 hc1 h).mono ?_
 rintro e w' ⟨rfl, hd⟩
 exact ⟨rfl, hd⟩

end Go.Proofs.Ytfpcbnkipdjlhaa.All
