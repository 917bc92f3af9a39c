-- written by a program of the session out of the translation; Lean checks it
import Derived.Test.YtfpcbnkipdjlhaaAllx0
import Derived.Test.YtfpcbnkipdjlhaaAllx13
import Derived.Test.YtfpcbnkipdjlhaaAllx15
import Derived.Test.YtfpcbnkipdjlhaaAllx17
namespace Go.Proofs.Ytfpcbnkipdjlhaa.All
open Go.RowKit Go.Proofs.YtfpcbnkipdjlhaaW.PrintWords Go.Proofs.YtfpcbnkipdjlhaaW.PrintLast Go.Proofs.YtfpcbnkipdjlhaaW.PrintMore
attribute [local go_sem] max2_int min2_int max_two min_two max_three min_three max_four min_four   -- for this text's walks alone
set_option linter.unusedVariables false
set_option linter.unusedSimpArgs false

attribute [local go_sem high] errW_cells errW_match run_store_errW
/-! ### gaiterlaw17_CursorForth: function 10 -/
mutual
def gaiterlaw17_CursorForth.j0 : Nat → List (S68) → List (S54) → Bool → Bool → Option (Bool)
 | 0, _, _, _, _ => none
 | k + 1, x0, x1, x5, x23 => if x23 = true then (some x5) else ((gaiterlaw00_Rising.f k x0).bind fun t362 => ((cursor_New.f t362 none).bind fun bt365 => (gaiterlaw17_CursorForth.l0 k x1 x5 t362 0 bt365.1 bt365.2.1 bt365.2.2.1 bt365.2.2.2)))
def gaiterlaw17_CursorForth.l0 : Nat → List (S54) → Bool → List (S68) → Int → List (S68) → Option Int → Int → Bool → Option (Bool)
 | 0, _, _, _, _, _, _, _, _ => none
 | k + 1, x1, x5, x6, x8, x372000, x372001, x372002, x372003 => if x8 < (x1.length : Int) then (if 0 ≤ x8 then ((gaiterlaw00_Pick.f ((rd_T54 x1 x8).f0) 3).bind fun t373 => (if t373 = 2 then ((cursor_Seek.f k x372000 x372001 x372002 x372003 ((rd_T54 x1 x8).f1)).bind fun bt375 => (gaiterlaw17_CursorForth.j2 k x1 x5 x6 x8 x372002 x372003 (t373 == 2) bt375.2.2.2.2 bt375.1 bt375.2.1 bt375.2.2.1 bt375.2.2.2.1)) else ((cursor_Next.f x372000 x372001 x372002 x372003).bind fun bt382 => (gaiterlaw17_CursorForth.j2 k x1 x5 x6 x8 x372002 x372003 (t373 == 2) bt382.2.2.2.2 bt382.1 bt382.2.1 bt382.2.2.1 bt382.2.2.2.1)))) else (none)) else (some x5)
def gaiterlaw17_CursorForth.j2 : Nat → List (S54) → Bool → List (S68) → Int → Int → Bool → Bool → Bool → List (S68) → Option Int → Int → Bool → Option (Bool)
 | 0, _, _, _, _, _, _, _, _, _, _, _, _ => none
 | k + 1, x1, x5, x6, x8, x9, x10, x11, x12, x372000, x372001, x372002, x372003 => if x372002 < x9 then (gaiterlaw17_CursorForth.j3 k x1 x5 x6 x8 x9 x10 x11 x12 true x372000 x372001 x372002 x372003) else (if x10 = true then (if x12 = true then (gaiterlaw17_CursorForth.j3 k x1 x5 x6 x8 x9 x10 x11 x12 true x372000 x372001 x372002 x372003) else (if (x12 == x372003) = true then (gaiterlaw17_CursorForth.j3 k x1 x5 x6 x8 x9 x10 x11 x12 true x372000 x372001 x372002 x372003) else (gaiterlaw17_CursorForth.j3 k x1 x5 x6 x8 x9 x10 x11 x12 (decide (x372002 ≥ (x6.length : Int))) x372000 x372001 x372002 x372003))) else (if (x12 == x372003) = true then (gaiterlaw17_CursorForth.j3 k x1 x5 x6 x8 x9 x10 x11 x12 true x372000 x372001 x372002 x372003) else (gaiterlaw17_CursorForth.j3 k x1 x5 x6 x8 x9 x10 x11 x12 (decide (x372002 ≥ (x6.length : Int))) x372000 x372001 x372002 x372003)))
def gaiterlaw17_CursorForth.j3 : Nat → List (S54) → Bool → List (S68) → Int → Int → Bool → Bool → Bool → Bool → List (S68) → Option Int → Int → Bool → Option (Bool)
 | 0, _, _, _, _, _, _, _, _, _, _, _, _, _ => none
 | k + 1, x1, x5, x6, x8, x9, x10, x11, x12, x84, x372000, x372001, x372002, x372003 => if x84 = true then (some false) else (gaiterlaw17_CursorForth.l1 k x1 x5 x6 x8 x9 x10 x11 x12 (mx x9 0) x372000 x372001 x372002 x372003)
def gaiterlaw17_CursorForth.l1 : Nat → List (S54) → Bool → List (S68) → Int → Int → Bool → Bool → Bool → Int → List (S68) → Option Int → Int → Bool → Option (Bool)
 | 0, _, _, _, _, _, _, _, _, _, _, _, _, _ => none
 | k + 1, x1, x5, x6, x8, x9, x10, x11, x12, x13, x372000, x372001, x372002, x372003 => if x13 < (x6.length : Int) then (if x11 = true then (gaiterlaw17_CursorForth.j5 k x1 x5 x6 x8 x9 x10 x11 x12 x13 (!x10) x372000 x372001 x372002 x372003) else (gaiterlaw17_CursorForth.j5 k x1 x5 x6 x8 x9 x10 x11 x12 x13 false x372000 x372001 x372002 x372003)) else (gaiterlaw17_CursorForth.j5 k x1 x5 x6 x8 x9 x10 x11 x12 x13 false x372000 x372001 x372002 x372003)
def gaiterlaw17_CursorForth.j5 : Nat → List (S54) → Bool → List (S68) → Int → Int → Bool → Bool → Bool → Int → Bool → List (S68) → Option Int → Int → Bool → Option (Bool)
 | 0, _, _, _, _, _, _, _, _, _, _, _, _, _, _ => none
 | k + 1, x1, x5, x6, x8, x9, x10, x11, x12, x13, x97, x372000, x372001, x372002, x372003 => if x97 = true then (if x12 = true then (if 0 ≤ x13 then (if x13 < (x6.length : Int) then (if 0 ≤ x8 then (if x8 < (x1.length : Int) then (if ((decide (((rd_T68 x6 x13).f0) ≥ ((rd_T54 x1 x8).f1))) != (decide (x13 ≥ x372002))) = true then (some false) else (gaiterlaw17_CursorForth.l1 k x1 x5 x6 x8 x9 x10 x11 x12 (wrap64 (x13 + 1)) x372000 x372001 x372002 x372003)) else (none)) else (none)) else (none)) else (none)) else (if 0 ≤ x13 then (if x13 < (x6.length : Int) then (if 0 ≤ x8 then (if x8 < (x1.length : Int) then (if ((decide (((rd_T68 x6 x13).f0) ≥ ((rd_T54 x1 x8).f1))) != false) = true then (some false) else (gaiterlaw17_CursorForth.l1 k x1 x5 x6 x8 x9 x10 x11 x12 (wrap64 (x13 + 1)) x372000 x372001 x372002 x372003)) else (none)) else (none)) else (none)) else (none))) else (if x12 = true then (if x11 = true then (gaiterlaw17_CursorForth.l0 k x1 x5 x6 (wrap64 (x8 + 1)) x372000 x372001 x372002 x372003) else (if x372002 = (wrap64 (x9 + 1)) then (gaiterlaw17_CursorForth.l0 k x1 x5 x6 (wrap64 (x8 + 1)) x372000 x372001 x372002 x372003) else (some false))) else (gaiterlaw17_CursorForth.l0 k x1 x5 x6 (wrap64 (x8 + 1)) x372000 x372001 x372002 x372003))
end
def gaiterlaw17_CursorForth.f (k : Nat) (l0 : List (S68)) (l1 : List (S54)) : Option (Bool) := (gaiterlaw17_up.f k).bind fun t361 => (if (l0.length : Int) > 100 then (gaiterlaw17_CursorForth.j0 k l0 l1 t361 true) else (gaiterlaw17_CursorForth.j0 k l0 l1 t361 (decide ((l1.length : Int) > 100))))
theorem gaiterlaw17_CursorForth.mono_l : ∀ k, (∀ y0 y1 y2 y3, LeO (gaiterlaw17_CursorForth.j0 k y0 y1 y2 y3) (gaiterlaw17_CursorForth.j0 (k + 1) y0 y1 y2 y3)) ∧ (∀ y0 y1 y2 y3 y4 y5 y6 y7, LeO (gaiterlaw17_CursorForth.l0 k y0 y1 y2 y3 y4 y5 y6 y7) (gaiterlaw17_CursorForth.l0 (k + 1) y0 y1 y2 y3 y4 y5 y6 y7)) ∧ (∀ y0 y1 y2 y3 y4 y5 y6 y7 y8 y9 y10 y11, LeO (gaiterlaw17_CursorForth.j2 k y0 y1 y2 y3 y4 y5 y6 y7 y8 y9 y10 y11) (gaiterlaw17_CursorForth.j2 (k + 1) y0 y1 y2 y3 y4 y5 y6 y7 y8 y9 y10 y11)) ∧ (∀ y0 y1 y2 y3 y4 y5 y6 y7 y8 y9 y10 y11 y12, LeO (gaiterlaw17_CursorForth.j3 k y0 y1 y2 y3 y4 y5 y6 y7 y8 y9 y10 y11 y12) (gaiterlaw17_CursorForth.j3 (k + 1) y0 y1 y2 y3 y4 y5 y6 y7 y8 y9 y10 y11 y12)) ∧ (∀ y0 y1 y2 y3 y4 y5 y6 y7 y8 y9 y10 y11 y12, LeO (gaiterlaw17_CursorForth.l1 k y0 y1 y2 y3 y4 y5 y6 y7 y8 y9 y10 y11 y12) (gaiterlaw17_CursorForth.l1 (k + 1) y0 y1 y2 y3 y4 y5 y6 y7 y8 y9 y10 y11 y12)) ∧ (∀ y0 y1 y2 y3 y4 y5 y6 y7 y8 y9 y10 y11 y12 y13, LeO (gaiterlaw17_CursorForth.j5 k y0 y1 y2 y3 y4 y5 y6 y7 y8 y9 y10 y11 y12 y13) (gaiterlaw17_CursorForth.j5 (k + 1) y0 y1 y2 y3 y4 y5 y6 y7 y8 y9 y10 y11 y12 y13))
 | 0 => ⟨fun _ _ _ _ r h => by simp [gaiterlaw17_CursorForth.j0] at h, fun _ _ _ _ _ _ _ _ r h => by simp [gaiterlaw17_CursorForth.l0] at h, fun _ _ _ _ _ _ _ _ _ _ _ _ r h => by simp [gaiterlaw17_CursorForth.j2] at h, fun _ _ _ _ _ _ _ _ _ _ _ _ _ r h => by simp [gaiterlaw17_CursorForth.j3] at h, fun _ _ _ _ _ _ _ _ _ _ _ _ _ r h => by simp [gaiterlaw17_CursorForth.l1] at h, fun _ _ _ _ _ _ _ _ _ _ _ _ _ _ r h => by simp [gaiterlaw17_CursorForth.j5] at h⟩
 | k + 1 => by
  obtain ⟨ih0, ih1, ih2, ih3, ih4, ih5⟩ := gaiterlaw17_CursorForth.mono_l k
  refine ⟨?_, ?_, ?_, ?_, ?_, ?_⟩
  ·intro y0 y1 y2 y3
   unfold gaiterlaw17_CursorForth.j0
   repeat' first
   | (with_reducible exact ih0 _ _ _ _)
   | (with_reducible exact ih1 _ _ _ _ _ _ _ _)
   | (with_reducible exact ih2 _ _ _ _ _ _ _ _ _ _ _ _)
   | (with_reducible exact ih3 _ _ _ _ _ _ _ _ _ _ _ _ _)
   | (with_reducible exact ih4 _ _ _ _ _ _ _ _ _ _ _ _ _)
   | (with_reducible exact ih5 _ _ _ _ _ _ _ _ _ _ _ _ _ _)
   | (with_reducible exact cursor_Seek.mono _ _ _ _ _ _)
   | (with_reducible exact gaiterlaw00_Rising.mono _ _)
   | (with_reducible exact gaiterlaw17_up.mono _)
   | (with_reducible exact LeO.refl _)
   | (with_reducible exact LeO.none _)
   | (with_reducible refine LeO.ite ?_ ?_)
   | (with_reducible refine LeO.bind ?_ (fun _ => ?_))
   | exact ih0 _ _ _ _
   | exact ih1 _ _ _ _ _ _ _ _
   | exact ih2 _ _ _ _ _ _ _ _ _ _ _ _
   | exact ih3 _ _ _ _ _ _ _ _ _ _ _ _ _
   | exact ih4 _ _ _ _ _ _ _ _ _ _ _ _ _
   | exact ih5 _ _ _ _ _ _ _ _ _ _ _ _ _ _
   | exact cursor_Seek.mono _ _ _ _ _ _
   | exact gaiterlaw00_Rising.mono _ _
   | exact gaiterlaw17_up.mono _
   | exact LeO.none _
   | refine LeO.ite ?_ ?_
   | refine LeO.bind ?_ (fun _ => ?_)
  ·intro y0 y1 y2 y3 y4 y5 y6 y7
   unfold gaiterlaw17_CursorForth.l0
   repeat' first
   | (with_reducible exact ih0 _ _ _ _)
   | (with_reducible exact ih1 _ _ _ _ _ _ _ _)
   | (with_reducible exact ih2 _ _ _ _ _ _ _ _ _ _ _ _)
   | (with_reducible exact ih3 _ _ _ _ _ _ _ _ _ _ _ _ _)
   | (with_reducible exact ih4 _ _ _ _ _ _ _ _ _ _ _ _ _)
   | (with_reducible exact ih5 _ _ _ _ _ _ _ _ _ _ _ _ _ _)
   | (with_reducible exact cursor_Seek.mono _ _ _ _ _ _)
   | (with_reducible exact gaiterlaw00_Rising.mono _ _)
   | (with_reducible exact gaiterlaw17_up.mono _)
   | (with_reducible exact LeO.refl _)
   | (with_reducible exact LeO.none _)
   | (with_reducible refine LeO.ite ?_ ?_)
   | (with_reducible refine LeO.bind ?_ (fun _ => ?_))
   | exact ih0 _ _ _ _
   | exact ih1 _ _ _ _ _ _ _ _
   | exact ih2 _ _ _ _ _ _ _ _ _ _ _ _
   | exact ih3 _ _ _ _ _ _ _ _ _ _ _ _ _
   | exact ih4 _ _ _ _ _ _ _ _ _ _ _ _ _
   | exact ih5 _ _ _ _ _ _ _ _ _ _ _ _ _ _
   | exact cursor_Seek.mono _ _ _ _ _ _
   | exact gaiterlaw00_Rising.mono _ _
   | exact gaiterlaw17_up.mono _
   | exact LeO.none _
   | refine LeO.ite ?_ ?_
   | refine LeO.bind ?_ (fun _ => ?_)
  ·intro y0 y1 y2 y3 y4 y5 y6 y7 y8 y9 y10 y11
   unfold gaiterlaw17_CursorForth.j2
   repeat' first
   | (with_reducible exact ih0 _ _ _ _)
   | (with_reducible exact ih1 _ _ _ _ _ _ _ _)
   | (with_reducible exact ih2 _ _ _ _ _ _ _ _ _ _ _ _)
   | (with_reducible exact ih3 _ _ _ _ _ _ _ _ _ _ _ _ _)
   | (with_reducible exact ih4 _ _ _ _ _ _ _ _ _ _ _ _ _)
   | (with_reducible exact ih5 _ _ _ _ _ _ _ _ _ _ _ _ _ _)
   | (with_reducible exact cursor_Seek.mono _ _ _ _ _ _)
   | (with_reducible exact gaiterlaw00_Rising.mono _ _)
   | (with_reducible exact gaiterlaw17_up.mono _)
   | (with_reducible exact LeO.refl _)
   | (with_reducible exact LeO.none _)
   | (with_reducible refine LeO.ite ?_ ?_)
   | (with_reducible refine LeO.bind ?_ (fun _ => ?_))
   | exact ih0 _ _ _ _
   | exact ih1 _ _ _ _ _ _ _ _
   | exact ih2 _ _ _ _ _ _ _ _ _ _ _ _
   | exact ih3 _ _ _ _ _ _ _ _ _ _ _ _ _
   | exact ih4 _ _ _ _ _ _ _ _ _ _ _ _ _
   | exact ih5 _ _ _ _ _ _ _ _ _ _ _ _ _ _
   | exact cursor_Seek.mono _ _ _ _ _ _
   | exact gaiterlaw00_Rising.mono _ _
   | exact gaiterlaw17_up.mono _
   | exact LeO.none _
   | refine LeO.ite ?_ ?_
   | refine LeO.bind ?_ (fun _ => ?_)
  ·intro y0 y1 y2 y3 y4 y5 y6 y7 y8 y9 y10 y11 y12
   unfold gaiterlaw17_CursorForth.j3
   repeat' first
   | (with_reducible exact ih0 _ _ _ _)
   | (with_reducible exact ih1 _ _ _ _ _ _ _ _)
   | (with_reducible exact ih2 _ _ _ _ _ _ _ _ _ _ _ _)
   | (with_reducible exact ih3 _ _ _ _ _ _ _ _ _ _ _ _ _)
   | (with_reducible exact ih4 _ _ _ _ _ _ _ _ _ _ _ _ _)
   | (with_reducible exact ih5 _ _ _ _ _ _ _ _ _ _ _ _ _ _)
   | (with_reducible exact cursor_Seek.mono _ _ _ _ _ _)
   | (with_reducible exact gaiterlaw00_Rising.mono _ _)
   | (with_reducible exact gaiterlaw17_up.mono _)
   | (with_reducible exact LeO.refl _)
   | (with_reducible exact LeO.none _)
   | (with_reducible refine LeO.ite ?_ ?_)
   | (with_reducible refine LeO.bind ?_ (fun _ => ?_))
   | exact ih0 _ _ _ _
   | exact ih1 _ _ _ _ _ _ _ _
   | exact ih2 _ _ _ _ _ _ _ _ _ _ _ _
   | exact ih3 _ _ _ _ _ _ _ _ _ _ _ _ _
   | exact ih4 _ _ _ _ _ _ _ _ _ _ _ _ _
   | exact ih5 _ _ _ _ _ _ _ _ _ _ _ _ _ _
   | exact cursor_Seek.mono _ _ _ _ _ _
   | exact gaiterlaw00_Rising.mono _ _
   | exact gaiterlaw17_up.mono _
   | exact LeO.none _
   | refine LeO.ite ?_ ?_
   | refine LeO.bind ?_ (fun _ => ?_)
  ·intro y0 y1 y2 y3 y4 y5 y6 y7 y8 y9 y10 y11 y12
   unfold gaiterlaw17_CursorForth.l1
   repeat' first
   | (with_reducible exact ih0 _ _ _ _)
   | (with_reducible exact ih1 _ _ _ _ _ _ _ _)
   | (with_reducible exact ih2 _ _ _ _ _ _ _ _ _ _ _ _)
   | (with_reducible exact ih3 _ _ _ _ _ _ _ _ _ _ _ _ _)
   | (with_reducible exact ih4 _ _ _ _ _ _ _ _ _ _ _ _ _)
   | (with_reducible exact ih5 _ _ _ _ _ _ _ _ _ _ _ _ _ _)
   | (with_reducible exact cursor_Seek.mono _ _ _ _ _ _)
   | (with_reducible exact gaiterlaw00_Rising.mono _ _)
   | (with_reducible exact gaiterlaw17_up.mono _)
   | (with_reducible exact LeO.refl _)
   | (with_reducible exact LeO.none _)
   | (with_reducible refine LeO.ite ?_ ?_)
   | (with_reducible refine LeO.bind ?_ (fun _ => ?_))
   | exact ih0 _ _ _ _
   | exact ih1 _ _ _ _ _ _ _ _
   | exact ih2 _ _ _ _ _ _ _ _ _ _ _ _
   | exact ih3 _ _ _ _ _ _ _ _ _ _ _ _ _
   | exact ih4 _ _ _ _ _ _ _ _ _ _ _ _ _
   | exact ih5 _ _ _ _ _ _ _ _ _ _ _ _ _ _
   | exact cursor_Seek.mono _ _ _ _ _ _
   | exact gaiterlaw00_Rising.mono _ _
   | exact gaiterlaw17_up.mono _
   | exact LeO.none _
   | refine LeO.ite ?_ ?_
   | refine LeO.bind ?_ (fun _ => ?_)
  ·intro y0 y1 y2 y3 y4 y5 y6 y7 y8 y9 y10 y11 y12 y13
   unfold gaiterlaw17_CursorForth.j5
   repeat' first
   | (with_reducible exact ih0 _ _ _ _)
   | (with_reducible exact ih1 _ _ _ _ _ _ _ _)
   | (with_reducible exact ih2 _ _ _ _ _ _ _ _ _ _ _ _)
   | (with_reducible exact ih3 _ _ _ _ _ _ _ _ _ _ _ _ _)
   | (with_reducible exact ih4 _ _ _ _ _ _ _ _ _ _ _ _ _)
   | (with_reducible exact ih5 _ _ _ _ _ _ _ _ _ _ _ _ _ _)
   | (with_reducible exact cursor_Seek.mono _ _ _ _ _ _)
   | (with_reducible exact gaiterlaw00_Rising.mono _ _)
   | (with_reducible exact gaiterlaw17_up.mono _)
   | (with_reducible exact LeO.refl _)
   | (with_reducible exact LeO.none _)
   | (with_reducible refine LeO.ite ?_ ?_)
   | (with_reducible refine LeO.bind ?_ (fun _ => ?_))
   | exact ih0 _ _ _ _
   | exact ih1 _ _ _ _ _ _ _ _
   | exact ih2 _ _ _ _ _ _ _ _ _ _ _ _
   | exact ih3 _ _ _ _ _ _ _ _ _ _ _ _ _
   | exact ih4 _ _ _ _ _ _ _ _ _ _ _ _ _
   | exact ih5 _ _ _ _ _ _ _ _ _ _ _ _ _ _
   | exact cursor_Seek.mono _ _ _ _ _ _
   | exact gaiterlaw00_Rising.mono _ _
   | exact gaiterlaw17_up.mono _
   | exact LeO.none _
   | refine LeO.ite ?_ ?_
   | refine LeO.bind ?_ (fun _ => ?_)
theorem gaiterlaw17_CursorForth.mono : ∀ a0 a1 k, LeO (gaiterlaw17_CursorForth.f k a0 a1) (gaiterlaw17_CursorForth.f (k + 1) a0 a1) := by
 intro a0 a1 k
 obtain ⟨ih0, ih1, ih2, ih3, ih4, ih5⟩ := gaiterlaw17_CursorForth.mono_l k
 unfold gaiterlaw17_CursorForth.f
 repeat' first
   | (with_reducible exact ih0 _ _ _ _)
   | (with_reducible exact ih1 _ _ _ _ _ _ _ _)
   | (with_reducible exact ih2 _ _ _ _ _ _ _ _ _ _ _ _)
   | (with_reducible exact ih3 _ _ _ _ _ _ _ _ _ _ _ _ _)
   | (with_reducible exact ih4 _ _ _ _ _ _ _ _ _ _ _ _ _)
   | (with_reducible exact ih5 _ _ _ _ _ _ _ _ _ _ _ _ _ _)
   | (with_reducible exact cursor_Seek.mono _ _ _ _ _ _)
   | (with_reducible exact gaiterlaw00_Rising.mono _ _)
   | (with_reducible exact gaiterlaw17_up.mono _)
   | (with_reducible exact LeO.refl _)
   | (with_reducible exact LeO.none _)
   | (with_reducible refine LeO.ite ?_ ?_)
   | (with_reducible refine LeO.bind ?_ (fun _ => ?_))
   | exact ih0 _ _ _ _
   | exact ih1 _ _ _ _ _ _ _ _
   | exact ih2 _ _ _ _ _ _ _ _ _ _ _ _
   | exact ih3 _ _ _ _ _ _ _ _ _ _ _ _ _
   | exact ih4 _ _ _ _ _ _ _ _ _ _ _ _ _
   | exact ih5 _ _ _ _ _ _ _ _ _ _ _ _ _ _
   | exact cursor_Seek.mono _ _ _ _ _ _
   | exact gaiterlaw00_Rising.mono _ _
   | exact gaiterlaw17_up.mono _
   | exact LeO.none _
   | refine LeO.ite ?_ ?_
   | refine LeO.bind ?_ (fun _ => ?_)
def gaiterlaw17_CursorForth.T14 : Bool × List (List Nat × List Nat) := (true, [([], []), ([], []), ([], []), ([1, 2], [1, 2]), ([3], [3]), ([4], [4]), ([0, 5], [0, 5]), ([6], [6]), ([7], [7]), ([7], [7]), ([8, 6, 0, 1, 2, 3, 4, 5, 6, 7, 8], [8]), ([9, 10, 0, 1, 2, 3, 4, 5, 6, 7, 8, 9, 10], [9])])
def gaiterlaw17_CursorForth.B14 : List Nat := [0, 0, 0, 6, 14, 30, 63, 127, 255, 255, 511, 2047]
theorem gaiterlaw17_CursorForth.tab14 : rtab .any (opsOf Try.f10 14) = gaiterlaw17_CursorForth.T14 := by kernel_rfl
theorem gaiterlaw17_CursorForth.bits14 : waitsOk gaiterlaw17_CursorForth.T14.2 gaiterlaw17_CursorForth.B14 = true := by kernel_rfl
def gaiterlaw17_CursorForth.T22 : Bool × List (List Nat × List Nat) := (true, [([], []), ([], []), ([0, 1], [0, 1]), ([2], [2]), ([3], [3]), ([], []), ([], []), ([5, 6], [5, 6]), ([7], [7]), ([8], [8]), ([4, 9], [4, 9]), ([], []), ([10, 11], [10, 11])])
def gaiterlaw17_CursorForth.B22 : List Nat := [0, 0, 3, 7, 15, 0, 0, 96, 224, 480, 1023, 0, 4095]
theorem gaiterlaw17_CursorForth.tab22 : rtab .any (opsOf Try.f10 22) = gaiterlaw17_CursorForth.T22 := by kernel_rfl
theorem gaiterlaw17_CursorForth.bits22 : waitsOk gaiterlaw17_CursorForth.T22.2 gaiterlaw17_CursorForth.B22 = true := by kernel_rfl
set_option maxHeartbeats 8000000 in
set_option maxRecDepth 100000 in
theorem gaiterlaw17_CursorForth.calls (k : Nat) (A0 : Option Addr) (c0 : Nat) (l0 : List (S68)) (A1 : Option Addr) (c1 : Nat) (l1 : List (S54)) (r : Bool) (w : World) (hr0 : Kd.C k68 w A0 l0.length l0) (hc0 : l0.length ≤ c0) (hr1 : Kd.C k54 w A1 l1.length l1) (hc1 : l1.length ≤ c1) (h : gaiterlaw17_CursorForth.f k l0 l1 = some r) :
  Calls Try.prog 10 #[.slice A0 l0.length c0, .slice A1 l1.length c1] w fun e w' => e = .returned (.bool r) ∧ Below w.heap.size w w' := by
 have hu49 := Try.underlying49
 have HR0 := Aside0.mk hr0
 have HC0 := Aside0.mk hc0
 clear hr0 hc0
 have HR1 := Aside0.mk hr1
 have HC1 := Aside0.mk hc1
 clear hr1 hc1
 have HB := Aside0.mk (Below.refl w.heap.size w)
 have H : ((gaiterlaw17_up.f k).bind fun t361 => (if (l0.length : Int) > 100 then (gaiterlaw17_CursorForth.j0 k l0 l1 t361 true) else (gaiterlaw17_CursorForth.j0 k l0 l1 t361 (decide ((l1.length : Int) > 100))))) = some r := h
 clear h
 replace H := Option.bind_eq_some_iff.mp H
 obtain ⟨t361, A30, H⟩ := H
 replace H : (if (l0.length : Int) > 100 then (gaiterlaw17_CursorForth.j0 k l0 l1 t361 true) else (gaiterlaw17_CursorForth.j0 k l0 l1 t361 (decide ((l1.length : Int) > 100)))) = some r := H
 have A3 := Aside0.mk A30
 clear A30
 have HC4 := Aside0.mk H
 clear H
 go_enter Try.func10, Try.ntmps10
 go_upto_region 2 with (first | ((with_reducible refine gate_callee (f := 30) rfl ?_); refine goesL_ (some 15) rfl rfl Try.func30 (by kernel_rfl) rfl #[] rfl (by (try simp only [List.map_toArray, List.map_cons, List.map_nil]); first | done | rfl | (simp only [List.length_drop, List.length_take]; rfl)) ?_; (with_reducible refine (gaiterlaw17_up.calls k  t361 _ A3.out).mono ?_); rintro e w5 ⟨rfl, hb⟩; refine ⟨_, rfl, ?_⟩; have n0_ := Aside0.mk (below_step (by repeat (first | (with_reducible first | exact HB.out | apply below_alloc | apply pw_below_drewN | apply below_drew1) | exact HB.out)) hb); clear HB; have HB := n0_; clear n0_; (try clear hb); (try clear hb2); (try clear hk); (try clear hi)))
 (try simp only [Act.put, List.setIfInBounds_toArray, List.set_cons_zero, List.set_cons_succ])
 go_cut [23] (fun v23 wc => ∃ (kq : Nat) (x23_3 : Bool), v23 = .bool x23_3 ∧ Aside0 (gaiterlaw17_CursorForth.j0 kq l0 l1 t361 x23_3 = some r) ∧ Aside0 (kq ≤ k) ∧ Aside0 (Below w.heap.size w wc))
 case first =>
  have H := HC4.out
  clear HC4
  by_cases c6 : (l0.length : Int) > 100
  ·rw [if_pos c6] at H
   have c6b0 : decide (100 < (l0.length : Int)) = true := decide_eq_true c6
   have c6b1 : decide (100 < l0.length) = true := decide_eq_true (by omega)
   clear c6
   (first | rw [c6b0] | (simp only [i64_w, i32_w]; rw [c6b0]) | skip)
   have H' := Aside0.mk H
   clear H
   go_wp2
   go_meet
   case rel => exact ⟨_, (true), (by first | rfl | (simp; done) | (simp [*]; done)), H', ⟨by first | omega | exact Nat.le_refl _⟩, ⟨by repeat (first | (with_reducible first | exact HB.out | apply below_alloc | apply pw_below_drewN | apply below_drew1) | exact HB.out)⟩⟩
  ·rw [if_neg c6] at H
   have c6b0 : decide (100 < (l0.length : Int)) = false := decide_eq_false c6
   have c6b1 : decide (100 < l0.length) = false := decide_eq_false (by omega)
   clear c6
   (first | rw [c6b0] | (simp only [i64_w, i32_w]; rw [c6b0]) | skip)
   have H' := Aside0.mk H
   clear H
   go_wp2
   go_meet
   case rel => exact ⟨_, (decide ((l1.length : Int) > 100)), (by first | rfl | (simp; done) | (simp [*]; done)), H', ⟨by first | omega | exact Nat.le_refl _⟩, ⟨by repeat (first | (with_reducible first | exact HB.out | apply below_alloc | apply pw_below_drewN | apply below_drew1) | exact HB.out)⟩⟩
 case rest =>
  clear HC4
  try clear c1
  try clear p2
  try clear c3
  try clear c6
  try clear c6b0
  try clear c6b1
  (try clear HB)
  obtain ⟨kq, x23_3, rfl, HA, HJ3, HB⟩ := hcut
  cases kq with
  | zero => exact absurd HA.out (by simp [gaiterlaw17_CursorForth.j0])
  | succ kj3 =>
   have H := HA.out
   clear HA
   simp only [gaiterlaw17_CursorForth.j0] at H
   by_cases c7 : x23_3 = true
   ·subst c7
    have H1 : (some t361) = some r := by rw [if_pos rfl] at H; exact H
    clear H
    have H := H1
    clear H1
    obtain rfl := Option.some.inj H
    go_wp2
    go_ret
    exact ⟨by first | rfl | (simp [errW_none, errW_some] <;> rfl) | (simp [*, errW_none, errW_some] <;> rfl), by repeat (first | (with_reducible first | exact HB.out | apply below_alloc | apply pw_below_drewN | apply below_drew1) | exact HB.out)⟩
   ·replace c7 := Bool.eq_false_iff.mpr c7
    subst c7
    have H1 : ((gaiterlaw00_Rising.f kj3 l0).bind fun t362 => ((cursor_New.f t362 none).bind fun bt365 => (gaiterlaw17_CursorForth.l0 kj3 l1 t361 t362 0 bt365.1 bt365.2.1 bt365.2.2.1 bt365.2.2.2))) = some r := by rw [if_neg (show ¬ (false = true) by decide)] at H; exact H
    clear H
    have H := H1
    clear H1
    replace H := Option.bind_eq_some_iff.mp H
    obtain ⟨t362, A80, H⟩ := H
    replace H : ((cursor_New.f t362 none).bind fun bt365 => (gaiterlaw17_CursorForth.l0 kj3 l1 t361 t362 0 bt365.1 bt365.2.1 bt365.2.2.1 bt365.2.2.2)) = some r := H
    have A8 := Aside0.mk A80
    clear A80
    replace H := Option.bind_eq_some_iff.mp H
    obtain ⟨⟨t365, t368, t369, t370⟩, A90, H⟩ := H
    replace H : (gaiterlaw17_CursorForth.l0 kj3 l1 t361 t362 0 t365 t368 t369 t370) = some r := H
    have A9 := Aside0.mk A90
    clear A90
    have H' := Aside0.mk H
    clear H
    go_wp2_with (first | ((with_reducible refine gate_callee (f := 31) rfl ?_); refine goesL_ (some 26) rfl rfl Try.func31 (by kernel_rfl) rfl #[.slice A0 l0.length c0] rfl (by (try simp only [List.map_toArray, List.map_cons, List.map_nil]); first | done | rfl | (simp only [List.length_drop, List.length_take]; rfl)) ?_; (with_reducible refine (gaiterlaw00_Rising.calls kj3 _ _ l0 t362 _ ?side1 ?side2 A8.out).mono ?_); (case side1 => repeat (first | exact (Kd.C_below HR0.out HB.out) | (with_reducible refine Kd.C_alloc ?_ _) | (with_reducible refine Kd.C_drewN ?_ _) | (with_reducible refine Kd.C_drew ?_))); (case side2 => exact HC0.out); rintro e w10 ⟨v363, rfl, ho0, hb⟩; refine ⟨_, rfl, ?_⟩; have n0_ := Aside0.mk (Kd.R_lower ho0 (below_size (by repeat (first | (with_reducible first | exact HB.out | apply below_alloc | apply pw_below_drewN | apply below_drew1) | exact HB.out)))); have n1_ := Aside0.mk (below_step (by repeat (first | (with_reducible first | exact HB.out | apply below_alloc | apply pw_below_drewN | apply below_drew1) | exact HB.out)) hb); clear HB; have HO364 := n0_; have HB := n1_; clear n0_ n1_; (try clear hb); (try clear hb2); (try clear hk); (try clear hi); (try clear ho0); obtain ⟨Ao11, co11, eo11⟩ := Kd.R_slice HO364.out; subst eo11) | (go_at_call 32; refine calls_of_args (args' := #[.slice Ao11 t362.length co11, errW none]) (by first | rfl | (simp only [errW_none, errW_some]; rfl)) ?_; (with_reducible refine (cursor_New.calls (fun k_ => some k_ = (.slice Ao11 t362.length co11 : Value).ownBlock) _ _ t362 none t365 t368 t369 t370 _ ?side1 A9.out).mono ?_); (case side1 => exact Kd.R_V (Kd.R_tight rfl (HO364.out))); rintro e w12 ⟨v366, rfl, ho0, hb⟩; have n0_ := Aside0.mk (Kd.R_below (by (with_reducible repeat (first | apply Kd.R_alloc | apply Kd.R_drewN | apply Kd.R_drew)); exact HO364.out) hb); have n1_ := Aside0.mk (Kd.V_lower (Kd.V_mono (ok' := fun k_ => True) ho0 (fun k_ hk_ => trivial)) (below_size (by repeat (first | (with_reducible first | exact HB.out | apply below_alloc | apply pw_below_drewN | apply below_drew1) | exact HB.out)))); have n2_ := Aside0.mk (below_step (by repeat (first | (with_reducible first | exact HB.out | apply below_alloc | apply pw_below_drewN | apply below_drew1) | exact HB.out)) hb); clear HO364; clear HB; have HO364 := n0_; have HO367 := n1_; have HB := n2_; clear n0_ n1_ n2_; (try clear hb); (try clear hb2); (try clear hk); (try clear hi); (try clear ho0); (try simp only [errW_none, errW_some])) | ((with_reducible refine gate_dst (N := 7) rfl ?_); (try (refine gate_guard (by rfl) ?_; dsimp only)); refine box_event ?hg (N := 7) ?hd (cs := #[.slice none 0 0, errW none, .int .i64 0, .bool false]) (t := 49) ?hr ?_; (case hd => rfl); (case hg => rfl); (case hr => first | (go_simp; done) | (go_simp; rfl)); intro gb371 hg w13 hbox hb; have n0_ := Aside0.mk (Kd.R_below (by (with_reducible repeat (first | apply Kd.R_alloc | apply Kd.R_drewN | apply Kd.R_drew)); exact HO364.out) hb); have n1_ := Aside0.mk (Kd.V_below (Kd.V_elderB (by (with_reducible repeat (first | apply Kd.V_alloc | apply Kd.V_drewN | apply Kd.V_drew)); exact HO367.out) gb371 (Nat.le_of_eq hg.symm)) hb); have n2_ := Aside0.mk (below_step (by repeat (first | (with_reducible first | exact HB.out | apply below_alloc | apply pw_below_drewN | apply below_drew1) | exact HB.out)) hb); have n3_ := Aside0.mk (hbox); have n4_ := Aside0.mk ((by rw [hg]; exact (below_size (by repeat (first | (with_reducible first | exact HB.out | apply below_alloc | apply pw_below_drewN | apply below_drew1) | exact HB.out))) : w.heap.size ≤ gb371)); have n5_ := Aside0.mk ((by rw [hg]; exact (below_size (by repeat (first | (with_reducible first | exact HB.out | apply below_alloc | apply pw_below_drewN | apply below_drew1) | exact HB.out))) : w.heap.size ≤ gb371)); clear HO364; clear HO367; clear HB; have HO364 := n0_; have HO367 := n1_; have HB := n2_; have BK371 := n3_; have GW371 := n4_; have GE371 := n5_; clear n0_ n1_ n2_ n3_ n4_ n5_; clear hb hbox hg; obtain ⟨Ao14, co14, eo14⟩ := Kd.V_slice HO367.out; subst eo14; have hcz15_0 : w13.cell? ⟨gb371, 0, none⟩ = some (.slice none 0 0) := (blk_cell BK371.out 0).trans rfl; have hcz15_1 : w13.cell? ⟨gb371, 1, none⟩ = some (errW none) := (blk_cell BK371.out 1).trans rfl; have hcz15_2 : w13.cell? ⟨gb371, 2, none⟩ = some (.int .i64 0) := (blk_cell BK371.out 2).trans rfl; have hcz15_3 : w13.cell? ⟨gb371, 3, none⟩ = some (.bool false) := (blk_cell BK371.out 3).trans rfl; have hfz15_0 := blk_frozen BK371.out 0; have hfz15_1 := blk_frozen BK371.out 1; have hfz15_2 := blk_frozen BK371.out 2; have hfz15_3 := blk_frozen BK371.out 3))
    go_loopg [8] kj3 (fun kq v8 w' => ∃ (x8_2 : Int) (x372000_2 : List (S68)) (x372001_2 : Option Int) (x372002_2 : Int) (x372003_2 : Bool) (u372000 : Value), v8 = .int .i64 x8_2 ∧ Aside0 (gaiterlaw17_CursorForth.l0 kq l1 t361 t362 x8_2 x372000_2 x372001_2 x372002_2 x372003_2 = some r) ∧ Aside0 (kq ≤ kj3) ∧ Aside0 (Kd.R k68 68 w' w.heap.size (fun _ => True) (.slice Ao11 t362.length co11) t362) ∧ Aside0 (Kd.V k68 68 w' w.heap.size (fun k_ => k_ ≠ gb371) u372000 x372000_2) ∧ Aside0 (w'.heap[gb371]? = some (.cells #[u372000, errW x372001_2, .int .i64 x372002_2, .bool x372003_2] 49 (0, 0))) ∧ Aside0 (Below w.heap.size w w'))
    case atStart => exact ⟨(0), (t365), (t368), (t369), (t370), (.slice Ao14 t365.length co14), (by first | rfl | (simp; done) | (simp [*]; done)), H', ⟨Nat.le_refl _⟩, ⟨by (with_reducible repeat (first | apply Kd.R_alloc | apply Kd.R_drewN | apply Kd.R_drew)); exact Kd.R_mono (Kd.R_far (p := ⟨gb371, 3, none⟩) (Kd.R_far (p := ⟨gb371, 2, none⟩) (Kd.R_far (p := ⟨gb371, 1, none⟩) (Kd.R_far (p := ⟨gb371, 0, none⟩) (Kd.R_types HO364.out BK371.out (by decide)) (fun _ hk => hk.2) (.slice Ao14 t365.length co14)) (fun _ hk => hk.2) (errW t368)) (fun _ hk => hk.2) (.int .i64 t369)) (fun _ hk => hk.2) (.bool t370)) (fun _ hk => trivial)⟩, ⟨by (with_reducible repeat (first | apply Kd.V_alloc | apply Kd.V_drewN | apply Kd.V_drew)); exact Kd.V_mono (Kd.V_far (p := ⟨gb371, 3, none⟩) (Kd.V_far (p := ⟨gb371, 2, none⟩) (Kd.V_far (p := ⟨gb371, 1, none⟩) (Kd.V_far (p := ⟨gb371, 0, none⟩) (Kd.V_mono HO367.out (fun k_ hk => (⟨hk, hk.2⟩ : _ ∧ k_ ≠ gb371))) (fun _ hk => hk.2) (.slice Ao14 t365.length co14)) (fun _ hk => hk.2) (errW t368)) (fun _ hk => hk.2) (.int .i64 t369)) (fun _ hk => hk.2) (.bool t370)) (fun _ hk => hk.1.2)⟩, ⟨by (with_reducible repeat (first | refine blk_drewN ?_ _ | refine blk_drew ?_ | refine blk_alloc ?_ _)); refine blk_put (cs := #[.slice Ao14 t365.length co14, errW t368, .int .i64 t369, .bool false]) ?_ 3 _ rfl; (with_reducible repeat (first | refine blk_drewN ?_ _ | refine blk_drew ?_ | refine blk_alloc ?_ _)); refine blk_put (cs := #[.slice Ao14 t365.length co14, errW t368, .int .i64 0, .bool false]) ?_ 2 _ rfl; (with_reducible repeat (first | refine blk_drewN ?_ _ | refine blk_drew ?_ | refine blk_alloc ?_ _)); refine blk_put (cs := #[.slice Ao14 t365.length co14, errW none, .int .i64 0, .bool false]) ?_ 1 _ rfl; (with_reducible repeat (first | refine blk_drewN ?_ _ | refine blk_drew ?_ | refine blk_alloc ?_ _)); refine blk_put (cs := #[.slice none 0 0, errW none, .int .i64 0, .bool false]) ?_ 0 _ rfl; (with_reducible repeat (first | refine blk_drewN ?_ _ | refine blk_drew ?_ | refine blk_alloc ?_ _)); exact BK371.out⟩, ⟨by repeat (first | (with_reducible first | exact HB.out | apply below_alloc | apply pw_below_drewN | apply below_drew1 | refine below_set ?_ GE371.out) | exact HB.out)⟩⟩
    case round =>
     clear H'
     try clear c1
     try clear p2
     try clear c3
     try clear c6
     try clear c6b0
     try clear c6b1
     try clear c7
     try clear c10
     try clear hcz15_0
     try clear hcz15_1
     try clear hcz15_2
     try clear hcz15_3
     try clear hfz15_0
     try clear hfz15_1
     try clear hfz15_2
     try clear hfz15_3
     try clear p2
     obtain ⟨x8_2, x372000_2, x372001_2, x372002_2, x372003_2, u372000, rfl, HA, HK2, HO_6, HO_372000, BK371, HB⟩ := hrel
     cases gk with
     | zero => exact absurd HA.out (by simp [gaiterlaw17_CursorForth.l0])
     | succ k2 =>
      have H := HA.out
      clear HA
      simp only [gaiterlaw17_CursorForth.l0] at H
      by_cases c16 : x8_2 < (l1.length : Int)
      ·rw [if_pos c16] at H
       have c16b0 : decide (x8_2 < (l1.length : Int)) = true := decide_eq_true c16
       clear c16
       by_cases c17 : 0 ≤ x8_2
       ·rw [if_pos c17] at H
        have c17b0 : decide (0 ≤ x8_2) = true := decide_eq_true c17
        clear c17
        replace H := Option.bind_eq_some_iff.mp H
        obtain ⟨t373, A180, H⟩ := H
        replace H : (if t373 = 2 then ((cursor_Seek.f k2 x372000_2 x372001_2 x372002_2 x372003_2 ((rd_T54 l1 x8_2).f1)).bind fun bt375 => (gaiterlaw17_CursorForth.j2 k2 l1 t361 t362 x8_2 x372002_2 x372003_2 (t373 == 2) bt375.2.2.2.2 bt375.1 bt375.2.1 bt375.2.2.1 bt375.2.2.2.1)) else ((cursor_Next.f x372000_2 x372001_2 x372002_2 x372003_2).bind fun bt382 => (gaiterlaw17_CursorForth.j2 k2 l1 t361 t362 x8_2 x372002_2 x372003_2 (t373 == 2) bt382.2.2.2.2 bt382.1 bt382.2.1 bt382.2.2.1 bt382.2.2.2.1))) = some r := H
        have A18 := Aside0.mk A180
        clear A180
        have HC19 := Aside0.mk H
        clear H
        have hcz20_0 : wr.cell? ⟨gb371, 0, none⟩ = some (u372000) := (blk_cell BK371.out 0).trans rfl
        have hcz20_1 : wr.cell? ⟨gb371, 1, none⟩ = some (errW x372001_2) := (blk_cell BK371.out 1).trans rfl
        have hcz20_2 : wr.cell? ⟨gb371, 2, none⟩ = some (.int .i64 x372002_2) := (blk_cell BK371.out 2).trans rfl
        have hcz20_3 : wr.cell? ⟨gb371, 3, none⟩ = some (.bool x372003_2) := (blk_cell BK371.out 3).trans rfl
        have hfz20_0 := blk_frozen BK371.out 0
        have hfz20_1 := blk_frozen BK371.out 1
        have hfz20_2 := blk_frozen BK371.out 2
        have hfz20_3 := blk_frozen BK371.out 3
        have p372 : 0 ≤ (x8_2 : Int) := of_decide_eq_true (by first | (with_reducible assumption) | assumption)
        have q372 : x8_2 < (l1.length : Int) := of_decide_eq_true (by first | (with_reducible assumption) | assumption)
        obtain ⟨ad372, e372, hx372_0, hx372_1⟩ := at_T54 HR1.out x8_2 p372 q372
        cases e372
        replace hx372_0 := (HB.out.cell (World.block_lt_of_cell? w _ hx372_0)).trans hx372_0
        replace hx372_1 := (HB.out.cell (World.block_lt_of_cell? w _ hx372_1)).trans hx372_1
        replace p372 := eq_true p372
        (try (have q372s := q372; simp only [List.length_drop, List.length_take] at q372s; replace q372s := eq_true q372s)); replace q372 := eq_true q372
        go_upto_if 46 with (first | ((with_reducible refine gate_callee (f := 29) rfl ?_); refine goesL_ (some 44) rfl rfl Try.func29 (by kernel_rfl) rfl #[.int .i64 ((rd_T54 l1 x8_2).f0), .int .i64 3] rfl (by (try simp only [List.map_toArray, List.map_cons, List.map_nil]); first | done | rfl | (simp only [List.length_drop, List.length_take]; rfl)) ?_; (with_reducible refine (gaiterlaw00_Pick.calls ((rd_T54 l1 x8_2).f0) 3 t373 _ A18.out).mono ?_); rintro e w' ⟨rfl, ⟨nd, rfl⟩⟩; refine ⟨_, rfl, ?_⟩; (try (rw [drewN_self wr]; generalize hq_ : World.drewN wr _ = wr; have n0_ : Aside0 (Kd.V k68 68 wr w.heap.size (fun k_ => k_ ≠ gb371) u372000 x372000_2) := ⟨by rw [← hq_]; exact (by (with_reducible repeat (first | apply Kd.V_alloc | apply Kd.V_drewN | apply Kd.V_drew)); exact HO_372000.out)⟩; have n1_ : Aside0 (Kd.R k68 68 wr w.heap.size (fun _ => True) (.slice Ao11 t362.length co11) t362) := ⟨by rw [← hq_]; exact (by (with_reducible repeat (first | apply Kd.R_alloc | apply Kd.R_drewN | apply Kd.R_drew)); exact HO_6.out)⟩; have n2_ : Aside0 (wr.heap[gb371]? = some (.cells #[u372000, errW x372001_2, .int .i64 x372002_2, .bool x372003_2] 49 (0, 0))) := ⟨by rw [← hq_]; exact (by (with_reducible repeat (first | refine blk_drewN ?_ _ | refine blk_drew ?_ | refine blk_alloc ?_ _)); exact BK371.out)⟩; have n3_ : Aside0 (Below w.heap.size w wr) := ⟨by rw [← hq_]; exact (by repeat (first | (with_reducible first | exact HB.out | apply below_alloc | apply pw_below_drewN | apply below_drew1 | refine below_set ?_ GE371.out) | exact HB.out))⟩; clear HO_372000 HO_6 BK371 HB hq_; have HO_372000 := n0_; have HO_6 := n1_; have BK371 := n2_; have HB := n3_; clear n0_ n1_ n2_ n3_))))
        (try simp only [Act.put, List.setIfInBounds_toArray, List.set_cons_zero, List.set_cons_succ])
        go_cut [11, 12] (fun v11 v12 wc => ∃ (kq : Nat) (x11_18 : Bool) (x12_18 : Bool) (x372000_18 : List (S68)) (x372001_18 : Option Int) (x372002_18 : Int) (x372003_18 : Bool) (u372000 : Value), v11 = .bool x11_18 ∧ v12 = .bool x12_18 ∧ Aside0 (gaiterlaw17_CursorForth.j2 kq l1 t361 t362 x8_2 x372002_2 x372003_2 x11_18 x12_18 x372000_18 x372001_18 x372002_18 x372003_18 = some r) ∧ Aside0 (kq ≤ k2) ∧ Aside0 (Kd.R k68 68 wc w.heap.size (fun _ => True) (.slice Ao11 t362.length co11) t362) ∧ Aside0 (Kd.V k68 68 wc w.heap.size (fun k_ => k_ ≠ gb371) u372000 x372000_18) ∧ Aside0 (wc.heap[gb371]? = some (.cells #[u372000, errW x372001_18, .int .i64 x372002_18, .bool x372003_18] 49 (0, 0))) ∧ Aside0 (Below w.heap.size w wc))
        case first =>
         have H := HC19.out
         clear HC19
         by_cases c21 : t373 = 2
         ·rw [if_pos c21] at H
          have c21b0 : (t373 == 2) = true := beq_iff_eq.mpr c21
          have c21b1 : (t373 != 2) = false := bne_eq_false_iff_eq.mpr c21
          clear c21
          (first | rw [c21b0] | (simp only [i64_w, i32_w]; rw [c21b0]) | skip)
          replace H := Option.bind_eq_some_iff.mp H
          obtain ⟨⟨t375, t378, t379, t380, t381⟩, A220, H⟩ := H
          replace H : (gaiterlaw17_CursorForth.j2 k2 l1 t361 t362 x8_2 x372002_2 x372003_2 (t373 == 2) t381 t375 t378 t379 t380) = some r := H
          have A22 := Aside0.mk A220
          clear A220
          have H' := Aside0.mk H
          clear H
          try go_wp2
          have n0_ := Aside0.mk (Kd.R_drew HO_6.out)
          have n1_ := Aside0.mk (Kd.V_drew HO_372000.out)
          have n2_ := Aside0.mk (blk_drew BK371.out)
          have n3_ := Aside0.mk (below_drew1 HB.out)
          clear HO_6
          clear HO_372000
          clear BK371
          clear HB
          have HO_6 := n0_
          have HO_372000 := n1_
          have BK371 := n2_
          have HB := n3_
          clear n0_ n1_ n2_ n3_
          have p374 : 0 ≤ (x8_2 : Int) := of_decide_eq_true (by first | (with_reducible assumption) | assumption)
          have q374 : x8_2 < (l1.length : Int) := of_decide_eq_true (by first | (with_reducible assumption) | assumption)
          obtain ⟨ad374, e374, hx374_0, hx374_1⟩ := at_T54 HR1.out x8_2 p374 q374
          have hw374_1 := hx374_1
          have hw374_0 := hx374_0
          obtain rfl : ad372 = ad374 := (by injection e374)
          replace hx374_0 := (HB.out.cell (World.block_lt_of_cell? w _ hx374_0)).trans hx374_0
          replace hx374_1 := (HB.out.cell (World.block_lt_of_cell? w _ hx374_1)).trans hx374_1
          replace p374 := eq_true p374
          (try (have q374s := q374; simp only [List.length_drop, List.length_take] at q374s; replace q374s := eq_true q374s)); replace q374 := eq_true q374
          obtain ⟨Ao24, co24, eo24⟩ := Kd.V_slice HO_372000.out
          (first | subst eo24 | (injection eo24 with f1_ f2_ f3_; have f4_ := f1_.symm; have f5_ := f3_.symm; clear f1_ f2_ f3_; subst f4_; subst f5_))
          refine start_ (n := 12) (S := fun w' => w'.cell? ⟨gb371, 0, none⟩ = some (.slice Ao24 x372000_2.length co24) ∧ w'.cell? ⟨gb371, 1, none⟩ = some (errW x372001_2) ∧ w'.cell? ⟨gb371, 2, none⟩ = some (.int .i64 x372002_2) ∧ w'.cell? ⟨gb371, 3, none⟩ = some (.bool x372003_2) ∧ w'.cell? (ad372.add ((x8_2).toNat * 2)) = some (.int .i64 ((rd_T54 l1 x8_2).f0)) ∧ w'.cell? ⟨(ad372.add ((x8_2).toNat * 2)).block, (ad372.add ((x8_2).toNat * 2)).off + 1, none⟩ = some (.int .i64 ((rd_T54 l1 x8_2).f1))) (ds := [10]) #[false, false, false, false, false, false, false, false, false, false, false, false] (by kernel_rfl) rfl rfl ⟨(blk_cell BK371.out 0).trans rfl, (blk_cell BK371.out 1).trans rfl, (blk_cell BK371.out 2).trans rfl, (blk_cell BK371.out 3).trans rfl, ((HB.out.cell (World.block_lt_of_cell? w _ hw374_0)).trans hw374_0), ((HB.out.cell (World.block_lt_of_cell? w _ hw374_1)).trans hw374_1)⟩ (fun hHeld => ?_); refine with_tabW gaiterlaw17_CursorForth.tab14 gaiterlaw17_CursorForth.bits14 (fun HT_ HW_ => ?_)
          generalize wr.drew = w23 at HO_6 HO_372000 BK371 HB hx374_0 hx374_1 hHeld ⊢
          refine pure_ (i := 1) (N := some 49) (v := ?_) (a' := ?_) #[false, true, false, false, false, false, false, false, false, false, false, false] rfl rfl (any_of HT_.out (by kernel_rfl)) (fun _ _ _ h => h) (Or.inl ⟨by rfl, ?_⟩) ?_ ?_
          rotate_left
          ·intro w'
           go_simp
           with_reducible rfl
          rotate_left
          ·simp only [Act.put, List.setIfInBounds_toArray, List.set_cons_zero, List.set_cons_succ, i64_w, i32_w]
           rfl
          refine pure_ (i := 2) (N := some 50) (v := ?_) (a' := ?_) #[false, true, true, false, false, false, false, false, false, false, false, false] rfl rfl (any_of HT_.out (by kernel_rfl)) (fun _ _ _ h => h) (Or.inl ⟨by rfl, ?_⟩) ?_ ?_
          rotate_left
          ·intro w'
           go_simp
           with_reducible rfl
          rotate_left
          ·simp only [Act.put, List.setIfInBounds_toArray, List.set_cons_zero, List.set_cons_succ, i64_w, i32_w]
           rfl
          refine pure_ (i := 3) (N := some 51) (v := ?_) (a' := ?_) #[false, true, true, true, false, false, false, false, false, false, false, false] rfl rfl (any_of HT_.out (by kernel_rfl)) (fun _ _ _ h => h) (Or.inl ⟨by rfl, ?_⟩) ?_ ?_
          rotate_left
          ·intro w'
           go_simp
           with_reducible rfl
          rotate_left
          ·simp only [Act.put, List.setIfInBounds_toArray, List.set_cons_zero, List.set_cons_succ, i64_w, i32_w]
           rfl
          refine pure_ (i := 4) (N := some 52) (v := ?_) (a' := ?_) #[false, true, true, true, true, false, false, false, false, false, false, false] rfl rfl (any_of HT_.out (by kernel_rfl)) (fun _ _ _ h => h) (Or.inl ⟨by rfl, ?_⟩) ?_ ?_
          rotate_left
          ·intro w'
           go_simp
           with_reducible rfl
          rotate_left
          ·simp only [Act.put, List.setIfInBounds_toArray, List.set_cons_zero, List.set_cons_succ, i64_w, i32_w]
           rfl
          refine take_ (i := 0) (N := some 48) (v := ?_) (a' := ?_) #[true, true, true, true, true, false, false, false, false, false, false, false] rfl rfl (take_ofW HT_.out HW_.out (by kernel_rfl)) (fun _ _ _ h => h) (Or.inl ⟨by rfl, ?_⟩) hHeld ?_ ?_
          rotate_left
          ·rintro w' ⟨s0, s1, s2, s3, s4, s5⟩
           go_simp
           with_reducible rfl
          rotate_left
          ·simp only [Act.put, List.setIfInBounds_toArray, List.set_cons_zero, List.set_cons_succ, i64_w, i32_w]
           rfl
          refine take_ (i := 5) (N := some 53) (v := ?_) (a' := ?_) #[true, true, true, true, true, true, false, false, false, false, false, false] rfl rfl (take_ofW HT_.out HW_.out (by kernel_rfl)) (fun _ _ _ h => h) (Or.inl ⟨by rfl, ?_⟩) hHeld ?_ ?_
          rotate_left
          ·rintro w' ⟨s0, s1, s2, s3, s4, s5⟩
           go_simp
           with_reducible rfl
          rotate_left
          ·simp only [Act.put, List.setIfInBounds_toArray, List.set_cons_zero, List.set_cons_succ, i64_w, i32_w]
           rfl
          refine one_ (i := 6) (N := some 54) #[true, true, true, true, true, true, true, false, false, false, false, false] rfl rfl (one_of HT_.out (by kernel_rfl)) (by decide) (fun K hK => ?_)
          refine goes_ Try.func34 (by kernel_rfl) rfl #[.agg #[.slice Ao24 x372000_2.length co24, errW x372001_2, .int .i64 x372002_2, .bool x372003_2], .int .i64 ((rd_T54 l1 x8_2).f1)] (by rfl) rfl rfl (by (try simp only [List.map_toArray, List.map_cons, List.map_nil]); first | done | rfl | (simp only [List.length_drop, List.length_take]; rfl)) ?_
          with_reducible refine (cursor_Seek.calls k2 (fun k_ => k_ ≠ gb371) _ _ x372000_2 x372001_2 x372002_2 x372003_2 ((rd_T54 l1 x8_2).f1) t375 t378 t379 t380 t381 _ ?side1 A22.out).mono ?_
          (case side1 => exact HO_372000.out)
          rintro e w25 ⟨v376, rfl, ho0, hb⟩
          refine ⟨_, rfl, ?_⟩
          have n0_ := Aside0.mk (Kd.R_below (by (with_reducible repeat (first | apply Kd.R_alloc | apply Kd.R_drewN | apply Kd.R_drew)); exact HO_6.out) hb)
          have n1_ := Aside0.mk (Kd.V_below (by (with_reducible repeat (first | apply Kd.V_alloc | apply Kd.V_drewN | apply Kd.V_drew)); exact HO_372000.out) hb)
          have n2_ := Aside0.mk (Kd.V_lower (Kd.V_mono (ok' := fun k_ => k_ ≠ gb371) ho0 (fun k_ hk_ => Or.elim hk_ (fun hs_ => hs_) (fun hn_ => (Kd.freshB (g := gb371) (o := .cells #[.slice Ao24 x372000_2.length co24, errW x372001_2, .int .i64 x372002_2, .bool x372003_2] 49 (0, 0)) (by (with_reducible repeat (first | refine blk_drewN ?_ _ | refine blk_drew ?_ | refine blk_alloc ?_ _)); exact BK371.out) k_ hn_)))) (below_size (by repeat (first | (with_reducible first | exact HB.out | apply below_alloc | apply pw_below_drewN | apply below_drew1 | refine below_set ?_ GE371.out) | exact HB.out))))
          have n3_ := Aside0.mk (blk_below (g := gb371) (o := .cells #[.slice Ao24 x372000_2.length co24, errW x372001_2, .int .i64 x372002_2, .bool x372003_2] 49 (0, 0)) (by (with_reducible repeat (first | refine blk_drewN ?_ _ | refine blk_drew ?_ | refine blk_alloc ?_ _)); exact BK371.out) hb)
          have n4_ := Aside0.mk (below_step (by repeat (first | (with_reducible first | exact HB.out | apply below_alloc | apply pw_below_drewN | apply below_drew1 | refine below_set ?_ GE371.out) | exact HB.out)) hb)
          clear HO_6
          clear HO_372000
          clear BK371
          clear HB
          have HO_6 := n0_
          have HO_372000 := n1_
          have HO377 := n2_
          have BK371 := n3_
          have HB := n4_
          clear n0_ n1_ n2_ n3_ n4_
          (try clear hb)
          (try clear hb2)
          (try clear hk)
          (try clear hi)
          (try clear ho0)
          (try simp only [errW_none, errW_some])
          obtain ⟨Ao26, co26, eo26⟩ := Kd.V_slice HO377.out
          (first | subst eo26 | (injection eo26 with f1_ f2_ f3_; have f4_ := f1_.symm; have f5_ := f3_.symm; clear f1_ f2_ f3_; subst f4_; subst f5_))
          refine hK.out _ _ ⟨(blk_cell BK371.out 0).trans rfl, (blk_cell BK371.out 1).trans rfl, (blk_cell BK371.out 2).trans rfl, (blk_cell BK371.out 3).trans rfl, ((HB.out.cell (World.block_lt_of_cell? w _ hw374_0)).trans hw374_0), ((HB.out.cell (World.block_lt_of_cell? w _ hw374_1)).trans hw374_1)⟩ (fun hHeld => ?_)
          clear hK K
          refine norm_ (a' := ?_) ?_ ?_
          rotate_left
          ·show Act.put _ (some 54) _ = _
           simp only [Act.put, List.setIfInBounds_toArray, List.set_cons_zero, List.set_cons_succ, i64_w, i32_w]
           rfl
          refine pure_ (i := 7) (N := some 47) (v := ?_) (a' := ?_) #[true, true, true, true, true, true, true, true, false, false, false, false] rfl rfl (any_of HT_.out (by kernel_rfl)) (fun _ _ _ h => h) (Or.inl ⟨by rfl, ?_⟩) ?_ ?_
          rotate_left
          ·intro w'
           go_simp
           with_reducible rfl
          rotate_left
          ·simp only [Act.put, List.setIfInBounds_toArray, List.set_cons_zero, List.set_cons_succ, i64_w, i32_w]
           rfl
          refine pure_ (i := 8) (N := some 55) (v := ?_) (a' := ?_) #[true, true, true, true, true, true, true, true, true, false, false, false] rfl rfl (any_of HT_.out (by kernel_rfl)) (fun _ _ _ h => h) (Or.inl ⟨by rfl, ?_⟩) ?_ ?_
          rotate_left
          ·intro w'
           go_simp
           with_reducible rfl
          rotate_left
          ·simp only [Act.put, List.setIfInBounds_toArray, List.set_cons_zero, List.set_cons_succ, i64_w, i32_w]
           rfl
          refine pure_ (i := 9) (N := some 56) (v := ?_) (a' := ?_) #[true, true, true, true, true, true, true, true, true, true, false, false] rfl rfl (any_of HT_.out (by kernel_rfl)) (fun _ _ _ h => h) (Or.inl ⟨by rfl, ?_⟩) ?_ ?_
          rotate_left
          ·intro w'
           go_simp
           with_reducible rfl
          rotate_left
          ·simp only [Act.put, List.setIfInBounds_toArray, List.set_cons_zero, List.set_cons_succ, i64_w, i32_w]
           rfl
          refine last_ (i := 10) (N := none) #[true, true, true, true, true, true, true, true, true, true, true, false] rfl rfl (one_of HT_.out (by kernel_rfl)) (by decide) (fun K hK => ?_)
          have hs27 : w25.cell? ⟨gb371, 0, none⟩ = some (.slice Ao24 x372000_2.length co24) := (blk_cell BK371.out 0).trans rfl
          have hfs27 := blk_frozen BK371.out 0
          have hs28 : w25.cell? ⟨gb371, 1, none⟩ = some (errW x372001_2) := (blk_cell BK371.out 1).trans rfl
          have hfs28 := blk_frozen BK371.out 1
          have hs29 : w25.cell? ⟨gb371, 2, none⟩ = some (.int .i64 x372002_2) := (blk_cell BK371.out 2).trans rfl
          have hfs29 := blk_frozen BK371.out 2
          have hs30 : w25.cell? ⟨gb371, 3, none⟩ = some (.bool x372003_2) := (blk_cell BK371.out 3).trans rfl
          have hfs30 := blk_frozen BK371.out 3
          refine skip_ (w1 := ?_) (by rfl) rfl ?_ ?_
          rotate_left
          ·go_simp
           rfl
          refine hK.out _ _ ?_
          clear hK K
          refine pure_ (i := 11) (N := some 12) (v := ?_) (a' := ?_) #[true, true, true, true, true, true, true, true, true, true, true, true] rfl rfl (any_of HT_.out (by kernel_rfl)) (fun _ _ _ h => h) (Or.inl ⟨by rfl, ?_⟩) ?_ ?_
          rotate_left
          ·intro w'
           go_simp
           with_reducible rfl
          rotate_left
          ·simp only [Act.put, List.setIfInBounds_toArray, List.set_cons_zero, List.set_cons_succ, i64_w, i32_w]
           rfl
          refine done_ (done_of HT_.out (by kernel_rfl)) ?_
          try go_wp2
          go_meet
          case rel => exact ⟨_, ((t373 == 2)), (t381), (t375), (t378), (t379), (t380), (.slice Ao26 t375.length co26), (by first | rfl | (simp; done) | (simp [*]; done)), (by first | rfl | (simp; done) | (simp [*]; done)), H', ⟨by have := HJ3.out; have := HK2.out; first | omega | exact Nat.le_refl _⟩, ⟨by (with_reducible repeat (first | apply Kd.R_alloc | apply Kd.R_drewN | apply Kd.R_drew)); exact Kd.R_mono (Kd.R_far (p := ⟨gb371, 3, none⟩) (Kd.R_far (p := ⟨gb371, 2, none⟩) (Kd.R_far (p := ⟨gb371, 1, none⟩) (Kd.R_far (p := ⟨gb371, 0, none⟩) (Kd.R_types HO_6.out BK371.out (by decide)) (fun _ hk => hk.2) (.slice Ao26 t375.length co26)) (fun _ hk => hk.2) (errW t378)) (fun _ hk => hk.2) (.int .i64 t379)) (fun _ hk => hk.2) (.bool t380)) (fun _ hk => trivial)⟩, ⟨by (with_reducible repeat (first | apply Kd.V_alloc | apply Kd.V_drewN | apply Kd.V_drew)); exact Kd.V_mono (Kd.V_far (p := ⟨gb371, 3, none⟩) (Kd.V_far (p := ⟨gb371, 2, none⟩) (Kd.V_far (p := ⟨gb371, 1, none⟩) (Kd.V_far (p := ⟨gb371, 0, none⟩) (Kd.V_mono HO377.out (fun k_ hk => (⟨hk, hk⟩ : _ ∧ k_ ≠ gb371))) (fun _ hk => hk.2) (.slice Ao26 t375.length co26)) (fun _ hk => hk.2) (errW t378)) (fun _ hk => hk.2) (.int .i64 t379)) (fun _ hk => hk.2) (.bool t380)) (fun _ hk => hk.1)⟩, ⟨by (with_reducible repeat (first | refine blk_drewN ?_ _ | refine blk_drew ?_ | refine blk_alloc ?_ _)); refine blk_put (cs := #[.slice Ao26 t375.length co26, errW t378, .int .i64 t379, .bool x372003_2]) ?_ 3 _ rfl; (with_reducible repeat (first | refine blk_drewN ?_ _ | refine blk_drew ?_ | refine blk_alloc ?_ _)); refine blk_put (cs := #[.slice Ao26 t375.length co26, errW t378, .int .i64 x372002_2, .bool x372003_2]) ?_ 2 _ rfl; (with_reducible repeat (first | refine blk_drewN ?_ _ | refine blk_drew ?_ | refine blk_alloc ?_ _)); refine blk_put (cs := #[.slice Ao26 t375.length co26, errW x372001_2, .int .i64 x372002_2, .bool x372003_2]) ?_ 1 _ rfl; (with_reducible repeat (first | refine blk_drewN ?_ _ | refine blk_drew ?_ | refine blk_alloc ?_ _)); refine blk_put (cs := #[.slice Ao24 x372000_2.length co24, errW x372001_2, .int .i64 x372002_2, .bool x372003_2]) ?_ 0 _ rfl; (with_reducible repeat (first | refine blk_drewN ?_ _ | refine blk_drew ?_ | refine blk_alloc ?_ _)); exact BK371.out⟩, ⟨by repeat (first | (with_reducible first | exact HB.out | apply below_alloc | apply pw_below_drewN | apply below_drew1 | refine below_set ?_ GE371.out) | exact HB.out)⟩⟩
         ·rw [if_neg c21] at H
          have c21b0 : (t373 == 2) = false := beq_eq_false_iff_ne.mpr c21
          have c21b1 : (t373 != 2) = true := bne_iff_ne.mpr c21
          (first | rw [c21b0] | (simp only [i64_w, i32_w]; rw [c21b0]) | skip)
          replace H := Option.bind_eq_some_iff.mp H
          obtain ⟨⟨t382, t385, t386, t387, t388⟩, A310, H⟩ := H
          replace H : (gaiterlaw17_CursorForth.j2 k2 l1 t361 t362 x8_2 x372002_2 x372003_2 (t373 == 2) t388 t382 t385 t386 t387) = some r := H
          have A31 := Aside0.mk A310
          clear A310
          have H' := Aside0.mk H
          clear H
          have hcz32_0 : wr.cell? ⟨gb371, 0, none⟩ = some (u372000) := (blk_cell BK371.out 0).trans rfl
          have hcz32_1 : wr.cell? ⟨gb371, 1, none⟩ = some (errW x372001_2) := (blk_cell BK371.out 1).trans rfl
          have hcz32_2 : wr.cell? ⟨gb371, 2, none⟩ = some (.int .i64 x372002_2) := (blk_cell BK371.out 2).trans rfl
          have hcz32_3 : wr.cell? ⟨gb371, 3, none⟩ = some (.bool x372003_2) := (blk_cell BK371.out 3).trans rfl
          have hfz32_0 := blk_frozen BK371.out 0
          have hfz32_1 := blk_frozen BK371.out 1
          have hfz32_2 := blk_frozen BK371.out 2
          have hfz32_3 := blk_frozen BK371.out 3
          obtain ⟨Ao33, co33, eo33⟩ := Kd.V_slice HO_372000.out
          subst eo33
          go_wp2_with (first | (go_at_call 36; refine calls_of_args (args' := #[.agg #[.slice Ao33 x372000_2.length co33, errW x372001_2, .int .i64 x372002_2, .bool x372003_2]]) (by first | rfl | (simp only [errW_none, errW_some]; rfl)) ?_; (with_reducible refine (cursor_Next.calls (fun k_ => k_ ≠ gb371) _ _ x372000_2 x372001_2 x372002_2 x372003_2 t382 t385 t386 t387 t388 _ ?side1 A31.out).mono ?_); (case side1 => exact HO_372000.out); rintro e w34 ⟨v383, rfl, ho0, hb⟩; have n0_ := Aside0.mk (Kd.R_below (by (with_reducible repeat (first | apply Kd.R_alloc | apply Kd.R_drewN | apply Kd.R_drew)); exact HO_6.out) hb); have n1_ := Aside0.mk (Kd.V_below (by (with_reducible repeat (first | apply Kd.V_alloc | apply Kd.V_drewN | apply Kd.V_drew)); exact HO_372000.out) hb); have n2_ := Aside0.mk (Kd.V_lower (Kd.V_mono (ok' := fun k_ => k_ ≠ gb371) ho0 (fun k_ hk_ => Or.elim hk_ (fun hs_ => hs_) (fun hn_ => (Kd.freshB (g := gb371) (o := .cells #[.slice Ao33 x372000_2.length co33, errW x372001_2, .int .i64 x372002_2, .bool x372003_2] 49 (0, 0)) (by (with_reducible repeat (first | refine blk_drewN ?_ _ | refine blk_drew ?_ | refine blk_alloc ?_ _)); exact BK371.out) k_ hn_)))) (below_size (by repeat (first | (with_reducible first | exact HB.out | apply below_alloc | apply pw_below_drewN | apply below_drew1 | refine below_set ?_ GE371.out) | exact HB.out)))); have n3_ := Aside0.mk (blk_below (g := gb371) (o := .cells #[.slice Ao33 x372000_2.length co33, errW x372001_2, .int .i64 x372002_2, .bool x372003_2] 49 (0, 0)) (by (with_reducible repeat (first | refine blk_drewN ?_ _ | refine blk_drew ?_ | refine blk_alloc ?_ _)); exact BK371.out) hb); have n4_ := Aside0.mk (below_step (by repeat (first | (with_reducible first | exact HB.out | apply below_alloc | apply pw_below_drewN | apply below_drew1 | refine below_set ?_ GE371.out) | exact HB.out)) hb); clear HO_6; clear HO_372000; clear BK371; clear HB; have HO_6 := n0_; have HO_372000 := n1_; have HO384 := n2_; have BK371 := n3_; have HB := n4_; clear n0_ n1_ n2_ n3_ n4_; (try clear hb); (try clear hb2); (try clear hk); (try clear hi); (try clear ho0); (try simp only [errW_none, errW_some]); obtain ⟨Ao35, co35, eo35⟩ := Kd.V_slice HO384.out; subst eo35; have hcz36_0 : w34.cell? ⟨gb371, 0, none⟩ = some (.slice Ao33 x372000_2.length co33) := (blk_cell BK371.out 0).trans rfl; have hcz36_1 : w34.cell? ⟨gb371, 1, none⟩ = some (errW x372001_2) := (blk_cell BK371.out 1).trans rfl; have hcz36_2 : w34.cell? ⟨gb371, 2, none⟩ = some (.int .i64 x372002_2) := (blk_cell BK371.out 2).trans rfl; have hcz36_3 : w34.cell? ⟨gb371, 3, none⟩ = some (.bool x372003_2) := (blk_cell BK371.out 3).trans rfl; have hfz36_0 := blk_frozen BK371.out 0; have hfz36_1 := blk_frozen BK371.out 1; have hfz36_2 := blk_frozen BK371.out 2; have hfz36_3 := blk_frozen BK371.out 3))
          go_meet
          case rel => exact ⟨_, ((t373 == 2)), (t388), (t382), (t385), (t386), (t387), (.slice Ao35 t382.length co35), (by first | rfl | (simp; done) | (simp [*]; done)), (by first | rfl | (simp; done) | (simp [*]; done)), H', ⟨by have := HJ3.out; have := HK2.out; first | omega | exact Nat.le_refl _⟩, ⟨by (with_reducible repeat (first | apply Kd.R_alloc | apply Kd.R_drewN | apply Kd.R_drew)); exact Kd.R_mono (Kd.R_far (p := ⟨gb371, 3, none⟩) (Kd.R_far (p := ⟨gb371, 2, none⟩) (Kd.R_far (p := ⟨gb371, 1, none⟩) (Kd.R_far (p := ⟨gb371, 0, none⟩) (Kd.R_types HO_6.out BK371.out (by decide)) (fun _ hk => hk.2) (.slice Ao35 t382.length co35)) (fun _ hk => hk.2) (errW t385)) (fun _ hk => hk.2) (.int .i64 t386)) (fun _ hk => hk.2) (.bool t387)) (fun _ hk => trivial)⟩, ⟨by (with_reducible repeat (first | apply Kd.V_alloc | apply Kd.V_drewN | apply Kd.V_drew)); exact Kd.V_mono (Kd.V_far (p := ⟨gb371, 3, none⟩) (Kd.V_far (p := ⟨gb371, 2, none⟩) (Kd.V_far (p := ⟨gb371, 1, none⟩) (Kd.V_far (p := ⟨gb371, 0, none⟩) (Kd.V_mono HO384.out (fun k_ hk => (⟨hk, hk⟩ : _ ∧ k_ ≠ gb371))) (fun _ hk => hk.2) (.slice Ao35 t382.length co35)) (fun _ hk => hk.2) (errW t385)) (fun _ hk => hk.2) (.int .i64 t386)) (fun _ hk => hk.2) (.bool t387)) (fun _ hk => hk.1)⟩, ⟨by (with_reducible repeat (first | refine blk_drewN ?_ _ | refine blk_drew ?_ | refine blk_alloc ?_ _)); refine blk_put (cs := #[.slice Ao35 t382.length co35, errW t385, .int .i64 t386, .bool x372003_2]) ?_ 3 _ rfl; (with_reducible repeat (first | refine blk_drewN ?_ _ | refine blk_drew ?_ | refine blk_alloc ?_ _)); refine blk_put (cs := #[.slice Ao35 t382.length co35, errW t385, .int .i64 x372002_2, .bool x372003_2]) ?_ 2 _ rfl; (with_reducible repeat (first | refine blk_drewN ?_ _ | refine blk_drew ?_ | refine blk_alloc ?_ _)); refine blk_put (cs := #[.slice Ao35 t382.length co35, errW x372001_2, .int .i64 x372002_2, .bool x372003_2]) ?_ 1 _ rfl; (with_reducible repeat (first | refine blk_drewN ?_ _ | refine blk_drew ?_ | refine blk_alloc ?_ _)); refine blk_put (cs := #[.slice Ao33 x372000_2.length co33, errW x372001_2, .int .i64 x372002_2, .bool x372003_2]) ?_ 0 _ rfl; (with_reducible repeat (first | refine blk_drewN ?_ _ | refine blk_drew ?_ | refine blk_alloc ?_ _)); exact BK371.out⟩, ⟨by repeat (first | (with_reducible first | exact HB.out | apply below_alloc | apply pw_below_drewN | apply below_drew1 | refine below_set ?_ GE371.out) | exact HB.out)⟩⟩
        case rest =>
         clear HC19
         try clear c1
         try clear c2
         try clear p2
         try clear c3
         try clear p3
         try clear q3
         try clear hx3
         try clear c6
         try clear c6b0
         try clear c6b1
         try clear c7
         try clear c10
         try clear c16
         try clear c16b0
         try clear c17
         try clear c17b0
         try clear c21
         try clear c21b0
         try clear c21b1
         try clear c29
         try clear c30
         try clear c31
         try clear c34
         try clear hcz15_0
         try clear hcz15_1
         try clear hcz15_2
         try clear hcz15_3
         try clear hcz20_0
         try clear hcz20_1
         try clear hcz20_2
         try clear hcz20_3
         try clear hcz32_0
         try clear hcz32_1
         try clear hcz32_2
         try clear hcz32_3
         try clear hcz36_0
         try clear hcz36_1
         try clear hcz36_2
         try clear hcz36_3
         try clear hfz15_0
         try clear hfz15_1
         try clear hfz15_2
         try clear hfz15_3
         try clear hfz20_0
         try clear hfz20_1
         try clear hfz20_2
         try clear hfz20_3
         try clear hfz32_0
         try clear hfz32_1
         try clear hfz32_2
         try clear hfz32_3
         try clear hfz36_0
         try clear hfz36_1
         try clear hfz36_2
         try clear hfz36_3
         try clear hx372_0
         try clear hx372_1
         try clear hx374_0
         try clear hx374_1
         try clear p2
         try clear p372
         try clear p374
         try clear q372
         try clear q374
         (try clear HO_6)
         (try clear HO_372000)
         (try clear BK371)
         (try clear HB)
         obtain ⟨kq, x11_18, x12_18, x372000_18, x372001_18, x372002_18, x372003_18, u372000, rfl, rfl, HA, HJ18, HO_6, HO_372000, BK371, HB⟩ := hcut
         cases kq with
         | zero => exact absurd HA.out (by simp [gaiterlaw17_CursorForth.j2])
         | succ kj18 =>
          have H := HA.out
          clear HA
          simp only [gaiterlaw17_CursorForth.j2] at H
          have HC37 := Aside0.mk H
          clear H
          go_upto_region 16 with (fail)
          go_cut [84] (fun v84 wc => ∃ (kq : Nat) (x84_36 : Bool), v84 = .bool x84_36 ∧ Aside0 (gaiterlaw17_CursorForth.j3 kq l1 t361 t362 x8_2 x372002_2 x372003_2 x11_18 x12_18 x84_36 x372000_18 x372001_18 x372002_18 x372003_18 = some r) ∧ Aside0 (kq ≤ kj18) ∧ Aside0 (Kd.R k68 68 wc w.heap.size (fun _ => True) (.slice Ao11 t362.length co11) t362) ∧ Aside0 (Kd.V k68 68 wc w.heap.size (fun k_ => k_ ≠ gb371) u372000 x372000_18) ∧ Aside0 (wc.heap[gb371]? = some (.cells #[u372000, errW x372001_18, .int .i64 x372002_18, .bool x372003_18] 49 (0, 0))) ∧ Aside0 (Below w.heap.size w wc))
          case first =>
           have H := HC37.out
           clear HC37
           by_cases c38 : x372002_18 < x372002_2
           ·rw [if_pos c38] at H
            have c38b0 : decide (x372002_18 < x372002_2) = true := decide_eq_true c38
            clear c38
            (first | rw [c38b0] | (simp only [i64_w, i32_w]; rw [c38b0]) | skip)
            have H' := Aside0.mk H
            clear H
            have hcz39_0 : wc.cell? ⟨gb371, 0, none⟩ = some (u372000) := (blk_cell BK371.out 0).trans rfl
            have hcz39_1 : wc.cell? ⟨gb371, 1, none⟩ = some (errW x372001_18) := (blk_cell BK371.out 1).trans rfl
            have hcz39_2 : wc.cell? ⟨gb371, 2, none⟩ = some (.int .i64 x372002_18) := (blk_cell BK371.out 2).trans rfl
            have hcz39_3 : wc.cell? ⟨gb371, 3, none⟩ = some (.bool x372003_18) := (blk_cell BK371.out 3).trans rfl
            have hfz39_0 := blk_frozen BK371.out 0
            have hfz39_1 := blk_frozen BK371.out 1
            have hfz39_2 := blk_frozen BK371.out 2
            have hfz39_3 := blk_frozen BK371.out 3
            go_wp2
            go_meet
            case rel => exact ⟨_, (true), (by first | rfl | (simp; done) | (simp [*]; done)), H', ⟨by have := HJ3.out; have := HK2.out; have := HJ18.out; first | omega | exact Nat.le_refl _⟩, ⟨by (with_reducible repeat (first | apply Kd.R_alloc | apply Kd.R_drewN | apply Kd.R_drew)); exact HO_6.out⟩, ⟨by (with_reducible repeat (first | apply Kd.V_alloc | apply Kd.V_drewN | apply Kd.V_drew)); exact HO_372000.out⟩, ⟨by (with_reducible repeat (first | refine blk_drewN ?_ _ | refine blk_drew ?_ | refine blk_alloc ?_ _)); exact BK371.out⟩, ⟨by repeat (first | (with_reducible first | exact HB.out | apply below_alloc | apply pw_below_drewN | apply below_drew1 | refine below_set ?_ GE371.out) | exact HB.out)⟩⟩
           ·rw [if_neg c38] at H
            have c38b0 : decide (x372002_18 < x372002_2) = false := decide_eq_false c38
            clear c38
            (first | rw [c38b0] | (simp only [i64_w, i32_w]; rw [c38b0]) | skip)
            by_cases c40 : x372003_2 = true
            ·subst c40
             have H1 : (if x12_18 = true then (gaiterlaw17_CursorForth.j3 kj18 l1 t361 t362 x8_2 x372002_2 true x11_18 x12_18 true x372000_18 x372001_18 x372002_18 x372003_18) else (if (x12_18 == x372003_18) = true then (gaiterlaw17_CursorForth.j3 kj18 l1 t361 t362 x8_2 x372002_2 true x11_18 x12_18 true x372000_18 x372001_18 x372002_18 x372003_18) else (gaiterlaw17_CursorForth.j3 kj18 l1 t361 t362 x8_2 x372002_2 true x11_18 x12_18 (decide (x372002_18 ≥ (t362.length : Int))) x372000_18 x372001_18 x372002_18 x372003_18))) = some r := by rw [if_pos rfl] at H; exact H
             clear H
             have H := H1
             clear H1
             by_cases c41 : x12_18 = true
             ·subst c41
              have H1 : (gaiterlaw17_CursorForth.j3 kj18 l1 t361 t362 x8_2 x372002_2 true x11_18 true true x372000_18 x372001_18 x372002_18 x372003_18) = some r := by rw [if_pos rfl] at H; exact H
              clear H
              have H := H1
              clear H1
              have H' := Aside0.mk H
              clear H
              have hcz42_0 : wc.cell? ⟨gb371, 0, none⟩ = some (u372000) := (blk_cell BK371.out 0).trans rfl
              have hcz42_1 : wc.cell? ⟨gb371, 1, none⟩ = some (errW x372001_18) := (blk_cell BK371.out 1).trans rfl
              have hcz42_2 : wc.cell? ⟨gb371, 2, none⟩ = some (.int .i64 x372002_18) := (blk_cell BK371.out 2).trans rfl
              have hcz42_3 : wc.cell? ⟨gb371, 3, none⟩ = some (.bool x372003_18) := (blk_cell BK371.out 3).trans rfl
              have hfz42_0 := blk_frozen BK371.out 0
              have hfz42_1 := blk_frozen BK371.out 1
              have hfz42_2 := blk_frozen BK371.out 2
              have hfz42_3 := blk_frozen BK371.out 3
              go_wp2
              go_meet
              case rel => exact ⟨_, (true), (by first | rfl | (simp; done) | (simp [*]; done)), H', ⟨by have := HJ3.out; have := HK2.out; have := HJ18.out; first | omega | exact Nat.le_refl _⟩, ⟨by (with_reducible repeat (first | apply Kd.R_alloc | apply Kd.R_drewN | apply Kd.R_drew)); exact HO_6.out⟩, ⟨by (with_reducible repeat (first | apply Kd.V_alloc | apply Kd.V_drewN | apply Kd.V_drew)); exact HO_372000.out⟩, ⟨by (with_reducible repeat (first | refine blk_drewN ?_ _ | refine blk_drew ?_ | refine blk_alloc ?_ _)); exact BK371.out⟩, ⟨by repeat (first | (with_reducible first | exact HB.out | apply below_alloc | apply pw_below_drewN | apply below_drew1 | refine below_set ?_ GE371.out) | exact HB.out)⟩⟩
             ·replace c41 := Bool.eq_false_iff.mpr c41
              subst c41
              have H1 : (if (false == x372003_18) = true then (gaiterlaw17_CursorForth.j3 kj18 l1 t361 t362 x8_2 x372002_2 true x11_18 false true x372000_18 x372001_18 x372002_18 x372003_18) else (gaiterlaw17_CursorForth.j3 kj18 l1 t361 t362 x8_2 x372002_2 true x11_18 false (decide (x372002_18 ≥ (t362.length : Int))) x372000_18 x372001_18 x372002_18 x372003_18)) = some r := by rw [if_neg (show ¬ (false = true) by decide)] at H; exact H
              clear H
              have H := H1
              clear H1
              by_cases c43 : (false == x372003_18) = true
              ·rw [if_pos c43] at H
               have c43b0 : (false == x372003_18) = true := c43
               (try (have c43b1 : decide (false = x372003_18) = true := by simpa using c43))
               (try (have c43b2 : (false == x372003_18) = true := by simpa using c43))
               clear c43
               have H' := Aside0.mk H
               clear H
               have hcz44_0 : wc.cell? ⟨gb371, 0, none⟩ = some (u372000) := (blk_cell BK371.out 0).trans rfl
               have hcz44_1 : wc.cell? ⟨gb371, 1, none⟩ = some (errW x372001_18) := (blk_cell BK371.out 1).trans rfl
               have hcz44_2 : wc.cell? ⟨gb371, 2, none⟩ = some (.int .i64 x372002_18) := (blk_cell BK371.out 2).trans rfl
               have hcz44_3 : wc.cell? ⟨gb371, 3, none⟩ = some (.bool x372003_18) := (blk_cell BK371.out 3).trans rfl
               have hfz44_0 := blk_frozen BK371.out 0
               have hfz44_1 := blk_frozen BK371.out 1
               have hfz44_2 := blk_frozen BK371.out 2
               have hfz44_3 := blk_frozen BK371.out 3
               go_wp2
               go_meet
               case rel => exact ⟨_, (true), (by first | rfl | (simp; done) | (simp [*]; done)), H', ⟨by have := HJ3.out; have := HK2.out; have := HJ18.out; first | omega | exact Nat.le_refl _⟩, ⟨by (with_reducible repeat (first | apply Kd.R_alloc | apply Kd.R_drewN | apply Kd.R_drew)); exact HO_6.out⟩, ⟨by (with_reducible repeat (first | apply Kd.V_alloc | apply Kd.V_drewN | apply Kd.V_drew)); exact HO_372000.out⟩, ⟨by (with_reducible repeat (first | refine blk_drewN ?_ _ | refine blk_drew ?_ | refine blk_alloc ?_ _)); exact BK371.out⟩, ⟨by repeat (first | (with_reducible first | exact HB.out | apply below_alloc | apply pw_below_drewN | apply below_drew1 | refine below_set ?_ GE371.out) | exact HB.out)⟩⟩
              ·rw [if_neg c43] at H
               have c43b0 : (false == x372003_18) = false := by simpa using c43
               (try (have c43b1 : decide (false = x372003_18) = false := by simpa using c43))
               (try (have c43b2 : (false == x372003_18) = false := by simpa using c43))
               (try (have c43b3 : ¬ (false = x372003_18) := by simpa using c43))
               clear c43
               have H' := Aside0.mk H
               clear H
               have hcz45_0 : wc.cell? ⟨gb371, 0, none⟩ = some (u372000) := (blk_cell BK371.out 0).trans rfl
               have hcz45_1 : wc.cell? ⟨gb371, 1, none⟩ = some (errW x372001_18) := (blk_cell BK371.out 1).trans rfl
               have hcz45_2 : wc.cell? ⟨gb371, 2, none⟩ = some (.int .i64 x372002_18) := (blk_cell BK371.out 2).trans rfl
               have hcz45_3 : wc.cell? ⟨gb371, 3, none⟩ = some (.bool x372003_18) := (blk_cell BK371.out 3).trans rfl
               have hfz45_0 := blk_frozen BK371.out 0
               have hfz45_1 := blk_frozen BK371.out 1
               have hfz45_2 := blk_frozen BK371.out 2
               have hfz45_3 := blk_frozen BK371.out 3
               go_wp2
               go_meet
               case rel => exact ⟨_, (decide (x372002_18 ≥ (t362.length : Int))), (by first | rfl | (simp; done) | (simp [*]; done)), H', ⟨by have := HJ3.out; have := HK2.out; have := HJ18.out; first | omega | exact Nat.le_refl _⟩, ⟨by (with_reducible repeat (first | apply Kd.R_alloc | apply Kd.R_drewN | apply Kd.R_drew)); exact HO_6.out⟩, ⟨by (with_reducible repeat (first | apply Kd.V_alloc | apply Kd.V_drewN | apply Kd.V_drew)); exact HO_372000.out⟩, ⟨by (with_reducible repeat (first | refine blk_drewN ?_ _ | refine blk_drew ?_ | refine blk_alloc ?_ _)); exact BK371.out⟩, ⟨by repeat (first | (with_reducible first | exact HB.out | apply below_alloc | apply pw_below_drewN | apply below_drew1 | refine below_set ?_ GE371.out) | exact HB.out)⟩⟩
            ·replace c40 := Bool.eq_false_iff.mpr c40
             subst c40
             have H1 : (if (x12_18 == x372003_18) = true then (gaiterlaw17_CursorForth.j3 kj18 l1 t361 t362 x8_2 x372002_2 false x11_18 x12_18 true x372000_18 x372001_18 x372002_18 x372003_18) else (gaiterlaw17_CursorForth.j3 kj18 l1 t361 t362 x8_2 x372002_2 false x11_18 x12_18 (decide (x372002_18 ≥ (t362.length : Int))) x372000_18 x372001_18 x372002_18 x372003_18)) = some r := by rw [if_neg (show ¬ (false = true) by decide)] at H; exact H
             clear H
             have H := H1
             clear H1
             by_cases c46 : (x12_18 == x372003_18) = true
             ·rw [if_pos c46] at H
              have c46b0 : (x12_18 == x372003_18) = true := c46
              (try (have c46b1 : decide (x12_18 = x372003_18) = true := by simpa using c46))
              (try (have c46b2 : (x12_18 == x372003_18) = true := by simpa using c46))
              clear c46
              have H' := Aside0.mk H
              clear H
              have hcz47_0 : wc.cell? ⟨gb371, 0, none⟩ = some (u372000) := (blk_cell BK371.out 0).trans rfl
              have hcz47_1 : wc.cell? ⟨gb371, 1, none⟩ = some (errW x372001_18) := (blk_cell BK371.out 1).trans rfl
              have hcz47_2 : wc.cell? ⟨gb371, 2, none⟩ = some (.int .i64 x372002_18) := (blk_cell BK371.out 2).trans rfl
              have hcz47_3 : wc.cell? ⟨gb371, 3, none⟩ = some (.bool x372003_18) := (blk_cell BK371.out 3).trans rfl
              have hfz47_0 := blk_frozen BK371.out 0
              have hfz47_1 := blk_frozen BK371.out 1
              have hfz47_2 := blk_frozen BK371.out 2
              have hfz47_3 := blk_frozen BK371.out 3
              go_wp2
              go_meet
              case rel => exact ⟨_, (true), (by first | rfl | (simp; done) | (simp [*]; done)), H', ⟨by have := HJ3.out; have := HK2.out; have := HJ18.out; first | omega | exact Nat.le_refl _⟩, ⟨by (with_reducible repeat (first | apply Kd.R_alloc | apply Kd.R_drewN | apply Kd.R_drew)); exact HO_6.out⟩, ⟨by (with_reducible repeat (first | apply Kd.V_alloc | apply Kd.V_drewN | apply Kd.V_drew)); exact HO_372000.out⟩, ⟨by (with_reducible repeat (first | refine blk_drewN ?_ _ | refine blk_drew ?_ | refine blk_alloc ?_ _)); exact BK371.out⟩, ⟨by repeat (first | (with_reducible first | exact HB.out | apply below_alloc | apply pw_below_drewN | apply below_drew1 | refine below_set ?_ GE371.out) | exact HB.out)⟩⟩
             ·rw [if_neg c46] at H
              have c46b0 : (x12_18 == x372003_18) = false := by simpa using c46
              (try (have c46b1 : decide (x12_18 = x372003_18) = false := by simpa using c46))
              (try (have c46b2 : (x12_18 == x372003_18) = false := by simpa using c46))
              (try (have c46b3 : ¬ (x12_18 = x372003_18) := by simpa using c46))
              clear c46
              have H' := Aside0.mk H
              clear H
              have hcz48_0 : wc.cell? ⟨gb371, 0, none⟩ = some (u372000) := (blk_cell BK371.out 0).trans rfl
              have hcz48_1 : wc.cell? ⟨gb371, 1, none⟩ = some (errW x372001_18) := (blk_cell BK371.out 1).trans rfl
              have hcz48_2 : wc.cell? ⟨gb371, 2, none⟩ = some (.int .i64 x372002_18) := (blk_cell BK371.out 2).trans rfl
              have hcz48_3 : wc.cell? ⟨gb371, 3, none⟩ = some (.bool x372003_18) := (blk_cell BK371.out 3).trans rfl
              have hfz48_0 := blk_frozen BK371.out 0
              have hfz48_1 := blk_frozen BK371.out 1
              have hfz48_2 := blk_frozen BK371.out 2
              have hfz48_3 := blk_frozen BK371.out 3
              go_wp2
              go_meet
              case rel => exact ⟨_, (decide (x372002_18 ≥ (t362.length : Int))), (by first | rfl | (simp; done) | (simp [*]; done)), H', ⟨by have := HJ3.out; have := HK2.out; have := HJ18.out; first | omega | exact Nat.le_refl _⟩, ⟨by (with_reducible repeat (first | apply Kd.R_alloc | apply Kd.R_drewN | apply Kd.R_drew)); exact HO_6.out⟩, ⟨by (with_reducible repeat (first | apply Kd.V_alloc | apply Kd.V_drewN | apply Kd.V_drew)); exact HO_372000.out⟩, ⟨by (with_reducible repeat (first | refine blk_drewN ?_ _ | refine blk_drew ?_ | refine blk_alloc ?_ _)); exact BK371.out⟩, ⟨by repeat (first | (with_reducible first | exact HB.out | apply below_alloc | apply pw_below_drewN | apply below_drew1 | refine below_set ?_ GE371.out) | exact HB.out)⟩⟩
          case rest =>
           clear HC37
           try clear c1
           try clear c2
           try clear p2
           try clear c3
           try clear p3
           try clear q3
           try clear hx3
           try clear c4
           try clear c6
           try clear c6b0
           try clear c6b1
           try clear c7
           try clear c10
           try clear c16
           try clear c16b0
           try clear c17
           try clear c17b0
           try clear c21
           try clear c21b0
           try clear c21b1
           try clear c29
           try clear c30
           try clear c31
           try clear c34
           try clear p37
           try clear q37
           try clear hx37
           try clear c38
           try clear c38b0
           try clear c40
           try clear c41
           try clear c43
           try clear c43b0
           try clear c43b1
           try clear c43b2
           try clear c46
           try clear c46b0
           try clear c46b1
           try clear c46b2
           try clear hcz15_0
           try clear hcz15_1
           try clear hcz15_2
           try clear hcz15_3
           try clear hcz20_0
           try clear hcz20_1
           try clear hcz20_2
           try clear hcz20_3
           try clear hcz32_0
           try clear hcz32_1
           try clear hcz32_2
           try clear hcz32_3
           try clear hcz36_0
           try clear hcz36_1
           try clear hcz36_2
           try clear hcz36_3
           try clear hcz39_0
           try clear hcz39_1
           try clear hcz39_2
           try clear hcz39_3
           try clear hcz42_0
           try clear hcz42_1
           try clear hcz42_2
           try clear hcz42_3
           try clear hcz44_0
           try clear hcz44_1
           try clear hcz44_2
           try clear hcz44_3
           try clear hcz45_0
           try clear hcz45_1
           try clear hcz45_2
           try clear hcz45_3
           try clear hcz47_0
           try clear hcz47_1
           try clear hcz47_2
           try clear hcz47_3
           try clear hcz48_0
           try clear hcz48_1
           try clear hcz48_2
           try clear hcz48_3
           try clear hfz15_0
           try clear hfz15_1
           try clear hfz15_2
           try clear hfz15_3
           try clear hfz20_0
           try clear hfz20_1
           try clear hfz20_2
           try clear hfz20_3
           try clear hfz32_0
           try clear hfz32_1
           try clear hfz32_2
           try clear hfz32_3
           try clear hfz36_0
           try clear hfz36_1
           try clear hfz36_2
           try clear hfz36_3
           try clear hfz39_0
           try clear hfz39_1
           try clear hfz39_2
           try clear hfz39_3
           try clear hfz42_0
           try clear hfz42_1
           try clear hfz42_2
           try clear hfz42_3
           try clear hfz44_0
           try clear hfz44_1
           try clear hfz44_2
           try clear hfz44_3
           try clear hfz45_0
           try clear hfz45_1
           try clear hfz45_2
           try clear hfz45_3
           try clear hfz47_0
           try clear hfz47_1
           try clear hfz47_2
           try clear hfz47_3
           try clear hfz48_0
           try clear hfz48_1
           try clear hfz48_2
           try clear hfz48_3
           try clear hx372_0
           try clear hx372_1
           try clear hx374_0
           try clear hx374_1
           try clear p2
           try clear p3
           try clear p372
           try clear p374
           try clear q3
           try clear q372
           try clear q374
           (try clear HO_6)
           (try clear HO_372000)
           (try clear BK371)
           (try clear HB)
           obtain ⟨kq, x84_36, rfl, HA, HJ36, HO_6, HO_372000, BK371, HB⟩ := hcut
           cases kq with
           | zero => exact absurd HA.out (by simp [gaiterlaw17_CursorForth.j3])
           | succ kj36 =>
            have H := HA.out
            clear HA
            simp only [gaiterlaw17_CursorForth.j3] at H
            by_cases c49 : x84_36 = true
            ·subst c49
             have H1 : (some false) = some r := by rw [if_pos rfl] at H; exact H
             clear H
             have H := H1
             clear H1
             obtain rfl := Option.some.inj H
             go_wp2
             go_ret
             exact ⟨by first | rfl | (simp [errW_none, errW_some] <;> rfl) | (simp [*, errW_none, errW_some] <;> rfl), by repeat (first | (with_reducible first | exact HB.out | apply below_alloc | apply pw_below_drewN | apply below_drew1 | refine below_set ?_ GE371.out) | exact HB.out)⟩
            ·replace c49 := Bool.eq_false_iff.mpr c49
             subst c49
             have H1 : (gaiterlaw17_CursorForth.l1 kj36 l1 t361 t362 x8_2 x372002_2 x372003_2 x11_18 x12_18 (mx x372002_2 0) x372000_18 x372001_18 x372002_18 x372003_18) = some r := by rw [if_neg (show ¬ (false = true) by decide)] at H; exact H
             clear H
             have H := H1
             clear H1
             obtain ⟨ji50, hji50⟩ : ∃ j_ : Int, (mx x372002_2 0) = j_ := ⟨_, rfl⟩
             replace H : (gaiterlaw17_CursorForth.l1 kj36 l1 t361 t362 x8_2 x372002_2 x372003_2 x11_18 x12_18 ji50 x372000_18 x372001_18 x372002_18 x372003_18) = some r := by first | (rw [hji50] at H; exact H) | (simp only [hji50] at H ⊢; exact H)
             have hji50_ : (if x372002_2 < 0 then 0 else x372002_2) = ji50 := hji50
             (try (have hji50n := hji50_; simp only [Int.ofNat_lt] at hji50n))
             have H' := Aside0.mk H
             clear H
             go_wp2
             go_loopg [13] kj36 (fun kq v13 w' => ∃ (x13_5 : Int), v13 = .int .i64 x13_5 ∧ Aside0 (gaiterlaw17_CursorForth.l1 kq l1 t361 t362 x8_2 x372002_2 x372003_2 x11_18 x12_18 x13_5 x372000_18 x372001_18 x372002_18 x372003_18 = some r) ∧ Aside0 (kq ≤ kj36) ∧ Aside0 (Kd.R k68 68 w' w.heap.size (fun _ => True) (.slice Ao11 t362.length co11) t362) ∧ Aside0 (Kd.V k68 68 w' w.heap.size (fun k_ => k_ ≠ gb371) u372000 x372000_18) ∧ Aside0 (w'.heap[gb371]? = some (.cells #[u372000, errW x372001_18, .int .i64 x372002_18, .bool x372003_18] 49 (0, 0))) ∧ Aside0 (Below w.heap.size w w'))
             case atStart => exact ⟨(ji50), (by first | rfl | (simp; done) | (simp only [← hji50] <;> (first | rfl | simp)) | (simp [*]; done)), H', ⟨Nat.le_refl _⟩, ⟨by (with_reducible repeat (first | apply Kd.R_alloc | apply Kd.R_drewN | apply Kd.R_drew)); exact HO_6.out⟩, ⟨by (with_reducible repeat (first | apply Kd.V_alloc | apply Kd.V_drewN | apply Kd.V_drew)); exact HO_372000.out⟩, ⟨by (with_reducible repeat (first | refine blk_drewN ?_ _ | refine blk_drew ?_ | refine blk_alloc ?_ _)); exact BK371.out⟩, ⟨by repeat (first | (with_reducible first | exact HB.out | apply below_alloc | apply pw_below_drewN | apply below_drew1 | refine below_set ?_ GE371.out) | exact HB.out)⟩⟩
             case round =>
              clear H'
              try clear c1
              try clear c2
              try clear p2
              try clear c3
              try clear p3
              try clear q3
              try clear hx3
              try clear c4
              try clear c6
              try clear c6b0
              try clear c6b1
              try clear c7
              try clear c10
              try clear c16
              try clear c16b0
              try clear c17
              try clear c17b0
              try clear c21
              try clear c21b0
              try clear c21b1
              try clear c29
              try clear c30
              try clear c31
              try clear c34
              try clear p37
              try clear q37
              try clear hx37
              try clear c38
              try clear c38b0
              try clear c40
              try clear c41
              try clear c43
              try clear c43b0
              try clear c43b1
              try clear c43b2
              try clear c46
              try clear c46b0
              try clear c46b1
              try clear c46b2
              try clear c49
              try clear hcz15_0
              try clear hcz15_1
              try clear hcz15_2
              try clear hcz15_3
              try clear hcz20_0
              try clear hcz20_1
              try clear hcz20_2
              try clear hcz20_3
              try clear hcz32_0
              try clear hcz32_1
              try clear hcz32_2
              try clear hcz32_3
              try clear hcz36_0
              try clear hcz36_1
              try clear hcz36_2
              try clear hcz36_3
              try clear hcz39_0
              try clear hcz39_1
              try clear hcz39_2
              try clear hcz39_3
              try clear hcz42_0
              try clear hcz42_1
              try clear hcz42_2
              try clear hcz42_3
              try clear hcz44_0
              try clear hcz44_1
              try clear hcz44_2
              try clear hcz44_3
              try clear hcz45_0
              try clear hcz45_1
              try clear hcz45_2
              try clear hcz45_3
              try clear hcz47_0
              try clear hcz47_1
              try clear hcz47_2
              try clear hcz47_3
              try clear hcz48_0
              try clear hcz48_1
              try clear hcz48_2
              try clear hcz48_3
              try clear hfz15_0
              try clear hfz15_1
              try clear hfz15_2
              try clear hfz15_3
              try clear hfz20_0
              try clear hfz20_1
              try clear hfz20_2
              try clear hfz20_3
              try clear hfz32_0
              try clear hfz32_1
              try clear hfz32_2
              try clear hfz32_3
              try clear hfz36_0
              try clear hfz36_1
              try clear hfz36_2
              try clear hfz36_3
              try clear hfz39_0
              try clear hfz39_1
              try clear hfz39_2
              try clear hfz39_3
              try clear hfz42_0
              try clear hfz42_1
              try clear hfz42_2
              try clear hfz42_3
              try clear hfz44_0
              try clear hfz44_1
              try clear hfz44_2
              try clear hfz44_3
              try clear hfz45_0
              try clear hfz45_1
              try clear hfz45_2
              try clear hfz45_3
              try clear hfz47_0
              try clear hfz47_1
              try clear hfz47_2
              try clear hfz47_3
              try clear hfz48_0
              try clear hfz48_1
              try clear hfz48_2
              try clear hfz48_3
              try clear hx372_0
              try clear hx372_1
              try clear hx374_0
              try clear hx374_1
              try clear p2
              try clear p3
              try clear p37
              try clear p372
              try clear p374
              try clear q3
              try clear q37
              try clear q372
              try clear q374
              obtain ⟨x13_5, rfl, HA, HK5, HO_6, HO_372000, BK371, HB⟩ := hrel
              cases gk with
              | zero => exact absurd HA.out (by simp [gaiterlaw17_CursorForth.l1])
              | succ k5 =>
               have H := HA.out
               clear HA
               simp only [gaiterlaw17_CursorForth.l1] at H
               have HC51 := Aside0.mk H
               clear H
               go_upto_region 19 with (fail)
               go_cut [97] (fun v97 wc => ∃ (kq : Nat) (x97_50 : Bool), v97 = .bool x97_50 ∧ Aside0 (gaiterlaw17_CursorForth.j5 kq l1 t361 t362 x8_2 x372002_2 x372003_2 x11_18 x12_18 x13_5 x97_50 x372000_18 x372001_18 x372002_18 x372003_18 = some r) ∧ Aside0 (kq ≤ k5) ∧ Aside0 (Kd.R k68 68 wc w.heap.size (fun _ => True) (.slice Ao11 t362.length co11) t362) ∧ Aside0 (Kd.V k68 68 wc w.heap.size (fun k_ => k_ ≠ gb371) u372000 x372000_18) ∧ Aside0 (wc.heap[gb371]? = some (.cells #[u372000, errW x372001_18, .int .i64 x372002_18, .bool x372003_18] 49 (0, 0))) ∧ Aside0 (Below w.heap.size w wc))
               case first =>
                have H := HC51.out
                clear HC51
                by_cases c52 : x13_5 < (t362.length : Int)
                ·rw [if_pos c52] at H
                 have c52b0 : decide (x13_5 < (t362.length : Int)) = true := decide_eq_true c52
                 clear c52
                 (first | rw [c52b0] | (simp only [i64_w, i32_w]; rw [c52b0]) | skip)
                 by_cases c53 : x11_18 = true
                 ·subst c53
                  have H1 : (gaiterlaw17_CursorForth.j5 k5 l1 t361 t362 x8_2 x372002_2 x372003_2 true x12_18 x13_5 (!x372003_2) x372000_18 x372001_18 x372002_18 x372003_18) = some r := by rw [if_pos rfl] at H; exact H
                  clear H
                  have H := H1
                  clear H1
                  have H' := Aside0.mk H
                  clear H
                  go_wp2
                  go_meet
                  case rel => exact ⟨_, (!x372003_2), (by first | rfl | (simp; done) | (simp [*]; done)), H', ⟨by have := HJ3.out; have := HK2.out; have := HJ18.out; have := HJ36.out; have := HK5.out; first | omega | exact Nat.le_refl _⟩, ⟨by (with_reducible repeat (first | apply Kd.R_alloc | apply Kd.R_drewN | apply Kd.R_drew)); exact HO_6.out⟩, ⟨by (with_reducible repeat (first | apply Kd.V_alloc | apply Kd.V_drewN | apply Kd.V_drew)); exact HO_372000.out⟩, ⟨by (with_reducible repeat (first | refine blk_drewN ?_ _ | refine blk_drew ?_ | refine blk_alloc ?_ _)); exact BK371.out⟩, ⟨by repeat (first | (with_reducible first | exact HB.out | apply below_alloc | apply pw_below_drewN | apply below_drew1 | refine below_set ?_ GE371.out) | exact HB.out)⟩⟩
                 ·replace c53 := Bool.eq_false_iff.mpr c53
                  subst c53
                  have H1 : (gaiterlaw17_CursorForth.j5 k5 l1 t361 t362 x8_2 x372002_2 x372003_2 false x12_18 x13_5 false x372000_18 x372001_18 x372002_18 x372003_18) = some r := by rw [if_neg (show ¬ (false = true) by decide)] at H; exact H
                  clear H
                  have H := H1
                  clear H1
                  have H' := Aside0.mk H
                  clear H
                  go_wp2
                  go_meet
                  case rel => exact ⟨_, (false), (by first | rfl | (simp; done) | (simp [*]; done)), H', ⟨by have := HJ3.out; have := HK2.out; have := HJ18.out; have := HJ36.out; have := HK5.out; first | omega | exact Nat.le_refl _⟩, ⟨by (with_reducible repeat (first | apply Kd.R_alloc | apply Kd.R_drewN | apply Kd.R_drew)); exact HO_6.out⟩, ⟨by (with_reducible repeat (first | apply Kd.V_alloc | apply Kd.V_drewN | apply Kd.V_drew)); exact HO_372000.out⟩, ⟨by (with_reducible repeat (first | refine blk_drewN ?_ _ | refine blk_drew ?_ | refine blk_alloc ?_ _)); exact BK371.out⟩, ⟨by repeat (first | (with_reducible first | exact HB.out | apply below_alloc | apply pw_below_drewN | apply below_drew1 | refine below_set ?_ GE371.out) | exact HB.out)⟩⟩
                ·rw [if_neg c52] at H
                 have c52b0 : decide (x13_5 < (t362.length : Int)) = false := decide_eq_false c52
                 clear c52
                 (first | rw [c52b0] | (simp only [i64_w, i32_w]; rw [c52b0]) | skip)
                 have H' := Aside0.mk H
                 clear H
                 go_wp2
                 go_meet
                 case rel => exact ⟨_, (false), (by first | rfl | (simp; done) | (simp [*]; done)), H', ⟨by have := HJ3.out; have := HK2.out; have := HJ18.out; have := HJ36.out; have := HK5.out; first | omega | exact Nat.le_refl _⟩, ⟨by (with_reducible repeat (first | apply Kd.R_alloc | apply Kd.R_drewN | apply Kd.R_drew)); exact HO_6.out⟩, ⟨by (with_reducible repeat (first | apply Kd.V_alloc | apply Kd.V_drewN | apply Kd.V_drew)); exact HO_372000.out⟩, ⟨by (with_reducible repeat (first | refine blk_drewN ?_ _ | refine blk_drew ?_ | refine blk_alloc ?_ _)); exact BK371.out⟩, ⟨by repeat (first | (with_reducible first | exact HB.out | apply below_alloc | apply pw_below_drewN | apply below_drew1 | refine below_set ?_ GE371.out) | exact HB.out)⟩⟩
               case rest =>
                clear HC51
                try clear c1
                try clear c2
                try clear p2
                try clear c3
                try clear p3
                try clear q3
                try clear hx3
                try clear c4
                try clear c5
                try clear c6
                try clear c6b0
                try clear c6b1
                try clear c7
                try clear c10
                try clear c16
                try clear c16b0
                try clear c17
                try clear c17b0
                try clear c21
                try clear c21b0
                try clear c21b1
                try clear c29
                try clear c30
                try clear c31
                try clear c34
                try clear p37
                try clear q37
                try clear hx37
                try clear c38
                try clear c38b0
                try clear c40
                try clear c41
                try clear c43
                try clear c43b0
                try clear c43b1
                try clear c43b2
                try clear c46
                try clear c46b0
                try clear c46b1
                try clear c46b2
                try clear c49
                try clear c52
                try clear c52b0
                try clear c53
                try clear hcz15_0
                try clear hcz15_1
                try clear hcz15_2
                try clear hcz15_3
                try clear hcz20_0
                try clear hcz20_1
                try clear hcz20_2
                try clear hcz20_3
                try clear hcz32_0
                try clear hcz32_1
                try clear hcz32_2
                try clear hcz32_3
                try clear hcz36_0
                try clear hcz36_1
                try clear hcz36_2
                try clear hcz36_3
                try clear hcz39_0
                try clear hcz39_1
                try clear hcz39_2
                try clear hcz39_3
                try clear hcz42_0
                try clear hcz42_1
                try clear hcz42_2
                try clear hcz42_3
                try clear hcz44_0
                try clear hcz44_1
                try clear hcz44_2
                try clear hcz44_3
                try clear hcz45_0
                try clear hcz45_1
                try clear hcz45_2
                try clear hcz45_3
                try clear hcz47_0
                try clear hcz47_1
                try clear hcz47_2
                try clear hcz47_3
                try clear hcz48_0
                try clear hcz48_1
                try clear hcz48_2
                try clear hcz48_3
                try clear hfz15_0
                try clear hfz15_1
                try clear hfz15_2
                try clear hfz15_3
                try clear hfz20_0
                try clear hfz20_1
                try clear hfz20_2
                try clear hfz20_3
                try clear hfz32_0
                try clear hfz32_1
                try clear hfz32_2
                try clear hfz32_3
                try clear hfz36_0
                try clear hfz36_1
                try clear hfz36_2
                try clear hfz36_3
                try clear hfz39_0
                try clear hfz39_1
                try clear hfz39_2
                try clear hfz39_3
                try clear hfz42_0
                try clear hfz42_1
                try clear hfz42_2
                try clear hfz42_3
                try clear hfz44_0
                try clear hfz44_1
                try clear hfz44_2
                try clear hfz44_3
                try clear hfz45_0
                try clear hfz45_1
                try clear hfz45_2
                try clear hfz45_3
                try clear hfz47_0
                try clear hfz47_1
                try clear hfz47_2
                try clear hfz47_3
                try clear hfz48_0
                try clear hfz48_1
                try clear hfz48_2
                try clear hfz48_3
                try clear hx372_0
                try clear hx372_1
                try clear hx374_0
                try clear hx374_1
                try clear p2
                try clear p3
                try clear p37
                try clear p372
                try clear p374
                try clear q3
                try clear q37
                try clear q372
                try clear q374
                (try clear HO_6)
                (try clear HO_372000)
                (try clear BK371)
                (try clear HB)
                obtain ⟨kq, x97_50, rfl, HA, HJ50, HO_6, HO_372000, BK371, HB⟩ := hcut
                cases kq with
                | zero => exact absurd HA.out (by simp [gaiterlaw17_CursorForth.j5])
                | succ kj50 =>
                 have H := HA.out
                 clear HA
                 simp only [gaiterlaw17_CursorForth.j5] at H
                 by_cases c54 : x97_50 = true
                 ·subst c54
                  have H1 : (if x12_18 = true then (if 0 ≤ x13_5 then (if x13_5 < (t362.length : Int) then (if 0 ≤ x8_2 then (if x8_2 < (l1.length : Int) then (if ((decide (((rd_T68 t362 x13_5).f0) ≥ ((rd_T54 l1 x8_2).f1))) != (decide (x13_5 ≥ x372002_18))) = true then (some false) else (gaiterlaw17_CursorForth.l1 kj50 l1 t361 t362 x8_2 x372002_2 x372003_2 x11_18 x12_18 (wrap64 (x13_5 + 1)) x372000_18 x372001_18 x372002_18 x372003_18)) else (none)) else (none)) else (none)) else (none)) else (if 0 ≤ x13_5 then (if x13_5 < (t362.length : Int) then (if 0 ≤ x8_2 then (if x8_2 < (l1.length : Int) then (if ((decide (((rd_T68 t362 x13_5).f0) ≥ ((rd_T54 l1 x8_2).f1))) != false) = true then (some false) else (gaiterlaw17_CursorForth.l1 kj50 l1 t361 t362 x8_2 x372002_2 x372003_2 x11_18 x12_18 (wrap64 (x13_5 + 1)) x372000_18 x372001_18 x372002_18 x372003_18)) else (none)) else (none)) else (none)) else (none))) = some r := by rw [if_pos rfl] at H; exact H
                  clear H
                  have H := H1
                  clear H1
                  by_cases c55 : x12_18 = true
                  ·subst c55
                   have H1 : (if 0 ≤ x13_5 then (if x13_5 < (t362.length : Int) then (if 0 ≤ x8_2 then (if x8_2 < (l1.length : Int) then (if ((decide (((rd_T68 t362 x13_5).f0) ≥ ((rd_T54 l1 x8_2).f1))) != (decide (x13_5 ≥ x372002_18))) = true then (some false) else (gaiterlaw17_CursorForth.l1 kj50 l1 t361 t362 x8_2 x372002_2 x372003_2 x11_18 true (wrap64 (x13_5 + 1)) x372000_18 x372001_18 x372002_18 x372003_18)) else (none)) else (none)) else (none)) else (none)) = some r := by rw [if_pos rfl] at H; exact H
                   clear H
                   have H := H1
                   clear H1
                   by_cases c56 : 0 ≤ x13_5
                   ·rw [if_pos c56] at H
                    have c56b0 : decide (0 ≤ x13_5) = true := decide_eq_true c56
                    clear c56
                    by_cases c57 : x13_5 < (t362.length : Int)
                    ·rw [if_pos c57] at H
                     have c57b0 : decide (x13_5 < (t362.length : Int)) = true := decide_eq_true c57
                     clear c57
                     by_cases c58 : 0 ≤ x8_2
                     ·rw [if_pos c58] at H
                      have c58b0 : decide (0 ≤ x8_2) = true := decide_eq_true c58
                      clear c58
                      by_cases c59 : x8_2 < (l1.length : Int)
                      ·rw [if_pos c59] at H
                       have c59b0 : decide (x8_2 < (l1.length : Int)) = true := decide_eq_true c59
                       clear c59
                       by_cases c60 : ((decide (((rd_T68 t362 x13_5).f0) ≥ ((rd_T54 l1 x8_2).f1))) != (decide (x13_5 ≥ x372002_18))) = true
                       ·rw [if_pos c60] at H
                        have c60b0 : ((decide (((rd_T68 t362 x13_5).f0) ≥ ((rd_T54 l1 x8_2).f1))) != (decide (x13_5 ≥ x372002_18))) = true := c60
                        (try (have c60b1 : decide ((decide (((rd_T68 t362 x13_5).f0) ≥ ((rd_T54 l1 x8_2).f1))) = (decide (x13_5 ≥ x372002_18))) = false := by simpa using c60))
                        (try (have c60b2 : ((decide (((rd_T68 t362 x13_5).f0) ≥ ((rd_T54 l1 x8_2).f1))) == (decide (x13_5 ≥ x372002_18))) = false := by simpa using c60))
                        (try (have c60b3 : ¬ ((decide (((rd_T68 t362 x13_5).f0) ≥ ((rd_T54 l1 x8_2).f1))) = (decide (x13_5 ≥ x372002_18))) := by simpa using c60))
                        clear c60
                        obtain rfl := Option.some.inj H
                        have hcz61_0 : wc.cell? ⟨gb371, 0, none⟩ = some (u372000) := (blk_cell BK371.out 0).trans rfl
                        have hcz61_1 : wc.cell? ⟨gb371, 1, none⟩ = some (errW x372001_18) := (blk_cell BK371.out 1).trans rfl
                        have hcz61_2 : wc.cell? ⟨gb371, 2, none⟩ = some (.int .i64 x372002_18) := (blk_cell BK371.out 2).trans rfl
                        have hcz61_3 : wc.cell? ⟨gb371, 3, none⟩ = some (.bool x372003_18) := (blk_cell BK371.out 3).trans rfl
                        have hfz61_0 := blk_frozen BK371.out 0
                        have hfz61_1 := blk_frozen BK371.out 1
                        have hfz61_2 := blk_frozen BK371.out 2
                        have hfz61_3 := blk_frozen BK371.out 3
                        try go_wp2
                        have n0_ := Aside0.mk (Kd.R_drew HO_6.out)
                        have n1_ := Aside0.mk (Kd.V_drew HO_372000.out)
                        have n2_ := Aside0.mk (blk_drew BK371.out)
                        have n3_ := Aside0.mk (below_drew1 HB.out)
                        clear HO_6
                        clear HO_372000
                        clear BK371
                        clear HB
                        have HO_6 := n0_
                        have HO_372000 := n1_
                        have BK371 := n2_
                        have HB := n3_
                        clear n0_ n1_ n2_ n3_
                        have p389 : 0 ≤ (x13_5 : Int) := of_decide_eq_true (by first | (with_reducible assumption) | assumption)
                        have q389 : x13_5 < (t362.length : Int) := of_decide_eq_true (by first | (with_reducible assumption) | assumption)
                        obtain ⟨ad389, e389, hx389_0, hx389_1⟩ := at_T68 (Kd.R_reads' HO_6.out).2.2 x13_5 p389 q389
                        cases e389
                        replace p389 := eq_true p389
                        (try (have q389s := q389; simp only [List.length_drop, List.length_take] at q389s; replace q389s := eq_true q389s)); replace q389 := eq_true q389
                        have p390 : 0 ≤ (x8_2 : Int) := of_decide_eq_true (by first | (with_reducible assumption) | assumption)
                        have q390 : x8_2 < (l1.length : Int) := of_decide_eq_true (by first | (with_reducible assumption) | assumption)
                        obtain ⟨ad390, e390, hx390_0, hx390_1⟩ := at_T54 HR1.out x8_2 p390 q390
                        have hw390_1 := hx390_1
                        have hw390_0 := hx390_0
                        obtain rfl : ad372 = ad390 := (by injection e390)
                        replace hx390_0 := (HB.out.cell (World.block_lt_of_cell? w _ hx390_0)).trans hx390_0
                        replace hx390_1 := (HB.out.cell (World.block_lt_of_cell? w _ hx390_1)).trans hx390_1
                        replace p390 := eq_true p390
                        (try (have q390s := q390; simp only [List.length_drop, List.length_take] at q390s; replace q390s := eq_true q390s)); replace q390 := eq_true q390
                        refine start_ (n := 13) (S := fun w' => w'.cell? (ad389.add ((x13_5).toNat * 2)) = some (.int .i64 ((rd_T68 t362 x13_5).f0)) ∧ w'.cell? ⟨(ad389.add ((x13_5).toNat * 2)).block, (ad389.add ((x13_5).toNat * 2)).off + 1, none⟩ = some (.int .u64 ((rd_T68 t362 x13_5).f1)) ∧ w'.cell? (ad372.add ((x8_2).toNat * 2)) = some (.int .i64 ((rd_T54 l1 x8_2).f0)) ∧ w'.cell? ⟨(ad372.add ((x8_2).toNat * 2)).block, (ad372.add ((x8_2).toNat * 2)).off + 1, none⟩ = some (.int .i64 ((rd_T54 l1 x8_2).f1))) (ds := []) #[false, false, false, false, false, false, false, false, false, false, false, false, false] (by kernel_rfl) rfl rfl ⟨hx389_0, hx389_1, ((HB.out.cell (World.block_lt_of_cell? w _ hw390_0)).trans hw390_0), ((HB.out.cell (World.block_lt_of_cell? w _ hw390_1)).trans hw390_1)⟩ (fun hHeld => ?_); refine with_tabW gaiterlaw17_CursorForth.tab22 gaiterlaw17_CursorForth.bits22 (fun HT_ HW_ => ?_)
                        generalize wc.drew = w62 at HO_6 HO_372000 BK371 HB hx389_0 hx389_1 hx390_0 hx390_1 hHeld ⊢
                        refine pure_ (i := 0) (N := some 107) (v := ?_) (a' := ?_) #[true, false, false, false, false, false, false, false, false, false, false, false, false] rfl rfl (any_of HT_.out (by kernel_rfl)) (fun _ _ _ h => h) (Or.inl ⟨by rfl, ?_⟩) ?_ ?_
                        rotate_left
                        ·intro w'
                         go_simp
                         with_reducible rfl
                        rotate_left
                        ·simp only [Act.put, List.setIfInBounds_toArray, List.set_cons_zero, List.set_cons_succ, i64_w, i32_w]
                         rfl
                        refine pure_ (i := 1) (N := some 108) (v := ?_) (a' := ?_) #[true, true, false, false, false, false, false, false, false, false, false, false, false] rfl rfl (any_of HT_.out (by kernel_rfl)) (fun _ _ _ h => h) (Or.inl ⟨by rfl, ?_⟩) ?_ ?_
                        rotate_left
                        ·intro w'
                         go_simp
                         with_reducible rfl
                        rotate_left
                        ·simp only [Act.put, List.setIfInBounds_toArray, List.set_cons_zero, List.set_cons_succ, i64_w, i32_w]
                         rfl
                        refine pure_ (i := 2) (N := some 109) (v := ?_) (a' := ?_) #[true, true, true, false, false, false, false, false, false, false, false, false, false] rfl rfl (any_of HT_.out (by kernel_rfl)) (fun _ _ _ h => h) (Or.inl ⟨by rfl, ?_⟩) ?_ ?_
                        rotate_left
                        ·intro w'
                         go_simp
                         with_reducible rfl
                        rotate_left
                        ·simp only [Act.put, List.setIfInBounds_toArray, List.set_cons_zero, List.set_cons_succ, i64_w, i32_w]
                         rfl
                        refine pure_ (i := 3) (N := some 110) (v := ?_) (a' := ?_) #[true, true, true, true, false, false, false, false, false, false, false, false, false] rfl rfl (any_of HT_.out (by kernel_rfl)) (fun _ _ _ h => h) (Or.inl ⟨by rfl, ?_⟩) ?_ ?_
                        rotate_left
                        ·intro w'
                         go_simp
                         with_reducible rfl
                        rotate_left
                        ·simp only [Act.put, List.setIfInBounds_toArray, List.set_cons_zero, List.set_cons_succ, i64_w, i32_w]
                         rfl
                        refine pure_ (i := 5) (N := some 112) (v := ?_) (a' := ?_) #[true, true, true, true, false, true, false, false, false, false, false, false, false] rfl rfl (any_of HT_.out (by kernel_rfl)) (fun _ _ _ h => h) (Or.inl ⟨by rfl, ?_⟩) ?_ ?_
                        rotate_left
                        ·intro w'
                         go_simp
                         with_reducible rfl
                        rotate_left
                        ·simp only [Act.put, List.setIfInBounds_toArray, List.set_cons_zero, List.set_cons_succ, i64_w, i32_w]
                         rfl
                        refine pure_ (i := 6) (N := some 113) (v := ?_) (a' := ?_) #[true, true, true, true, false, true, true, false, false, false, false, false, false] rfl rfl (any_of HT_.out (by kernel_rfl)) (fun _ _ _ h => h) (Or.inl ⟨by rfl, ?_⟩) ?_ ?_
                        rotate_left
                        ·intro w'
                         go_simp
                         with_reducible rfl
                        rotate_left
                        ·simp only [Act.put, List.setIfInBounds_toArray, List.set_cons_zero, List.set_cons_succ, i64_w, i32_w]
                         rfl
                        refine pure_ (i := 7) (N := some 114) (v := ?_) (a' := ?_) #[true, true, true, true, false, true, true, true, false, false, false, false, false] rfl rfl (any_of HT_.out (by kernel_rfl)) (fun _ _ _ h => h) (Or.inl ⟨by rfl, ?_⟩) ?_ ?_
                        rotate_left
                        ·intro w'
                         go_simp
                         with_reducible rfl
                        rotate_left
                        ·simp only [Act.put, List.setIfInBounds_toArray, List.set_cons_zero, List.set_cons_succ, i64_w, i32_w]
                         rfl
                        refine pure_ (i := 8) (N := some 115) (v := ?_) (a' := ?_) #[true, true, true, true, false, true, true, true, true, false, false, false, false] rfl rfl (any_of HT_.out (by kernel_rfl)) (fun _ _ _ h => h) (Or.inl ⟨by rfl, ?_⟩) ?_ ?_
                        rotate_left
                        ·intro w'
                         go_simp
                         with_reducible rfl
                        rotate_left
                        ·simp only [Act.put, List.setIfInBounds_toArray, List.set_cons_zero, List.set_cons_succ, i64_w, i32_w]
                         rfl
                        refine pure_ (i := 11) (N := some 118) (v := ?_) (a' := ?_) #[true, true, true, true, false, true, true, true, true, false, false, true, false] rfl rfl (any_of HT_.out (by kernel_rfl)) (fun _ _ _ h => h) (Or.inl ⟨by rfl, ?_⟩) ?_ ?_
                        rotate_left
                        ·intro w'
                         go_simp
                         with_reducible rfl
                        rotate_left
                        ·simp only [Act.put, List.setIfInBounds_toArray, List.set_cons_zero, List.set_cons_succ, i64_w, i32_w]
                         rfl
                        refine take_ (i := 4) (N := some 111) (v := ?_) (a' := ?_) #[true, true, true, true, true, true, true, true, true, false, false, true, false] rfl rfl (take_ofW HT_.out HW_.out (by kernel_rfl)) (fun _ _ _ h => h) (Or.inl ⟨by rfl, ?_⟩) hHeld ?_ ?_
                        rotate_left
                        ·rintro w' ⟨s0, s1, s2, s3⟩
                         go_simp
                         with_reducible rfl
                        rotate_left
                        ·simp only [Act.put, List.setIfInBounds_toArray, List.set_cons_zero, List.set_cons_succ, i64_w, i32_w]
                         rfl
                        refine take_ (i := 9) (N := some 116) (v := ?_) (a' := ?_) #[true, true, true, true, true, true, true, true, true, true, false, true, false] rfl rfl (take_ofW HT_.out HW_.out (by kernel_rfl)) (fun _ _ _ h => h) (Or.inl ⟨by rfl, ?_⟩) hHeld ?_ ?_
                        rotate_left
                        ·rintro w' ⟨s0, s1, s2, s3⟩
                         go_simp
                         with_reducible rfl
                        rotate_left
                        ·simp only [Act.put, List.setIfInBounds_toArray, List.set_cons_zero, List.set_cons_succ, i64_w, i32_w]
                         rfl
                        refine pure_ (i := 10) (N := some 117) (v := ?_) (a' := ?_) #[true, true, true, true, true, true, true, true, true, true, true, true, false] rfl rfl (any_of HT_.out (by kernel_rfl)) (fun _ _ _ h => h) (Or.inl ⟨by rfl, ?_⟩) ?_ ?_
                        rotate_left
                        ·intro w'
                         go_simp
                         with_reducible rfl
                        rotate_left
                        ·simp only [Act.put, List.setIfInBounds_toArray, List.set_cons_zero, List.set_cons_succ, i64_w, i32_w]
                         rfl
                        refine pure_ (i := 12) (N := some 119) (v := ?_) (a' := ?_) #[true, true, true, true, true, true, true, true, true, true, true, true, true] rfl rfl (any_of HT_.out (by kernel_rfl)) (fun _ _ _ h => h) (Or.inl ⟨by rfl, ?_⟩) ?_ ?_
                        rotate_left
                        ·intro w'
                         go_simp
                         with_reducible rfl
                        rotate_left
                        ·simp only [Act.put, List.setIfInBounds_toArray, List.set_cons_zero, List.set_cons_succ, i64_w, i32_w]
                         rfl
                        refine done_ (done_of HT_.out (by kernel_rfl)) ?_
                        try go_wp2
                        go_ret
                        exact ⟨by first | rfl | (simp [errW_none, errW_some] <;> rfl) | (simp only [← hji50]; first | rfl | (simp [errW_none, errW_some] <;> rfl)) | (simp [*, errW_none, errW_some] <;> rfl), by repeat (first | (with_reducible first | exact HB.out | apply below_alloc | apply pw_below_drewN | apply below_drew1 | refine below_set ?_ GE371.out) | exact HB.out)⟩
                       ·rw [if_neg c60] at H
                        have c60b0 : ((decide (((rd_T68 t362 x13_5).f0) ≥ ((rd_T54 l1 x8_2).f1))) != (decide (x13_5 ≥ x372002_18))) = false := by simpa using c60
                        (try (have c60b1 : decide ((decide (((rd_T68 t362 x13_5).f0) ≥ ((rd_T54 l1 x8_2).f1))) = (decide (x13_5 ≥ x372002_18))) = true := by simpa using c60))
                        (try (have c60b2 : ((decide (((rd_T68 t362 x13_5).f0) ≥ ((rd_T54 l1 x8_2).f1))) == (decide (x13_5 ≥ x372002_18))) = true := by simpa using c60))
                        clear c60
                        have H' := Aside0.mk H
                        clear H
                        have hcz63_0 : wc.cell? ⟨gb371, 0, none⟩ = some (u372000) := (blk_cell BK371.out 0).trans rfl
                        have hcz63_1 : wc.cell? ⟨gb371, 1, none⟩ = some (errW x372001_18) := (blk_cell BK371.out 1).trans rfl
                        have hcz63_2 : wc.cell? ⟨gb371, 2, none⟩ = some (.int .i64 x372002_18) := (blk_cell BK371.out 2).trans rfl
                        have hcz63_3 : wc.cell? ⟨gb371, 3, none⟩ = some (.bool x372003_18) := (blk_cell BK371.out 3).trans rfl
                        have hfz63_0 := blk_frozen BK371.out 0
                        have hfz63_1 := blk_frozen BK371.out 1
                        have hfz63_2 := blk_frozen BK371.out 2
                        have hfz63_3 := blk_frozen BK371.out 3
                        try go_wp2
                        have n0_ := Aside0.mk (Kd.R_drew HO_6.out)
                        have n1_ := Aside0.mk (Kd.V_drew HO_372000.out)
                        have n2_ := Aside0.mk (blk_drew BK371.out)
                        have n3_ := Aside0.mk (below_drew1 HB.out)
                        clear HO_6
                        clear HO_372000
                        clear BK371
                        clear HB
                        have HO_6 := n0_
                        have HO_372000 := n1_
                        have BK371 := n2_
                        have HB := n3_
                        clear n0_ n1_ n2_ n3_
                        have p389 : 0 ≤ (x13_5 : Int) := of_decide_eq_true (by first | (with_reducible assumption) | assumption)
                        have q389 : x13_5 < (t362.length : Int) := of_decide_eq_true (by first | (with_reducible assumption) | assumption)
                        obtain ⟨ad389, e389, hx389_0, hx389_1⟩ := at_T68 (Kd.R_reads' HO_6.out).2.2 x13_5 p389 q389
                        cases e389
                        replace p389 := eq_true p389
                        (try (have q389s := q389; simp only [List.length_drop, List.length_take] at q389s; replace q389s := eq_true q389s)); replace q389 := eq_true q389
                        have p390 : 0 ≤ (x8_2 : Int) := of_decide_eq_true (by first | (with_reducible assumption) | assumption)
                        have q390 : x8_2 < (l1.length : Int) := of_decide_eq_true (by first | (with_reducible assumption) | assumption)
                        obtain ⟨ad390, e390, hx390_0, hx390_1⟩ := at_T54 HR1.out x8_2 p390 q390
                        have hw390_1 := hx390_1
                        have hw390_0 := hx390_0
                        obtain rfl : ad372 = ad390 := (by injection e390)
                        replace hx390_0 := (HB.out.cell (World.block_lt_of_cell? w _ hx390_0)).trans hx390_0
                        replace hx390_1 := (HB.out.cell (World.block_lt_of_cell? w _ hx390_1)).trans hx390_1
                        replace p390 := eq_true p390
                        (try (have q390s := q390; simp only [List.length_drop, List.length_take] at q390s; replace q390s := eq_true q390s)); replace q390 := eq_true q390
                        refine start_ (n := 13) (S := fun w' => w'.cell? (ad389.add ((x13_5).toNat * 2)) = some (.int .i64 ((rd_T68 t362 x13_5).f0)) ∧ w'.cell? ⟨(ad389.add ((x13_5).toNat * 2)).block, (ad389.add ((x13_5).toNat * 2)).off + 1, none⟩ = some (.int .u64 ((rd_T68 t362 x13_5).f1)) ∧ w'.cell? (ad372.add ((x8_2).toNat * 2)) = some (.int .i64 ((rd_T54 l1 x8_2).f0)) ∧ w'.cell? ⟨(ad372.add ((x8_2).toNat * 2)).block, (ad372.add ((x8_2).toNat * 2)).off + 1, none⟩ = some (.int .i64 ((rd_T54 l1 x8_2).f1))) (ds := []) #[false, false, false, false, false, false, false, false, false, false, false, false, false] (by kernel_rfl) rfl rfl ⟨hx389_0, hx389_1, ((HB.out.cell (World.block_lt_of_cell? w _ hw390_0)).trans hw390_0), ((HB.out.cell (World.block_lt_of_cell? w _ hw390_1)).trans hw390_1)⟩ (fun hHeld => ?_); refine with_tabW gaiterlaw17_CursorForth.tab22 gaiterlaw17_CursorForth.bits22 (fun HT_ HW_ => ?_)
                        generalize wc.drew = w64 at HO_6 HO_372000 BK371 HB hx389_0 hx389_1 hx390_0 hx390_1 hHeld ⊢
                        refine pure_ (i := 0) (N := some 107) (v := ?_) (a' := ?_) #[true, false, false, false, false, false, false, false, false, false, false, false, false] rfl rfl (any_of HT_.out (by kernel_rfl)) (fun _ _ _ h => h) (Or.inl ⟨by rfl, ?_⟩) ?_ ?_
                        rotate_left
                        ·intro w'
                         go_simp
                         with_reducible rfl
                        rotate_left
                        ·simp only [Act.put, List.setIfInBounds_toArray, List.set_cons_zero, List.set_cons_succ, i64_w, i32_w]
                         rfl
                        refine pure_ (i := 1) (N := some 108) (v := ?_) (a' := ?_) #[true, true, false, false, false, false, false, false, false, false, false, false, false] rfl rfl (any_of HT_.out (by kernel_rfl)) (fun _ _ _ h => h) (Or.inl ⟨by rfl, ?_⟩) ?_ ?_
                        rotate_left
                        ·intro w'
                         go_simp
                         with_reducible rfl
                        rotate_left
                        ·simp only [Act.put, List.setIfInBounds_toArray, List.set_cons_zero, List.set_cons_succ, i64_w, i32_w]
                         rfl
                        refine pure_ (i := 2) (N := some 109) (v := ?_) (a' := ?_) #[true, true, true, false, false, false, false, false, false, false, false, false, false] rfl rfl (any_of HT_.out (by kernel_rfl)) (fun _ _ _ h => h) (Or.inl ⟨by rfl, ?_⟩) ?_ ?_
                        rotate_left
                        ·intro w'
                         go_simp
                         with_reducible rfl
                        rotate_left
                        ·simp only [Act.put, List.setIfInBounds_toArray, List.set_cons_zero, List.set_cons_succ, i64_w, i32_w]
                         rfl
                        refine pure_ (i := 3) (N := some 110) (v := ?_) (a' := ?_) #[true, true, true, true, false, false, false, false, false, false, false, false, false] rfl rfl (any_of HT_.out (by kernel_rfl)) (fun _ _ _ h => h) (Or.inl ⟨by rfl, ?_⟩) ?_ ?_
                        rotate_left
                        ·intro w'
                         go_simp
                         with_reducible rfl
                        rotate_left
                        ·simp only [Act.put, List.setIfInBounds_toArray, List.set_cons_zero, List.set_cons_succ, i64_w, i32_w]
                         rfl
                        refine pure_ (i := 5) (N := some 112) (v := ?_) (a' := ?_) #[true, true, true, true, false, true, false, false, false, false, false, false, false] rfl rfl (any_of HT_.out (by kernel_rfl)) (fun _ _ _ h => h) (Or.inl ⟨by rfl, ?_⟩) ?_ ?_
                        rotate_left
                        ·intro w'
                         go_simp
                         with_reducible rfl
                        rotate_left
                        ·simp only [Act.put, List.setIfInBounds_toArray, List.set_cons_zero, List.set_cons_succ, i64_w, i32_w]
                         rfl
                        refine pure_ (i := 6) (N := some 113) (v := ?_) (a' := ?_) #[true, true, true, true, false, true, true, false, false, false, false, false, false] rfl rfl (any_of HT_.out (by kernel_rfl)) (fun _ _ _ h => h) (Or.inl ⟨by rfl, ?_⟩) ?_ ?_
                        rotate_left
                        ·intro w'
                         go_simp
                         with_reducible rfl
                        rotate_left
                        ·simp only [Act.put, List.setIfInBounds_toArray, List.set_cons_zero, List.set_cons_succ, i64_w, i32_w]
                         rfl
                        refine pure_ (i := 7) (N := some 114) (v := ?_) (a' := ?_) #[true, true, true, true, false, true, true, true, false, false, false, false, false] rfl rfl (any_of HT_.out (by kernel_rfl)) (fun _ _ _ h => h) (Or.inl ⟨by rfl, ?_⟩) ?_ ?_
                        rotate_left
                        ·intro w'
                         go_simp
                         with_reducible rfl
                        rotate_left
                        ·simp only [Act.put, List.setIfInBounds_toArray, List.set_cons_zero, List.set_cons_succ, i64_w, i32_w]
                         rfl
                        refine pure_ (i := 8) (N := some 115) (v := ?_) (a' := ?_) #[true, true, true, true, false, true, true, true, true, false, false, false, false] rfl rfl (any_of HT_.out (by kernel_rfl)) (fun _ _ _ h => h) (Or.inl ⟨by rfl, ?_⟩) ?_ ?_
                        rotate_left
                        ·intro w'
                         go_simp
                         with_reducible rfl
                        rotate_left
                        ·simp only [Act.put, List.setIfInBounds_toArray, List.set_cons_zero, List.set_cons_succ, i64_w, i32_w]
                         rfl
                        refine pure_ (i := 11) (N := some 118) (v := ?_) (a' := ?_) #[true, true, true, true, false, true, true, true, true, false, false, true, false] rfl rfl (any_of HT_.out (by kernel_rfl)) (fun _ _ _ h => h) (Or.inl ⟨by rfl, ?_⟩) ?_ ?_
                        rotate_left
                        ·intro w'
                         go_simp
                         with_reducible rfl
                        rotate_left
                        ·simp only [Act.put, List.setIfInBounds_toArray, List.set_cons_zero, List.set_cons_succ, i64_w, i32_w]
                         rfl
                        refine take_ (i := 4) (N := some 111) (v := ?_) (a' := ?_) #[true, true, true, true, true, true, true, true, true, false, false, true, false] rfl rfl (take_ofW HT_.out HW_.out (by kernel_rfl)) (fun _ _ _ h => h) (Or.inl ⟨by rfl, ?_⟩) hHeld ?_ ?_
                        rotate_left
                        ·rintro w' ⟨s0, s1, s2, s3⟩
                         go_simp
                         with_reducible rfl
                        rotate_left
                        ·simp only [Act.put, List.setIfInBounds_toArray, List.set_cons_zero, List.set_cons_succ, i64_w, i32_w]
                         rfl
                        refine take_ (i := 9) (N := some 116) (v := ?_) (a' := ?_) #[true, true, true, true, true, true, true, true, true, true, false, true, false] rfl rfl (take_ofW HT_.out HW_.out (by kernel_rfl)) (fun _ _ _ h => h) (Or.inl ⟨by rfl, ?_⟩) hHeld ?_ ?_
                        rotate_left
                        ·rintro w' ⟨s0, s1, s2, s3⟩
                         go_simp
                         with_reducible rfl
                        rotate_left
                        ·simp only [Act.put, List.setIfInBounds_toArray, List.set_cons_zero, List.set_cons_succ, i64_w, i32_w]
                         rfl
                        refine pure_ (i := 10) (N := some 117) (v := ?_) (a' := ?_) #[true, true, true, true, true, true, true, true, true, true, true, true, false] rfl rfl (any_of HT_.out (by kernel_rfl)) (fun _ _ _ h => h) (Or.inl ⟨by rfl, ?_⟩) ?_ ?_
                        rotate_left
                        ·intro w'
                         go_simp
                         with_reducible rfl
                        rotate_left
                        ·simp only [Act.put, List.setIfInBounds_toArray, List.set_cons_zero, List.set_cons_succ, i64_w, i32_w]
                         rfl
                        refine pure_ (i := 12) (N := some 119) (v := ?_) (a' := ?_) #[true, true, true, true, true, true, true, true, true, true, true, true, true] rfl rfl (any_of HT_.out (by kernel_rfl)) (fun _ _ _ h => h) (Or.inl ⟨by rfl, ?_⟩) ?_ ?_
                        rotate_left
                        ·intro w'
                         go_simp
                         with_reducible rfl
                        rotate_left
                        ·simp only [Act.put, List.setIfInBounds_toArray, List.set_cons_zero, List.set_cons_succ, i64_w, i32_w]
                         rfl
                        refine done_ (done_of HT_.out (by kernel_rfl)) ?_
                        try go_wp2
                        go_roundg kj50
                        case measure => have := HJ3.out; have := HK2.out; have := HJ18.out; have := HJ36.out; have := HK5.out; have := HJ50.out; omega
                        case rel => exact ⟨(wrap64 (x13_5 + 1)), (by first | rfl | (simp; done) | (simp [*]; done)), H', ⟨by have := HJ3.out; have := HK2.out; have := HJ18.out; have := HJ36.out; have := HK5.out; have := HJ50.out; omega⟩, ⟨by (with_reducible repeat (first | apply Kd.R_alloc | apply Kd.R_drewN | apply Kd.R_drew)); exact HO_6.out⟩, ⟨by (with_reducible repeat (first | apply Kd.V_alloc | apply Kd.V_drewN | apply Kd.V_drew)); exact HO_372000.out⟩, ⟨by (with_reducible repeat (first | refine blk_drewN ?_ _ | refine blk_drew ?_ | refine blk_alloc ?_ _)); exact BK371.out⟩, ⟨by repeat (first | (with_reducible first | exact HB.out | apply below_alloc | apply pw_below_drewN | apply below_drew1 | refine below_set ?_ GE371.out) | exact HB.out)⟩⟩
                      ·rw [if_neg c59] at H
                       exact absurd H (by simp)
                     ·rw [if_neg c58] at H
                      exact absurd H (by simp)
                    ·rw [if_neg c57] at H
                     exact absurd H (by simp)
                   ·rw [if_neg c56] at H
                    exact absurd H (by simp)
                  ·replace c55 := Bool.eq_false_iff.mpr c55
                   subst c55
                   have H1 : (if 0 ≤ x13_5 then (if x13_5 < (t362.length : Int) then (if 0 ≤ x8_2 then (if x8_2 < (l1.length : Int) then (if ((decide (((rd_T68 t362 x13_5).f0) ≥ ((rd_T54 l1 x8_2).f1))) != false) = true then (some false) else (gaiterlaw17_CursorForth.l1 kj50 l1 t361 t362 x8_2 x372002_2 x372003_2 x11_18 false (wrap64 (x13_5 + 1)) x372000_18 x372001_18 x372002_18 x372003_18)) else (none)) else (none)) else (none)) else (none)) = some r := by rw [if_neg (show ¬ (false = true) by decide)] at H; exact H
                   clear H
                   have H := H1
                   clear H1
                   by_cases c65 : 0 ≤ x13_5
                   ·rw [if_pos c65] at H
                    have c65b0 : decide (0 ≤ x13_5) = true := decide_eq_true c65
                    clear c65
                    by_cases c66 : x13_5 < (t362.length : Int)
                    ·rw [if_pos c66] at H
                     have c66b0 : decide (x13_5 < (t362.length : Int)) = true := decide_eq_true c66
                     clear c66
                     by_cases c67 : 0 ≤ x8_2
                     ·rw [if_pos c67] at H
                      have c67b0 : decide (0 ≤ x8_2) = true := decide_eq_true c67
                      clear c67
                      by_cases c68 : x8_2 < (l1.length : Int)
                      ·rw [if_pos c68] at H
                       have c68b0 : decide (x8_2 < (l1.length : Int)) = true := decide_eq_true c68
                       clear c68
                       by_cases c69 : ((decide (((rd_T68 t362 x13_5).f0) ≥ ((rd_T54 l1 x8_2).f1))) != false) = true
                       ·rw [if_pos c69] at H
                        have c69b0 : ((decide (((rd_T68 t362 x13_5).f0) ≥ ((rd_T54 l1 x8_2).f1))) != false) = true := c69
                        (try (have c69b1 : decide ((decide (((rd_T68 t362 x13_5).f0) ≥ ((rd_T54 l1 x8_2).f1))) = false) = false := by simpa using c69))
                        (try (have c69b2 : ((decide (((rd_T68 t362 x13_5).f0) ≥ ((rd_T54 l1 x8_2).f1))) == false) = false := by simpa using c69))
                        (try (have c69b3 : ¬ ((decide (((rd_T68 t362 x13_5).f0) ≥ ((rd_T54 l1 x8_2).f1))) = false) := by simpa using c69))
                        clear c69
                        obtain rfl := Option.some.inj H
                        try go_wp2
                        have n0_ := Aside0.mk (Kd.R_drew HO_6.out)
                        have n1_ := Aside0.mk (Kd.V_drew HO_372000.out)
                        have n2_ := Aside0.mk (blk_drew BK371.out)
                        have n3_ := Aside0.mk (below_drew1 HB.out)
                        clear HO_6
                        clear HO_372000
                        clear BK371
                        clear HB
                        have HO_6 := n0_
                        have HO_372000 := n1_
                        have BK371 := n2_
                        have HB := n3_
                        clear n0_ n1_ n2_ n3_
                        have p391 : 0 ≤ (x13_5 : Int) := of_decide_eq_true (by first | (with_reducible assumption) | assumption)
                        have q391 : x13_5 < (t362.length : Int) := of_decide_eq_true (by first | (with_reducible assumption) | assumption)
                        obtain ⟨ad391, e391, hx391_0, hx391_1⟩ := at_T68 (Kd.R_reads' HO_6.out).2.2 x13_5 p391 q391
                        cases e391
                        replace p391 := eq_true p391
                        (try (have q391s := q391; simp only [List.length_drop, List.length_take] at q391s; replace q391s := eq_true q391s)); replace q391 := eq_true q391
                        have p392 : 0 ≤ (x8_2 : Int) := of_decide_eq_true (by first | (with_reducible assumption) | assumption)
                        have q392 : x8_2 < (l1.length : Int) := of_decide_eq_true (by first | (with_reducible assumption) | assumption)
                        obtain ⟨ad392, e392, hx392_0, hx392_1⟩ := at_T54 HR1.out x8_2 p392 q392
                        have hw392_1 := hx392_1
                        have hw392_0 := hx392_0
                        obtain rfl : ad372 = ad392 := (by injection e392)
                        replace hx392_0 := (HB.out.cell (World.block_lt_of_cell? w _ hx392_0)).trans hx392_0
                        replace hx392_1 := (HB.out.cell (World.block_lt_of_cell? w _ hx392_1)).trans hx392_1
                        replace p392 := eq_true p392
                        (try (have q392s := q392; simp only [List.length_drop, List.length_take] at q392s; replace q392s := eq_true q392s)); replace q392 := eq_true q392
                        refine start_ (n := 13) (S := fun w' => w'.cell? (ad391.add ((x13_5).toNat * 2)) = some (.int .i64 ((rd_T68 t362 x13_5).f0)) ∧ w'.cell? ⟨(ad391.add ((x13_5).toNat * 2)).block, (ad391.add ((x13_5).toNat * 2)).off + 1, none⟩ = some (.int .u64 ((rd_T68 t362 x13_5).f1)) ∧ w'.cell? (ad372.add ((x8_2).toNat * 2)) = some (.int .i64 ((rd_T54 l1 x8_2).f0)) ∧ w'.cell? ⟨(ad372.add ((x8_2).toNat * 2)).block, (ad372.add ((x8_2).toNat * 2)).off + 1, none⟩ = some (.int .i64 ((rd_T54 l1 x8_2).f1))) (ds := []) #[false, false, false, false, false, false, false, false, false, false, false, false, false] (by kernel_rfl) rfl rfl ⟨hx391_0, hx391_1, ((HB.out.cell (World.block_lt_of_cell? w _ hw392_0)).trans hw392_0), ((HB.out.cell (World.block_lt_of_cell? w _ hw392_1)).trans hw392_1)⟩ (fun hHeld => ?_); refine with_tabW gaiterlaw17_CursorForth.tab22 gaiterlaw17_CursorForth.bits22 (fun HT_ HW_ => ?_)
                        generalize wc.drew = w70 at HO_6 HO_372000 BK371 HB hx391_0 hx391_1 hx392_0 hx392_1 hHeld ⊢
                        refine pure_ (i := 0) (N := some 107) (v := ?_) (a' := ?_) #[true, false, false, false, false, false, false, false, false, false, false, false, false] rfl rfl (any_of HT_.out (by kernel_rfl)) (fun _ _ _ h => h) (Or.inl ⟨by rfl, ?_⟩) ?_ ?_
                        rotate_left
                        ·intro w'
                         go_simp
                         with_reducible rfl
                        rotate_left
                        ·simp only [Act.put, List.setIfInBounds_toArray, List.set_cons_zero, List.set_cons_succ, i64_w, i32_w]
                         rfl
                        refine pure_ (i := 1) (N := some 108) (v := ?_) (a' := ?_) #[true, true, false, false, false, false, false, false, false, false, false, false, false] rfl rfl (any_of HT_.out (by kernel_rfl)) (fun _ _ _ h => h) (Or.inl ⟨by rfl, ?_⟩) ?_ ?_
                        rotate_left
                        ·intro w'
                         go_simp
                         with_reducible rfl
                        rotate_left
                        ·simp only [Act.put, List.setIfInBounds_toArray, List.set_cons_zero, List.set_cons_succ, i64_w, i32_w]
                         rfl
                        refine pure_ (i := 2) (N := some 109) (v := ?_) (a' := ?_) #[true, true, true, false, false, false, false, false, false, false, false, false, false] rfl rfl (any_of HT_.out (by kernel_rfl)) (fun _ _ _ h => h) (Or.inl ⟨by rfl, ?_⟩) ?_ ?_
                        rotate_left
                        ·intro w'
                         go_simp
                         with_reducible rfl
                        rotate_left
                        ·simp only [Act.put, List.setIfInBounds_toArray, List.set_cons_zero, List.set_cons_succ, i64_w, i32_w]
                         rfl
                        refine pure_ (i := 3) (N := some 110) (v := ?_) (a' := ?_) #[true, true, true, true, false, false, false, false, false, false, false, false, false] rfl rfl (any_of HT_.out (by kernel_rfl)) (fun _ _ _ h => h) (Or.inl ⟨by rfl, ?_⟩) ?_ ?_
                        rotate_left
                        ·intro w'
                         go_simp
                         with_reducible rfl
                        rotate_left
                        ·simp only [Act.put, List.setIfInBounds_toArray, List.set_cons_zero, List.set_cons_succ, i64_w, i32_w]
                         rfl
                        refine pure_ (i := 5) (N := some 112) (v := ?_) (a' := ?_) #[true, true, true, true, false, true, false, false, false, false, false, false, false] rfl rfl (any_of HT_.out (by kernel_rfl)) (fun _ _ _ h => h) (Or.inl ⟨by rfl, ?_⟩) ?_ ?_
                        rotate_left
                        ·intro w'
                         go_simp
                         with_reducible rfl
                        rotate_left
                        ·simp only [Act.put, List.setIfInBounds_toArray, List.set_cons_zero, List.set_cons_succ, i64_w, i32_w]
                         rfl
                        refine pure_ (i := 6) (N := some 113) (v := ?_) (a' := ?_) #[true, true, true, true, false, true, true, false, false, false, false, false, false] rfl rfl (any_of HT_.out (by kernel_rfl)) (fun _ _ _ h => h) (Or.inl ⟨by rfl, ?_⟩) ?_ ?_
                        rotate_left
                        ·intro w'
                         go_simp
                         with_reducible rfl
                        rotate_left
                        ·simp only [Act.put, List.setIfInBounds_toArray, List.set_cons_zero, List.set_cons_succ, i64_w, i32_w]
                         rfl
                        refine pure_ (i := 7) (N := some 114) (v := ?_) (a' := ?_) #[true, true, true, true, false, true, true, true, false, false, false, false, false] rfl rfl (any_of HT_.out (by kernel_rfl)) (fun _ _ _ h => h) (Or.inl ⟨by rfl, ?_⟩) ?_ ?_
                        rotate_left
                        ·intro w'
                         go_simp
                         with_reducible rfl
                        rotate_left
                        ·simp only [Act.put, List.setIfInBounds_toArray, List.set_cons_zero, List.set_cons_succ, i64_w, i32_w]
                         rfl
                        refine pure_ (i := 8) (N := some 115) (v := ?_) (a' := ?_) #[true, true, true, true, false, true, true, true, true, false, false, false, false] rfl rfl (any_of HT_.out (by kernel_rfl)) (fun _ _ _ h => h) (Or.inl ⟨by rfl, ?_⟩) ?_ ?_
                        rotate_left
                        ·intro w'
                         go_simp
                         with_reducible rfl
                        rotate_left
                        ·simp only [Act.put, List.setIfInBounds_toArray, List.set_cons_zero, List.set_cons_succ, i64_w, i32_w]
                         rfl
                        refine pure_ (i := 11) (N := some 118) (v := ?_) (a' := ?_) #[true, true, true, true, false, true, true, true, true, false, false, true, false] rfl rfl (any_of HT_.out (by kernel_rfl)) (fun _ _ _ h => h) (Or.inl ⟨by rfl, ?_⟩) ?_ ?_
                        rotate_left
                        ·intro w'
                         go_simp
                         with_reducible rfl
                        rotate_left
                        ·simp only [Act.put, List.setIfInBounds_toArray, List.set_cons_zero, List.set_cons_succ, i64_w, i32_w]
                         rfl
                        refine take_ (i := 4) (N := some 111) (v := ?_) (a' := ?_) #[true, true, true, true, true, true, true, true, true, false, false, true, false] rfl rfl (take_ofW HT_.out HW_.out (by kernel_rfl)) (fun _ _ _ h => h) (Or.inl ⟨by rfl, ?_⟩) hHeld ?_ ?_
                        rotate_left
                        ·rintro w' ⟨s0, s1, s2, s3⟩
                         go_simp
                         with_reducible rfl
                        rotate_left
                        ·simp only [Act.put, List.setIfInBounds_toArray, List.set_cons_zero, List.set_cons_succ, i64_w, i32_w]
                         rfl
                        refine take_ (i := 9) (N := some 116) (v := ?_) (a' := ?_) #[true, true, true, true, true, true, true, true, true, true, false, true, false] rfl rfl (take_ofW HT_.out HW_.out (by kernel_rfl)) (fun _ _ _ h => h) (Or.inl ⟨by rfl, ?_⟩) hHeld ?_ ?_
                        rotate_left
                        ·rintro w' ⟨s0, s1, s2, s3⟩
                         go_simp
                         with_reducible rfl
                        rotate_left
                        ·simp only [Act.put, List.setIfInBounds_toArray, List.set_cons_zero, List.set_cons_succ, i64_w, i32_w]
                         rfl
                        refine pure_ (i := 10) (N := some 117) (v := ?_) (a' := ?_) #[true, true, true, true, true, true, true, true, true, true, true, true, false] rfl rfl (any_of HT_.out (by kernel_rfl)) (fun _ _ _ h => h) (Or.inl ⟨by rfl, ?_⟩) ?_ ?_
                        rotate_left
                        ·intro w'
                         go_simp
                         with_reducible rfl
                        rotate_left
                        ·simp only [Act.put, List.setIfInBounds_toArray, List.set_cons_zero, List.set_cons_succ, i64_w, i32_w]
                         rfl
                        refine pure_ (i := 12) (N := some 119) (v := ?_) (a' := ?_) #[true, true, true, true, true, true, true, true, true, true, true, true, true] rfl rfl (any_of HT_.out (by kernel_rfl)) (fun _ _ _ h => h) (Or.inl ⟨by rfl, ?_⟩) ?_ ?_
                        rotate_left
                        ·intro w'
                         go_simp
                         with_reducible rfl
                        rotate_left
                        ·simp only [Act.put, List.setIfInBounds_toArray, List.set_cons_zero, List.set_cons_succ, i64_w, i32_w]
                         rfl
                        refine done_ (done_of HT_.out (by kernel_rfl)) ?_
                        try go_wp2
                        go_ret
                        exact ⟨by first | rfl | (simp [errW_none, errW_some] <;> rfl) | (simp only [← hji50]; first | rfl | (simp [errW_none, errW_some] <;> rfl)) | (simp [*, errW_none, errW_some] <;> rfl), by repeat (first | (with_reducible first | exact HB.out | apply below_alloc | apply pw_below_drewN | apply below_drew1 | refine below_set ?_ GE371.out) | exact HB.out)⟩
                       ·rw [if_neg c69] at H
                        have c69b0 : ((decide (((rd_T68 t362 x13_5).f0) ≥ ((rd_T54 l1 x8_2).f1))) != false) = false := by simpa using c69
                        (try (have c69b1 : decide ((decide (((rd_T68 t362 x13_5).f0) ≥ ((rd_T54 l1 x8_2).f1))) = false) = true := by simpa using c69))
                        (try (have c69b2 : ((decide (((rd_T68 t362 x13_5).f0) ≥ ((rd_T54 l1 x8_2).f1))) == false) = true := by simpa using c69))
                        clear c69
                        have H' := Aside0.mk H
                        clear H
                        try go_wp2
                        have n0_ := Aside0.mk (Kd.R_drew HO_6.out)
                        have n1_ := Aside0.mk (Kd.V_drew HO_372000.out)
                        have n2_ := Aside0.mk (blk_drew BK371.out)
                        have n3_ := Aside0.mk (below_drew1 HB.out)
                        clear HO_6
                        clear HO_372000
                        clear BK371
                        clear HB
                        have HO_6 := n0_
                        have HO_372000 := n1_
                        have BK371 := n2_
                        have HB := n3_
                        clear n0_ n1_ n2_ n3_
                        have p391 : 0 ≤ (x13_5 : Int) := of_decide_eq_true (by first | (with_reducible assumption) | assumption)
                        have q391 : x13_5 < (t362.length : Int) := of_decide_eq_true (by first | (with_reducible assumption) | assumption)
                        obtain ⟨ad391, e391, hx391_0, hx391_1⟩ := at_T68 (Kd.R_reads' HO_6.out).2.2 x13_5 p391 q391
                        cases e391
                        replace p391 := eq_true p391
                        (try (have q391s := q391; simp only [List.length_drop, List.length_take] at q391s; replace q391s := eq_true q391s)); replace q391 := eq_true q391
                        have p392 : 0 ≤ (x8_2 : Int) := of_decide_eq_true (by first | (with_reducible assumption) | assumption)
                        have q392 : x8_2 < (l1.length : Int) := of_decide_eq_true (by first | (with_reducible assumption) | assumption)
                        obtain ⟨ad392, e392, hx392_0, hx392_1⟩ := at_T54 HR1.out x8_2 p392 q392
                        have hw392_1 := hx392_1
                        have hw392_0 := hx392_0
                        obtain rfl : ad372 = ad392 := (by injection e392)
                        replace hx392_0 := (HB.out.cell (World.block_lt_of_cell? w _ hx392_0)).trans hx392_0
                        replace hx392_1 := (HB.out.cell (World.block_lt_of_cell? w _ hx392_1)).trans hx392_1
                        replace p392 := eq_true p392
                        (try (have q392s := q392; simp only [List.length_drop, List.length_take] at q392s; replace q392s := eq_true q392s)); replace q392 := eq_true q392
                        refine start_ (n := 13) (S := fun w' => w'.cell? (ad391.add ((x13_5).toNat * 2)) = some (.int .i64 ((rd_T68 t362 x13_5).f0)) ∧ w'.cell? ⟨(ad391.add ((x13_5).toNat * 2)).block, (ad391.add ((x13_5).toNat * 2)).off + 1, none⟩ = some (.int .u64 ((rd_T68 t362 x13_5).f1)) ∧ w'.cell? (ad372.add ((x8_2).toNat * 2)) = some (.int .i64 ((rd_T54 l1 x8_2).f0)) ∧ w'.cell? ⟨(ad372.add ((x8_2).toNat * 2)).block, (ad372.add ((x8_2).toNat * 2)).off + 1, none⟩ = some (.int .i64 ((rd_T54 l1 x8_2).f1))) (ds := []) #[false, false, false, false, false, false, false, false, false, false, false, false, false] (by kernel_rfl) rfl rfl ⟨hx391_0, hx391_1, ((HB.out.cell (World.block_lt_of_cell? w _ hw392_0)).trans hw392_0), ((HB.out.cell (World.block_lt_of_cell? w _ hw392_1)).trans hw392_1)⟩ (fun hHeld => ?_); refine with_tabW gaiterlaw17_CursorForth.tab22 gaiterlaw17_CursorForth.bits22 (fun HT_ HW_ => ?_)
                        generalize wc.drew = w71 at HO_6 HO_372000 BK371 HB hx391_0 hx391_1 hx392_0 hx392_1 hHeld ⊢
                        refine pure_ (i := 0) (N := some 107) (v := ?_) (a' := ?_) #[true, false, false, false, false, false, false, false, false, false, false, false, false] rfl rfl (any_of HT_.out (by kernel_rfl)) (fun _ _ _ h => h) (Or.inl ⟨by rfl, ?_⟩) ?_ ?_
                        rotate_left
                        ·intro w'
                         go_simp
                         with_reducible rfl
                        rotate_left
                        ·simp only [Act.put, List.setIfInBounds_toArray, List.set_cons_zero, List.set_cons_succ, i64_w, i32_w]
                         rfl
                        refine pure_ (i := 1) (N := some 108) (v := ?_) (a' := ?_) #[true, true, false, false, false, false, false, false, false, false, false, false, false] rfl rfl (any_of HT_.out (by kernel_rfl)) (fun _ _ _ h => h) (Or.inl ⟨by rfl, ?_⟩) ?_ ?_
                        rotate_left
                        ·intro w'
                         go_simp
                         with_reducible rfl
                        rotate_left
                        ·simp only [Act.put, List.setIfInBounds_toArray, List.set_cons_zero, List.set_cons_succ, i64_w, i32_w]
                         rfl
                        refine pure_ (i := 2) (N := some 109) (v := ?_) (a' := ?_) #[true, true, true, false, false, false, false, false, false, false, false, false, false] rfl rfl (any_of HT_.out (by kernel_rfl)) (fun _ _ _ h => h) (Or.inl ⟨by rfl, ?_⟩) ?_ ?_
                        rotate_left
                        ·intro w'
                         go_simp
                         with_reducible rfl
                        rotate_left
                        ·simp only [Act.put, List.setIfInBounds_toArray, List.set_cons_zero, List.set_cons_succ, i64_w, i32_w]
                         rfl
                        refine pure_ (i := 3) (N := some 110) (v := ?_) (a' := ?_) #[true, true, true, true, false, false, false, false, false, false, false, false, false] rfl rfl (any_of HT_.out (by kernel_rfl)) (fun _ _ _ h => h) (Or.inl ⟨by rfl, ?_⟩) ?_ ?_
                        rotate_left
                        ·intro w'
                         go_simp
                         with_reducible rfl
                        rotate_left
                        ·simp only [Act.put, List.setIfInBounds_toArray, List.set_cons_zero, List.set_cons_succ, i64_w, i32_w]
                         rfl
                        refine pure_ (i := 5) (N := some 112) (v := ?_) (a' := ?_) #[true, true, true, true, false, true, false, false, false, false, false, false, false] rfl rfl (any_of HT_.out (by kernel_rfl)) (fun _ _ _ h => h) (Or.inl ⟨by rfl, ?_⟩) ?_ ?_
                        rotate_left
                        ·intro w'
                         go_simp
                         with_reducible rfl
                        rotate_left
                        ·simp only [Act.put, List.setIfInBounds_toArray, List.set_cons_zero, List.set_cons_succ, i64_w, i32_w]
                         rfl
                        refine pure_ (i := 6) (N := some 113) (v := ?_) (a' := ?_) #[true, true, true, true, false, true, true, false, false, false, false, false, false] rfl rfl (any_of HT_.out (by kernel_rfl)) (fun _ _ _ h => h) (Or.inl ⟨by rfl, ?_⟩) ?_ ?_
                        rotate_left
                        ·intro w'
                         go_simp
                         with_reducible rfl
                        rotate_left
                        ·simp only [Act.put, List.setIfInBounds_toArray, List.set_cons_zero, List.set_cons_succ, i64_w, i32_w]
                         rfl
                        refine pure_ (i := 7) (N := some 114) (v := ?_) (a' := ?_) #[true, true, true, true, false, true, true, true, false, false, false, false, false] rfl rfl (any_of HT_.out (by kernel_rfl)) (fun _ _ _ h => h) (Or.inl ⟨by rfl, ?_⟩) ?_ ?_
                        rotate_left
                        ·intro w'
                         go_simp
                         with_reducible rfl
                        rotate_left
                        ·simp only [Act.put, List.setIfInBounds_toArray, List.set_cons_zero, List.set_cons_succ, i64_w, i32_w]
                         rfl
                        refine pure_ (i := 8) (N := some 115) (v := ?_) (a' := ?_) #[true, true, true, true, false, true, true, true, true, false, false, false, false] rfl rfl (any_of HT_.out (by kernel_rfl)) (fun _ _ _ h => h) (Or.inl ⟨by rfl, ?_⟩) ?_ ?_
                        rotate_left
                        ·intro w'
                         go_simp
                         with_reducible rfl
                        rotate_left
                        ·simp only [Act.put, List.setIfInBounds_toArray, List.set_cons_zero, List.set_cons_succ, i64_w, i32_w]
                         rfl
                        refine pure_ (i := 11) (N := some 118) (v := ?_) (a' := ?_) #[true, true, true, true, false, true, true, true, true, false, false, true, false] rfl rfl (any_of HT_.out (by kernel_rfl)) (fun _ _ _ h => h) (Or.inl ⟨by rfl, ?_⟩) ?_ ?_
                        rotate_left
                        ·intro w'
                         go_simp
                         with_reducible rfl
                        rotate_left
                        ·simp only [Act.put, List.setIfInBounds_toArray, List.set_cons_zero, List.set_cons_succ, i64_w, i32_w]
                         rfl
                        refine take_ (i := 4) (N := some 111) (v := ?_) (a' := ?_) #[true, true, true, true, true, true, true, true, true, false, false, true, false] rfl rfl (take_ofW HT_.out HW_.out (by kernel_rfl)) (fun _ _ _ h => h) (Or.inl ⟨by rfl, ?_⟩) hHeld ?_ ?_
                        rotate_left
                        ·rintro w' ⟨s0, s1, s2, s3⟩
                         go_simp
                         with_reducible rfl
                        rotate_left
                        ·simp only [Act.put, List.setIfInBounds_toArray, List.set_cons_zero, List.set_cons_succ, i64_w, i32_w]
                         rfl
                        refine take_ (i := 9) (N := some 116) (v := ?_) (a' := ?_) #[true, true, true, true, true, true, true, true, true, true, false, true, false] rfl rfl (take_ofW HT_.out HW_.out (by kernel_rfl)) (fun _ _ _ h => h) (Or.inl ⟨by rfl, ?_⟩) hHeld ?_ ?_
                        rotate_left
                        ·rintro w' ⟨s0, s1, s2, s3⟩
                         go_simp
                         with_reducible rfl
                        rotate_left
                        ·simp only [Act.put, List.setIfInBounds_toArray, List.set_cons_zero, List.set_cons_succ, i64_w, i32_w]
                         rfl
                        refine pure_ (i := 10) (N := some 117) (v := ?_) (a' := ?_) #[true, true, true, true, true, true, true, true, true, true, true, true, false] rfl rfl (any_of HT_.out (by kernel_rfl)) (fun _ _ _ h => h) (Or.inl ⟨by rfl, ?_⟩) ?_ ?_
                        rotate_left
                        ·intro w'
                         go_simp
                         with_reducible rfl
                        rotate_left
                        ·simp only [Act.put, List.setIfInBounds_toArray, List.set_cons_zero, List.set_cons_succ, i64_w, i32_w]
                         rfl
                        refine pure_ (i := 12) (N := some 119) (v := ?_) (a' := ?_) #[true, true, true, true, true, true, true, true, true, true, true, true, true] rfl rfl (any_of HT_.out (by kernel_rfl)) (fun _ _ _ h => h) (Or.inl ⟨by rfl, ?_⟩) ?_ ?_
                        rotate_left
                        ·intro w'
                         go_simp
                         with_reducible rfl
                        rotate_left
                        ·simp only [Act.put, List.setIfInBounds_toArray, List.set_cons_zero, List.set_cons_succ, i64_w, i32_w]
                         rfl
                        refine done_ (done_of HT_.out (by kernel_rfl)) ?_
                        try go_wp2
                        go_roundg kj50
                        case measure => have := HJ3.out; have := HK2.out; have := HJ18.out; have := HJ36.out; have := HK5.out; have := HJ50.out; omega
                        case rel => exact ⟨(wrap64 (x13_5 + 1)), (by first | rfl | (simp; done) | (simp [*]; done)), H', ⟨by have := HJ3.out; have := HK2.out; have := HJ18.out; have := HJ36.out; have := HK5.out; have := HJ50.out; omega⟩, ⟨by (with_reducible repeat (first | apply Kd.R_alloc | apply Kd.R_drewN | apply Kd.R_drew)); exact HO_6.out⟩, ⟨by (with_reducible repeat (first | apply Kd.V_alloc | apply Kd.V_drewN | apply Kd.V_drew)); exact HO_372000.out⟩, ⟨by (with_reducible repeat (first | refine blk_drewN ?_ _ | refine blk_drew ?_ | refine blk_alloc ?_ _)); exact BK371.out⟩, ⟨by repeat (first | (with_reducible first | exact HB.out | apply below_alloc | apply pw_below_drewN | apply below_drew1 | refine below_set ?_ GE371.out) | exact HB.out)⟩⟩
                      ·rw [if_neg c68] at H
                       exact absurd H (by simp)
                     ·rw [if_neg c67] at H
                      exact absurd H (by simp)
                    ·rw [if_neg c66] at H
                     exact absurd H (by simp)
                   ·rw [if_neg c65] at H
                    exact absurd H (by simp)
                 ·replace c54 := Bool.eq_false_iff.mpr c54
                  subst c54
                  have H1 : (if x12_18 = true then (if x11_18 = true then (gaiterlaw17_CursorForth.l0 kj50 l1 t361 t362 (wrap64 (x8_2 + 1)) x372000_18 x372001_18 x372002_18 x372003_18) else (if x372002_18 = (wrap64 (x372002_2 + 1)) then (gaiterlaw17_CursorForth.l0 kj50 l1 t361 t362 (wrap64 (x8_2 + 1)) x372000_18 x372001_18 x372002_18 x372003_18) else (some false))) else (gaiterlaw17_CursorForth.l0 kj50 l1 t361 t362 (wrap64 (x8_2 + 1)) x372000_18 x372001_18 x372002_18 x372003_18)) = some r := by rw [if_neg (show ¬ (false = true) by decide)] at H; exact H
                  clear H
                  have H := H1
                  clear H1
                  by_cases c72 : x12_18 = true
                  ·subst c72
                   have H1 : (if x11_18 = true then (gaiterlaw17_CursorForth.l0 kj50 l1 t361 t362 (wrap64 (x8_2 + 1)) x372000_18 x372001_18 x372002_18 x372003_18) else (if x372002_18 = (wrap64 (x372002_2 + 1)) then (gaiterlaw17_CursorForth.l0 kj50 l1 t361 t362 (wrap64 (x8_2 + 1)) x372000_18 x372001_18 x372002_18 x372003_18) else (some false))) = some r := by rw [if_pos rfl] at H; exact H
                   clear H
                   have H := H1
                   clear H1
                   by_cases c73 : x11_18 = true
                   ·subst c73
                    have H1 : (gaiterlaw17_CursorForth.l0 kj50 l1 t361 t362 (wrap64 (x8_2 + 1)) x372000_18 x372001_18 x372002_18 x372003_18) = some r := by rw [if_pos rfl] at H; exact H
                    clear H
                    have H := H1
                    clear H1
                    have H' := Aside0.mk H
                    clear H
                    go_wp2
                    go_roundg kj50
                    case measure => have := HJ3.out; have := HK2.out; have := HJ18.out; have := HJ36.out; have := HK5.out; have := HJ50.out; omega
                    case rel => exact ⟨(wrap64 (x8_2 + 1)), (x372000_18), (x372001_18), (x372002_18), (x372003_18), (u372000), (by first | rfl | (simp; done) | (simp [*]; done)), H', ⟨by have := HJ3.out; have := HK2.out; have := HJ18.out; have := HJ36.out; have := HK5.out; have := HJ50.out; omega⟩, ⟨by (with_reducible repeat (first | apply Kd.R_alloc | apply Kd.R_drewN | apply Kd.R_drew)); exact HO_6.out⟩, ⟨by (with_reducible repeat (first | apply Kd.V_alloc | apply Kd.V_drewN | apply Kd.V_drew)); exact HO_372000.out⟩, ⟨by (with_reducible repeat (first | refine blk_drewN ?_ _ | refine blk_drew ?_ | refine blk_alloc ?_ _)); exact BK371.out⟩, ⟨by repeat (first | (with_reducible first | exact HB.out | apply below_alloc | apply pw_below_drewN | apply below_drew1 | refine below_set ?_ GE371.out) | exact HB.out)⟩⟩
                   ·replace c73 := Bool.eq_false_iff.mpr c73
                    subst c73
                    have H1 : (if x372002_18 = (wrap64 (x372002_2 + 1)) then (gaiterlaw17_CursorForth.l0 kj50 l1 t361 t362 (wrap64 (x8_2 + 1)) x372000_18 x372001_18 x372002_18 x372003_18) else (some false)) = some r := by rw [if_neg (show ¬ (false = true) by decide)] at H; exact H
                    clear H
                    have H := H1
                    clear H1
                    by_cases c74 : x372002_18 = (wrap64 (x372002_2 + 1))
                    ·rw [if_pos c74] at H
                     have c74b0 : (x372002_18 == (wrap64 (x372002_2 + 1))) = true := beq_iff_eq.mpr c74
                     have c74b1 : (x372002_18 != (wrap64 (x372002_2 + 1))) = false := bne_eq_false_iff_eq.mpr c74
                     clear c74
                     have H' := Aside0.mk H
                     clear H
                     have hcz75_0 : wc.cell? ⟨gb371, 0, none⟩ = some (u372000) := (blk_cell BK371.out 0).trans rfl
                     have hcz75_1 : wc.cell? ⟨gb371, 1, none⟩ = some (errW x372001_18) := (blk_cell BK371.out 1).trans rfl
                     have hcz75_2 : wc.cell? ⟨gb371, 2, none⟩ = some (.int .i64 x372002_18) := (blk_cell BK371.out 2).trans rfl
                     have hcz75_3 : wc.cell? ⟨gb371, 3, none⟩ = some (.bool x372003_18) := (blk_cell BK371.out 3).trans rfl
                     have hfz75_0 := blk_frozen BK371.out 0
                     have hfz75_1 := blk_frozen BK371.out 1
                     have hfz75_2 := blk_frozen BK371.out 2
                     have hfz75_3 := blk_frozen BK371.out 3
                     go_wp2
                     go_roundg kj50
                     case measure => have := HJ3.out; have := HK2.out; have := HJ18.out; have := HJ36.out; have := HK5.out; have := HJ50.out; omega
                     case rel => exact ⟨(wrap64 (x8_2 + 1)), (x372000_18), (x372001_18), (x372002_18), (x372003_18), (u372000), (by first | rfl | (simp; done) | (simp [*]; done)), H', ⟨by have := HJ3.out; have := HK2.out; have := HJ18.out; have := HJ36.out; have := HK5.out; have := HJ50.out; omega⟩, ⟨by (with_reducible repeat (first | apply Kd.R_alloc | apply Kd.R_drewN | apply Kd.R_drew)); exact HO_6.out⟩, ⟨by (with_reducible repeat (first | apply Kd.V_alloc | apply Kd.V_drewN | apply Kd.V_drew)); exact HO_372000.out⟩, ⟨by (with_reducible repeat (first | refine blk_drewN ?_ _ | refine blk_drew ?_ | refine blk_alloc ?_ _)); exact BK371.out⟩, ⟨by repeat (first | (with_reducible first | exact HB.out | apply below_alloc | apply pw_below_drewN | apply below_drew1 | refine below_set ?_ GE371.out) | exact HB.out)⟩⟩
                    ·rw [if_neg c74] at H
                     have c74b0 : (x372002_18 == (wrap64 (x372002_2 + 1))) = false := beq_eq_false_iff_ne.mpr c74
                     have c74b1 : (x372002_18 != (wrap64 (x372002_2 + 1))) = true := bne_iff_ne.mpr c74
                     obtain rfl := Option.some.inj H
                     have hcz76_0 : wc.cell? ⟨gb371, 0, none⟩ = some (u372000) := (blk_cell BK371.out 0).trans rfl
                     have hcz76_1 : wc.cell? ⟨gb371, 1, none⟩ = some (errW x372001_18) := (blk_cell BK371.out 1).trans rfl
                     have hcz76_2 : wc.cell? ⟨gb371, 2, none⟩ = some (.int .i64 x372002_18) := (blk_cell BK371.out 2).trans rfl
                     have hcz76_3 : wc.cell? ⟨gb371, 3, none⟩ = some (.bool x372003_18) := (blk_cell BK371.out 3).trans rfl
                     have hfz76_0 := blk_frozen BK371.out 0
                     have hfz76_1 := blk_frozen BK371.out 1
                     have hfz76_2 := blk_frozen BK371.out 2
                     have hfz76_3 := blk_frozen BK371.out 3
                     go_wp2
                     go_ret
                     exact ⟨by first | rfl | (simp [errW_none, errW_some] <;> rfl) | (simp only [← hji50]; first | rfl | (simp [errW_none, errW_some] <;> rfl)) | (simp [*, errW_none, errW_some] <;> rfl), by repeat (first | (with_reducible first | exact HB.out | apply below_alloc | apply pw_below_drewN | apply below_drew1 | refine below_set ?_ GE371.out) | exact HB.out)⟩
                  ·replace c72 := Bool.eq_false_iff.mpr c72
                   subst c72
                   have H1 : (gaiterlaw17_CursorForth.l0 kj50 l1 t361 t362 (wrap64 (x8_2 + 1)) x372000_18 x372001_18 x372002_18 x372003_18) = some r := by rw [if_neg (show ¬ (false = true) by decide)] at H; exact H
                   clear H
                   have H := H1
                   clear H1
                   have H' := Aside0.mk H
                   clear H
                   go_wp2
                   go_roundg kj50
                   case measure => have := HJ3.out; have := HK2.out; have := HJ18.out; have := HJ36.out; have := HK5.out; have := HJ50.out; omega
                   case rel => exact ⟨(wrap64 (x8_2 + 1)), (x372000_18), (x372001_18), (x372002_18), (x372003_18), (u372000), (by first | rfl | (simp; done) | (simp [*]; done)), H', ⟨by have := HJ3.out; have := HK2.out; have := HJ18.out; have := HJ36.out; have := HK5.out; have := HJ50.out; omega⟩, ⟨by (with_reducible repeat (first | apply Kd.R_alloc | apply Kd.R_drewN | apply Kd.R_drew)); exact HO_6.out⟩, ⟨by (with_reducible repeat (first | apply Kd.V_alloc | apply Kd.V_drewN | apply Kd.V_drew)); exact HO_372000.out⟩, ⟨by (with_reducible repeat (first | refine blk_drewN ?_ _ | refine blk_drew ?_ | refine blk_alloc ?_ _)); exact BK371.out⟩, ⟨by repeat (first | (with_reducible first | exact HB.out | apply below_alloc | apply pw_below_drewN | apply below_drew1 | refine below_set ?_ GE371.out) | exact HB.out)⟩⟩
       ·rw [if_neg c17] at H
        exact absurd H (by simp)
      ·rw [if_neg c16] at H
       have c16b0 : decide (x8_2 < (l1.length : Int)) = false := decide_eq_false c16
       clear c16
       obtain rfl := Option.some.inj H
       go_wp2
       go_ret
       exact ⟨by first | rfl | (simp [errW_none, errW_some] <;> rfl) | (simp [*, errW_none, errW_some] <;> rfl), by repeat (first | (with_reducible first | exact HB.out | apply below_alloc | apply pw_below_drewN | apply below_drew1 | refine below_set ?_ GE371.out) | exact HB.out)⟩

/-- THE ONE PURE STATEMENT of gaiterlaw17_CursorForth: yours. -/
def gaiterlaw17_CursorForth.Pure : Prop := ∀ (l0 : List (S68)) (l1 : List (S54)), l0.length ≤ maxLen → l0.length * 16 ≤ 140737488351232 → (∀ x ∈ l0, (Lit.int .i64 x.f0).wf = true ∧ (Lit.int .u64 x.f1).wf = true) → l1.length ≤ maxLen → l1.length * 16 ≤ 140737488351232 → (∀ x ∈ l1, (Lit.int .i64 x.f0).wf = true ∧ (Lit.int .i64 x.f1).wf = true) → ∃ k, gaiterlaw17_CursorForth.f k l0 l1 = some true
theorem gaiterlaw17_CursorForth.walk (P : gaiterlaw17_CursorForth.Pure) (a0 : Option Addr) (cap0 : Nat) (l0 : List (S68)) (a1 : Option Addr) (cap1 : Nat) (l1 : List (S54)) (w : World) (hr0 : Kd.C k68 w a0 l0.length l0) (hc0 : l0.length ≤ cap0) (hm0 : l0.length ≤ maxLen) (y0 : l0.length * 16 ≤ 140737488351232) (hw0 : ∀ x ∈ l0, (Lit.int .i64 x.f0).wf = true ∧ (Lit.int .u64 x.f1).wf = true) (hr1 : Kd.C k54 w a1 l1.length l1) (hc1 : l1.length ≤ cap1) (hm1 : l1.length ≤ maxLen) (y1 : l1.length * 16 ≤ 140737488351232) (hw1 : ∀ x ∈ l1, (Lit.int .i64 x.f0).wf = true ∧ (Lit.int .i64 x.f1).wf = true) :
  Calls Try.prog 10 #[.slice a0 l0.length cap0, .slice a1 l1.length cap1] w fun e w' => e = .returned (.bool true) ∧ Below w.heap.size w w' := by
 obtain ⟨k, h⟩ := P l0 l1 hm0 y0 hw0 hm1 y1 hw1
 refine (gaiterlaw17_CursorForth.calls k _ _ l0 _ _ l1 true w hr0 hc0 hr1 hc1 h).mono ?_
 rintro e w' ⟨rfl, hd⟩
 exact ⟨rfl, hd⟩

end Go.Proofs.Ytfpcbnkipdjlhaa.All
