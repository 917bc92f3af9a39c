-- written by a program of the session out of the translation; Lean checks it
import Derived.Test.YtfpcbnkipdjlhabAllx0
import Derived.Test.YtfpcbnkipdjlhabAllx4
import Derived.Test.YtfpcbnkipdjlhabAllx5
import Derived.Test.YtfpcbnkipdjlhabAllx6
import Derived.Test.YtfpcbnkipdjlhabAllx7
import Derived.Test.YtfpcbnkipdjlhabAllx10
import Derived.Test.YtfpcbnkipdjlhabAllx11
import Derived.Test.YtfpcbnkipdjlhabIs
import Derived.Test.YtfpcbnkipdjlhabM4
namespace Go.Proofs.Ytfpcbnkipdjlhab.All
open Go.RowKit Go.Proofs.YtfpcbnkipdjlhabW.PrintWords Go.Proofs.YtfpcbnkipdjlhabW.PrintLast Go.Proofs.YtfpcbnkipdjlhabW.PrintMore
attribute [local go_sem] max2_int min2_int max_two min_two max_three min_three max_four min_four   -- for this text's walks alone
set_option linter.unusedVariables false
set_option linter.unusedSimpArgs false

/-! ### gaiterlaw05_DodBack: function 4 -/
mutual
def gaiterlaw05_DodBack.j0 : Nat → List Int → Int → List Int → List Int → Int → Bool → Bool → Option (Bool)
 | 0, _, _, _, _, _, _, _ => none
 | k + 1, x0, x1, x2, x3, x4, x11, x38 => if x38 = true then (some x11) else ((dod_Code.f k x1).bind fun bt255 => (if bt255.2 < 1 then (gaiterlaw05_DodBack.j1 k x0 x1 x2 x3 x4 x11 true bt255.1 bt255.2) else (gaiterlaw05_DodBack.j1 k x0 x1 x2 x3 x4 x11 (decide (bt255.2 > 68)) bt255.1 bt255.2)))
def gaiterlaw05_DodBack.j1 : Nat → List Int → Int → List Int → List Int → Int → Bool → Bool → List Int → Int → Option (Bool)
 | 0, _, _, _, _, _, _, _, _, _ => none
 | k + 1, x0, x1, x2, x3, x4, x11, x49, x260000, x260001 => if x49 = true then (some false) else ((gaiterlaw00_Bits.f k x0).bind fun bt260 => ((bits_Join.f k bt260.1 bt260.2 x260000 x260001).bind fun bt264 => ((gaiterlaw00_Bits.f k x2).bind fun bt268 => ((bits_Join.f k bt264.1 bt264.2 bt268.1 bt268.2).bind fun bt272 => ((dod_Get.f k bt272.1 (x0.length : Int)).bind fun bt277 => (if bt277.1 = x1 then (if bt277.2.1 = x260001 then (if bt277.2.2.isNone = true then (gaiterlaw05_DodBack.j2 k x3 x4 x11 false x260000 x260001) else (gaiterlaw05_DodBack.j2 k x3 x4 x11 true x260000 x260001)) else (gaiterlaw05_DodBack.j2 k x3 x4 x11 true x260000 x260001)) else (gaiterlaw05_DodBack.j2 k x3 x4 x11 true x260000 x260001)))))))
def gaiterlaw05_DodBack.j2 : Nat → List Int → Int → Bool → Bool → List Int → Int → Option (Bool)
 | 0, _, _, _, _, _, _ => none
 | k + 1, x3, x4, x11, x78, x260000, x260001 => if x78 = true then (some false) else ((gaiterlaw00_Pick.f x4 x260001).bind fun t281 => ((bits_Put.f k ([] : List Int) 0 0 (Int.tmod (wrap64 (64 - (Int.tmod t281 8))) 8)).bind fun bt282 => ((bits_Join.f k bt282.1 bt282.2 x260000 x260001).bind fun bt286 => (if 0 ≤ (mn (bt286.1.length : Int) (wrap64 (Int.tdiv (wrap64 ((Int.tmod (wrap64 (64 - (Int.tmod t281 8))) 8) + t281)) 8))) then (if (mn (bt286.1.length : Int) (wrap64 (Int.tdiv (wrap64 ((Int.tmod (wrap64 (64 - (Int.tmod t281 8))) 8) + t281)) 8))) ≤ (bt286.1.length : Int) then ((dod_Get.f k (bt286.1.take ((mn (bt286.1.length : Int) (wrap64 (Int.tdiv (wrap64 ((Int.tmod (wrap64 (64 - (Int.tmod t281 8))) 8) + t281)) 8))) : Int).toNat) (Int.tmod (wrap64 (64 - (Int.tmod t281 8))) 8)).bind fun bt295 => (gaiterlaw05_DodBack.j3 k x3 x11 bt295.2.2)) else (none)) else (none)))))
def gaiterlaw05_DodBack.j3 : Nat → List Int → Bool → Option Int → Option (Bool)
 | 0, _, _, _ => none
 | k + 1, x3, x11, x21 => (gaiterlaw00_Code.f x21).bind fun t298 => (if t298 = 2 then ((dod_Get.f k x3 0).bind fun bt299 => (if bt299.2.2.isNone = true then (if bt299.2.1 < 0 then (gaiterlaw05_DodBack.j4 k x3 x11 bt299.1 bt299.2.1 true) else (gaiterlaw05_DodBack.j4 k x3 x11 bt299.1 bt299.2.1 (decide (bt299.2.1 > (wrap64 (8 * (x3.length : Int))))))) else (some x11))) else (some false))
def gaiterlaw05_DodBack.j4 : Nat → List Int → Bool → Int → Int → Bool → Option (Bool)
 | 0, _, _, _, _, _ => none
 | k + 1, x3, x11, x22, x23, x138 => if x138 = true then (some false) else (if x11 = true then ((dod_Code.f k x22).bind fun bt303 => ((gaiterref01_Flat.f k x3).bind fun t307 => (if 0 ≤ x23 then (if x23 ≤ (t307.length : Int) then ((gaiterlaw00_Is.f k bt303.1 bt303.2 (t307.take (x23 : Int).toNat)).bind fun t314 => (some (t314 == 1))) else (none)) else (none)))) else (some false))
end
def gaiterlaw05_DodBack.f (k : Nat) (l0 : List Int) (a1 : Int) (l2 : List Int) (l3 : List Int) (a4 : Int) : Option (Bool) := (gaiterlaw05_up.f k).bind fun t254 => (if (l0.length : Int) > 300 then (gaiterlaw05_DodBack.j0 k l0 a1 l2 l3 a4 t254 true) else (if (l2.length : Int) > 300 then (gaiterlaw05_DodBack.j0 k l0 a1 l2 l3 a4 t254 true) else (gaiterlaw05_DodBack.j0 k l0 a1 l2 l3 a4 t254 (decide ((l3.length : Int) > 300)))))
theorem gaiterlaw05_DodBack.mono_l : ∀ k, (∀ y0 y1 y2 y3 y4 y5 y6, LeO (gaiterlaw05_DodBack.j0 k y0 y1 y2 y3 y4 y5 y6) (gaiterlaw05_DodBack.j0 (k + 1) y0 y1 y2 y3 y4 y5 y6)) ∧ (∀ y0 y1 y2 y3 y4 y5 y6 y7 y8, LeO (gaiterlaw05_DodBack.j1 k y0 y1 y2 y3 y4 y5 y6 y7 y8) (gaiterlaw05_DodBack.j1 (k + 1) y0 y1 y2 y3 y4 y5 y6 y7 y8)) ∧ (∀ y0 y1 y2 y3 y4 y5, LeO (gaiterlaw05_DodBack.j2 k y0 y1 y2 y3 y4 y5) (gaiterlaw05_DodBack.j2 (k + 1) y0 y1 y2 y3 y4 y5)) ∧ (∀ y0 y1 y2, LeO (gaiterlaw05_DodBack.j3 k y0 y1 y2) (gaiterlaw05_DodBack.j3 (k + 1) y0 y1 y2)) ∧ (∀ y0 y1 y2 y3 y4, LeO (gaiterlaw05_DodBack.j4 k y0 y1 y2 y3 y4) (gaiterlaw05_DodBack.j4 (k + 1) y0 y1 y2 y3 y4))
 | 0 => ⟨fun _ _ _ _ _ _ _ r h => by simp [gaiterlaw05_DodBack.j0] at h, fun _ _ _ _ _ _ _ _ _ r h => by simp [gaiterlaw05_DodBack.j1] at h, fun _ _ _ _ _ _ r h => by simp [gaiterlaw05_DodBack.j2] at h, fun _ _ _ r h => by simp [gaiterlaw05_DodBack.j3] at h, fun _ _ _ _ _ r h => by simp [gaiterlaw05_DodBack.j4] at h⟩
 | k + 1 => by
  obtain ⟨ih0, ih1, ih2, ih3, ih4⟩ := gaiterlaw05_DodBack.mono_l k
  refine ⟨?_, ?_, ?_, ?_, ?_⟩
  ·intro y0 y1 y2 y3 y4 y5 y6
   unfold gaiterlaw05_DodBack.j0
   repeat' first
   | (with_reducible exact ih0 _ _ _ _ _ _ _)
   | (with_reducible exact ih1 _ _ _ _ _ _ _ _ _)
   | (with_reducible exact ih2 _ _ _ _ _ _)
   | (with_reducible exact ih3 _ _ _)
   | (with_reducible exact ih4 _ _ _ _ _)
   | (with_reducible exact bits_Join.mono _ _ _ _ _)
   | (with_reducible exact bits_Put.mono _ _ _ _ _)
   | (with_reducible exact dod_Code.mono _ _)
   | (with_reducible exact dod_Get.mono _ _ _)
   | (with_reducible exact gaiterlaw00_Bits.mono _ _)
   | (with_reducible exact gaiterlaw00_Is.mono _ _ _ _)
   | (with_reducible exact gaiterlaw05_up.mono _)
   | (with_reducible exact gaiterref01_Flat.mono _ _)
   | (with_reducible exact LeO.refl _)
   | (with_reducible exact LeO.none _)
   | (with_reducible refine LeO.ite ?_ ?_)
   | (with_reducible refine LeO.bind ?_ (fun _ => ?_))
   | exact ih0 _ _ _ _ _ _ _
   | exact ih1 _ _ _ _ _ _ _ _ _
   | exact ih2 _ _ _ _ _ _
   | exact ih3 _ _ _
   | exact ih4 _ _ _ _ _
   | exact bits_Join.mono _ _ _ _ _
   | exact bits_Put.mono _ _ _ _ _
   | exact dod_Code.mono _ _
   | exact dod_Get.mono _ _ _
   | exact gaiterlaw00_Bits.mono _ _
   | exact gaiterlaw00_Is.mono _ _ _ _
   | exact gaiterlaw05_up.mono _
   | exact gaiterref01_Flat.mono _ _
   | exact LeO.none _
   | refine LeO.ite ?_ ?_
   | refine LeO.bind ?_ (fun _ => ?_)
  ·intro y0 y1 y2 y3 y4 y5 y6 y7 y8
   unfold gaiterlaw05_DodBack.j1
   repeat' first
   | (with_reducible exact ih0 _ _ _ _ _ _ _)
   | (with_reducible exact ih1 _ _ _ _ _ _ _ _ _)
   | (with_reducible exact ih2 _ _ _ _ _ _)
   | (with_reducible exact ih3 _ _ _)
   | (with_reducible exact ih4 _ _ _ _ _)
   | (with_reducible exact bits_Join.mono _ _ _ _ _)
   | (with_reducible exact bits_Put.mono _ _ _ _ _)
   | (with_reducible exact dod_Code.mono _ _)
   | (with_reducible exact dod_Get.mono _ _ _)
   | (with_reducible exact gaiterlaw00_Bits.mono _ _)
   | (with_reducible exact gaiterlaw00_Is.mono _ _ _ _)
   | (with_reducible exact gaiterlaw05_up.mono _)
   | (with_reducible exact gaiterref01_Flat.mono _ _)
   | (with_reducible exact LeO.refl _)
   | (with_reducible exact LeO.none _)
   | (with_reducible refine LeO.ite ?_ ?_)
   | (with_reducible refine LeO.bind ?_ (fun _ => ?_))
   | exact ih0 _ _ _ _ _ _ _
   | exact ih1 _ _ _ _ _ _ _ _ _
   | exact ih2 _ _ _ _ _ _
   | exact ih3 _ _ _
   | exact ih4 _ _ _ _ _
   | exact bits_Join.mono _ _ _ _ _
   | exact bits_Put.mono _ _ _ _ _
   | exact dod_Code.mono _ _
   | exact dod_Get.mono _ _ _
   | exact gaiterlaw00_Bits.mono _ _
   | exact gaiterlaw00_Is.mono _ _ _ _
   | exact gaiterlaw05_up.mono _
   | exact gaiterref01_Flat.mono _ _
   | exact LeO.none _
   | refine LeO.ite ?_ ?_
   | refine LeO.bind ?_ (fun _ => ?_)
  ·intro y0 y1 y2 y3 y4 y5
   unfold gaiterlaw05_DodBack.j2
   repeat' first
   | (with_reducible exact ih0 _ _ _ _ _ _ _)
   | (with_reducible exact ih1 _ _ _ _ _ _ _ _ _)
   | (with_reducible exact ih2 _ _ _ _ _ _)
   | (with_reducible exact ih3 _ _ _)
   | (with_reducible exact ih4 _ _ _ _ _)
   | (with_reducible exact bits_Join.mono _ _ _ _ _)
   | (with_reducible exact bits_Put.mono _ _ _ _ _)
   | (with_reducible exact dod_Code.mono _ _)
   | (with_reducible exact dod_Get.mono _ _ _)
   | (with_reducible exact gaiterlaw00_Bits.mono _ _)
   | (with_reducible exact gaiterlaw00_Is.mono _ _ _ _)
   | (with_reducible exact gaiterlaw05_up.mono _)
   | (with_reducible exact gaiterref01_Flat.mono _ _)
   | (with_reducible exact LeO.refl _)
   | (with_reducible exact LeO.none _)
   | (with_reducible refine LeO.ite ?_ ?_)
   | (with_reducible refine LeO.bind ?_ (fun _ => ?_))
   | exact ih0 _ _ _ _ _ _ _
   | exact ih1 _ _ _ _ _ _ _ _ _
   | exact ih2 _ _ _ _ _ _
   | exact ih3 _ _ _
   | exact ih4 _ _ _ _ _
   | exact bits_Join.mono _ _ _ _ _
   | exact bits_Put.mono _ _ _ _ _
   | exact dod_Code.mono _ _
   | exact dod_Get.mono _ _ _
   | exact gaiterlaw00_Bits.mono _ _
   | exact gaiterlaw00_Is.mono _ _ _ _
   | exact gaiterlaw05_up.mono _
   | exact gaiterref01_Flat.mono _ _
   | exact LeO.none _
   | refine LeO.ite ?_ ?_
   | refine LeO.bind ?_ (fun _ => ?_)
  ·intro y0 y1 y2
   unfold gaiterlaw05_DodBack.j3
   repeat' first
   | (with_reducible exact ih0 _ _ _ _ _ _ _)
   | (with_reducible exact ih1 _ _ _ _ _ _ _ _ _)
   | (with_reducible exact ih2 _ _ _ _ _ _)
   | (with_reducible exact ih3 _ _ _)
   | (with_reducible exact ih4 _ _ _ _ _)
   | (with_reducible exact bits_Join.mono _ _ _ _ _)
   | (with_reducible exact bits_Put.mono _ _ _ _ _)
   | (with_reducible exact dod_Code.mono _ _)
   | (with_reducible exact dod_Get.mono _ _ _)
   | (with_reducible exact gaiterlaw00_Bits.mono _ _)
   | (with_reducible exact gaiterlaw00_Is.mono _ _ _ _)
   | (with_reducible exact gaiterlaw05_up.mono _)
   | (with_reducible exact gaiterref01_Flat.mono _ _)
   | (with_reducible exact LeO.refl _)
   | (with_reducible exact LeO.none _)
   | (with_reducible refine LeO.ite ?_ ?_)
   | (with_reducible refine LeO.bind ?_ (fun _ => ?_))
   | exact ih0 _ _ _ _ _ _ _
   | exact ih1 _ _ _ _ _ _ _ _ _
   | exact ih2 _ _ _ _ _ _
   | exact ih3 _ _ _
   | exact ih4 _ _ _ _ _
   | exact bits_Join.mono _ _ _ _ _
   | exact bits_Put.mono _ _ _ _ _
   | exact dod_Code.mono _ _
   | exact dod_Get.mono _ _ _
   | exact gaiterlaw00_Bits.mono _ _
   | exact gaiterlaw00_Is.mono _ _ _ _
   | exact gaiterlaw05_up.mono _
   | exact gaiterref01_Flat.mono _ _
   | exact LeO.none _
   | refine LeO.ite ?_ ?_
   | refine LeO.bind ?_ (fun _ => ?_)
  ·intro y0 y1 y2 y3 y4
   unfold gaiterlaw05_DodBack.j4
   repeat' first
   | (with_reducible exact ih0 _ _ _ _ _ _ _)
   | (with_reducible exact ih1 _ _ _ _ _ _ _ _ _)
   | (with_reducible exact ih2 _ _ _ _ _ _)
   | (with_reducible exact ih3 _ _ _)
   | (with_reducible exact ih4 _ _ _ _ _)
   | (with_reducible exact bits_Join.mono _ _ _ _ _)
   | (with_reducible exact bits_Put.mono _ _ _ _ _)
   | (with_reducible exact dod_Code.mono _ _)
   | (with_reducible exact dod_Get.mono _ _ _)
   | (with_reducible exact gaiterlaw00_Bits.mono _ _)
   | (with_reducible exact gaiterlaw00_Is.mono _ _ _ _)
   | (with_reducible exact gaiterlaw05_up.mono _)
   | (with_reducible exact gaiterref01_Flat.mono _ _)
   | (with_reducible exact LeO.refl _)
   | (with_reducible exact LeO.none _)
   | (with_reducible refine LeO.ite ?_ ?_)
   | (with_reducible refine LeO.bind ?_ (fun _ => ?_))
   | exact ih0 _ _ _ _ _ _ _
   | exact ih1 _ _ _ _ _ _ _ _ _
   | exact ih2 _ _ _ _ _ _
   | exact ih3 _ _ _
   | exact ih4 _ _ _ _ _
   | exact bits_Join.mono _ _ _ _ _
   | exact bits_Put.mono _ _ _ _ _
   | exact dod_Code.mono _ _
   | exact dod_Get.mono _ _ _
   | exact gaiterlaw00_Bits.mono _ _
   | exact gaiterlaw00_Is.mono _ _ _ _
   | exact gaiterlaw05_up.mono _
   | exact gaiterref01_Flat.mono _ _
   | exact LeO.none _
   | refine LeO.ite ?_ ?_
   | refine LeO.bind ?_ (fun _ => ?_)
theorem gaiterlaw05_DodBack.mono : ∀ a0 a1 a2 a3 a4 k, LeO (gaiterlaw05_DodBack.f k a0 a1 a2 a3 a4) (gaiterlaw05_DodBack.f (k + 1) a0 a1 a2 a3 a4) := by
 intro a0 a1 a2 a3 a4 k
 obtain ⟨ih0, ih1, ih2, ih3, ih4⟩ := gaiterlaw05_DodBack.mono_l k
 unfold gaiterlaw05_DodBack.f
 repeat' first
   | (with_reducible exact ih0 _ _ _ _ _ _ _)
   | (with_reducible exact ih1 _ _ _ _ _ _ _ _ _)
   | (with_reducible exact ih2 _ _ _ _ _ _)
   | (with_reducible exact ih3 _ _ _)
   | (with_reducible exact ih4 _ _ _ _ _)
   | (with_reducible exact bits_Join.mono _ _ _ _ _)
   | (with_reducible exact bits_Put.mono _ _ _ _ _)
   | (with_reducible exact dod_Code.mono _ _)
   | (with_reducible exact dod_Get.mono _ _ _)
   | (with_reducible exact gaiterlaw00_Bits.mono _ _)
   | (with_reducible exact gaiterlaw00_Is.mono _ _ _ _)
   | (with_reducible exact gaiterlaw05_up.mono _)
   | (with_reducible exact gaiterref01_Flat.mono _ _)
   | (with_reducible exact LeO.refl _)
   | (with_reducible exact LeO.none _)
   | (with_reducible refine LeO.ite ?_ ?_)
   | (with_reducible refine LeO.bind ?_ (fun _ => ?_))
   | exact ih0 _ _ _ _ _ _ _
   | exact ih1 _ _ _ _ _ _ _ _ _
   | exact ih2 _ _ _ _ _ _
   | exact ih3 _ _ _
   | exact ih4 _ _ _ _ _
   | exact bits_Join.mono _ _ _ _ _
   | exact bits_Put.mono _ _ _ _ _
   | exact dod_Code.mono _ _
   | exact dod_Get.mono _ _ _
   | exact gaiterlaw00_Bits.mono _ _
   | exact gaiterlaw00_Is.mono _ _ _ _
   | exact gaiterlaw05_up.mono _
   | exact gaiterref01_Flat.mono _ _
   | exact LeO.none _
   | refine LeO.ite ?_ ?_
   | refine LeO.bind ?_ (fun _ => ?_)
def gaiterlaw05_DodBack.T7 : Bool × List (List Nat × List Nat) := (true, [([], []), ([0], [0]), ([], []), ([1, 2, 1], [1, 2]), ([], []), ([4, 3], [4]), ([3, 5, 5], [3, 5]), ([], []), ([7, 6, 6, 0, 1, 2, 3, 4, 5, 6, 7], [6, 7])])
def gaiterlaw05_DodBack.B7 : List Nat := [0, 1, 0, 7, 0, 31, 63, 0, 255]
theorem gaiterlaw05_DodBack.tab7 : rtab .any (opsOf Try.f4 7) = gaiterlaw05_DodBack.T7 := by kernel_rfl
theorem gaiterlaw05_DodBack.bits7 : waitsOk gaiterlaw05_DodBack.T7.2 gaiterlaw05_DodBack.B7 = true := by kernel_rfl
def gaiterlaw05_DodBack.T12 : Bool × List (List Nat × List Nat) := (true, [([], []), ([], []), ([1], [1]), ([2], [2]), ([3], [3]), ([0, 4], [0, 4]), ([], []), ([6], [6]), ([], []), ([8], [8]), ([7, 9], [7, 9]), ([5, 10, 5], [5, 10]), ([], []), ([12, 11, 11, 0, 1, 2, 3, 4, 5, 6, 7, 8, 9, 10, 11, 12], [11, 12])])
def gaiterlaw05_DodBack.B12 : List Nat := [0, 0, 2, 6, 14, 31, 0, 64, 0, 256, 960, 2047, 0, 8191]
theorem gaiterlaw05_DodBack.tab12 : rtab .any (opsOf Try.f4 12) = gaiterlaw05_DodBack.T12 := by kernel_rfl
theorem gaiterlaw05_DodBack.bits12 : waitsOk gaiterlaw05_DodBack.T12.2 gaiterlaw05_DodBack.B12 = true := by kernel_rfl
set_option maxHeartbeats 8000000 in
set_option maxRecDepth 100000 in
theorem gaiterlaw05_DodBack.calls (k : Nat) (A0 : Option Addr) (c0 : Nat) (l0 : List Int) (a1 : Int) (A2 : Option Addr) (c2 : Nat) (l2 : List Int) (A3 : Option Addr) (c3 : Nat) (l3 : List Int) (a4 : Int) (r : Bool) (w : World) (hr0 : Kd.C (Kd.int .u8) w A0 l0.length l0) (hc0 : l0.length ≤ c0) (hr2 : Kd.C (Kd.int .u8) w A2 l2.length l2) (hc2 : l2.length ≤ c2) (hr3 : Kd.C (Kd.int .u8) w A3 l3.length l3) (hc3 : l3.length ≤ c3) (h : gaiterlaw05_DodBack.f k l0 a1 l2 l3 a4 = some r) :
  Calls Try.prog 4 #[.slice A0 l0.length c0, .int .i64 a1, .slice A2 l2.length c2, .slice A3 l3.length c3, .int .i64 a4] w fun e w' => e = .returned (.bool r) ∧ Below w.heap.size w w' := by
 have hu33 := Try.underlying33
 have hu25 := Try.underlying25
 have hu83 := Try.underlying83
 have HR0 := Aside0.mk hr0
 have HC0 := Aside0.mk hc0
 clear hr0 hc0
 have HR2 := Aside0.mk hr2
 have HC2 := Aside0.mk hc2
 clear hr2 hc2
 have HR3 := Aside0.mk hr3
 have HC3 := Aside0.mk hc3
 clear hr3 hc3
 have HB := Aside0.mk (Below.refl w.heap.size w)
 have H : ((gaiterlaw05_up.f k).bind fun t254 => (if (l0.length : Int) > 300 then (gaiterlaw05_DodBack.j0 k l0 a1 l2 l3 a4 t254 true) else (if (l2.length : Int) > 300 then (gaiterlaw05_DodBack.j0 k l0 a1 l2 l3 a4 t254 true) else (gaiterlaw05_DodBack.j0 k l0 a1 l2 l3 a4 t254 (decide ((l3.length : Int) > 300)))))) = some r := h
 clear h
 replace H := Option.bind_eq_some_iff.mp H
 obtain ⟨t254, A60, H⟩ := H
 replace H : (if (l0.length : Int) > 300 then (gaiterlaw05_DodBack.j0 k l0 a1 l2 l3 a4 t254 true) else (if (l2.length : Int) > 300 then (gaiterlaw05_DodBack.j0 k l0 a1 l2 l3 a4 t254 true) else (gaiterlaw05_DodBack.j0 k l0 a1 l2 l3 a4 t254 (decide ((l3.length : Int) > 300))))) = some r := H
 have A6 := Aside0.mk A60
 clear A60
 have HC7 := Aside0.mk H
 clear H
 go_enter Try.func4, Try.ntmps4
 go_upto_region 2 with (first | ((with_reducible refine gate_callee (f := 10) rfl ?_); refine goesL_ (some 25) rfl rfl Try.func10 (by kernel_rfl) rfl #[] rfl (by (try simp only [List.map_toArray, List.map_cons, List.map_nil]); first | done | rfl | (simp only [List.length_drop, List.length_take]; rfl)) ?_; (with_reducible refine (gaiterlaw05_up.calls k  t254 _ A6.out).mono ?_); rintro e w8 ⟨rfl, hb⟩; refine ⟨_, rfl, ?_⟩; have n0_ := Aside0.mk (below_step (by repeat (first | (with_reducible first | exact HB.out | apply below_alloc | apply pw_below_drewN | apply below_drew1) | exact HB.out)) hb); clear HB; have HB := n0_; clear n0_; (try clear hb); (try clear hb2); (try clear hk); (try clear hi)))
 (try simp only [Act.put, List.setIfInBounds_toArray, List.set_cons_zero, List.set_cons_succ])
 go_cut [38] (fun v38 wc => ∃ (kq : Nat) (x38_6 : Bool), v38 = .bool x38_6 ∧ Aside0 (gaiterlaw05_DodBack.j0 kq l0 a1 l2 l3 a4 t254 x38_6 = some r) ∧ Aside0 (kq ≤ k) ∧ Aside0 (Below w.heap.size w wc))
 case first =>
  have H := HC7.out
  clear HC7
  by_cases c9 : (l0.length : Int) > 300
  ·rw [if_pos c9] at H
   have c9b0 : decide (300 < (l0.length : Int)) = true := decide_eq_true c9
   have c9b1 : decide (300 < l0.length) = true := decide_eq_true (by omega)
   clear c9
   (first | rw [c9b0] | (simp only [i64_w, i32_w]; rw [c9b0]) | skip)
   have H' := Aside0.mk H
   clear H
   go_wp2
   go_meet
   case rel => exact ⟨_, (true), (by first | rfl | (simp; done) | (simp [*]; done)), H', ⟨by first | omega | exact Nat.le_refl _⟩, ⟨by repeat (first | (with_reducible first | exact HB.out | apply below_alloc | apply pw_below_drewN | apply below_drew1) | exact HB.out)⟩⟩
  ·rw [if_neg c9] at H
   have c9b0 : decide (300 < (l0.length : Int)) = false := decide_eq_false c9
   have c9b1 : decide (300 < l0.length) = false := decide_eq_false (by omega)
   clear c9
   (first | rw [c9b0] | (simp only [i64_w, i32_w]; rw [c9b0]) | skip)
   by_cases c10 : (l2.length : Int) > 300
   ·rw [if_pos c10] at H
    have c10b0 : decide (300 < (l2.length : Int)) = true := decide_eq_true c10
    have c10b1 : decide (300 < l2.length) = true := decide_eq_true (by omega)
    clear c10
    have H' := Aside0.mk H
    clear H
    go_wp2
    go_meet
    case rel => exact ⟨_, (true), (by first | rfl | (simp; done) | (simp [*]; done)), H', ⟨by first | omega | exact Nat.le_refl _⟩, ⟨by repeat (first | (with_reducible first | exact HB.out | apply below_alloc | apply pw_below_drewN | apply below_drew1) | exact HB.out)⟩⟩
   ·rw [if_neg c10] at H
    have c10b0 : decide (300 < (l2.length : Int)) = false := decide_eq_false c10
    have c10b1 : decide (300 < l2.length) = false := decide_eq_false (by omega)
    clear c10
    have H' := Aside0.mk H
    clear H
    go_wp2
    go_meet
    case rel => exact ⟨_, (decide ((l3.length : Int) > 300)), (by first | rfl | (simp; done) | (simp [*]; done)), H', ⟨by first | omega | exact Nat.le_refl _⟩, ⟨by repeat (first | (with_reducible first | exact HB.out | apply below_alloc | apply pw_below_drewN | apply below_drew1) | exact HB.out)⟩⟩
 case rest =>
  clear HC7
  try clear c1
  try clear c2
  try clear p2
  try clear c3
  try clear c4
  try clear c9
  try clear c9b0
  try clear c9b1
  try clear c10
  try clear c10b0
  try clear c10b1
  obtain ⟨kq, x38_6, rfl, HA, HJ6, HB⟩ := hcut
  cases kq with
  | zero => exact absurd HA.out (by simp [gaiterlaw05_DodBack.j0])
  | succ kj6 =>
   have H := HA.out
   clear HA
   simp only [gaiterlaw05_DodBack.j0] at H
   by_cases c11 : x38_6 = true
   ·subst c11
    have H1 : (some t254) = some r := by rw [if_pos rfl] at H; exact H
    clear H
    have H := H1
    clear H1
    obtain rfl := Option.some.inj H
    go_wp2
    go_ret
    exact ⟨by first | rfl | (simp [errW_none, errW_some] <;> rfl) | (simp [*, errW_none, errW_some] <;> rfl), by repeat (first | (with_reducible first | exact HB.out | apply below_alloc | apply pw_below_drewN | apply below_drew1) | exact HB.out)⟩
   ·replace c11 := Bool.eq_false_iff.mpr c11
    subst c11
    have H1 : ((dod_Code.f kj6 a1).bind fun bt255 => (if bt255.2 < 1 then (gaiterlaw05_DodBack.j1 kj6 l0 a1 l2 l3 a4 t254 true bt255.1 bt255.2) else (gaiterlaw05_DodBack.j1 kj6 l0 a1 l2 l3 a4 t254 (decide (bt255.2 > 68)) bt255.1 bt255.2))) = some r := by rw [if_neg (show ¬ (false = true) by decide)] at H; exact H
    clear H
    have H := H1
    clear H1
    replace H := Option.bind_eq_some_iff.mp H
    obtain ⟨⟨t255, t258⟩, A120, H⟩ := H
    replace H : (if t258 < 1 then (gaiterlaw05_DodBack.j1 kj6 l0 a1 l2 l3 a4 t254 true t255 t258) else (gaiterlaw05_DodBack.j1 kj6 l0 a1 l2 l3 a4 t254 (decide (t258 > 68)) t255 t258)) = some r := H
    have A12 := Aside0.mk A120
    clear A120
    have HC13 := Aside0.mk H
    clear H
    go_upto_region 5 with (first | ((with_reducible refine gate_callee (f := 15) rfl ?_); refine goesL_ (some 41) rfl rfl Try.func15 (by kernel_rfl) rfl #[.int .i64 a1] rfl (by (try simp only [List.map_toArray, List.map_cons, List.map_nil]); first | done | rfl | (simp only [List.length_drop, List.length_take]; rfl)) ?_; (with_reducible refine (dod_Code.calls kj6 a1 t255 t258 _ A12.out).mono ?_); rintro e w14 ⟨v256, rfl, ho0, hb⟩; refine ⟨_, rfl, ?_⟩; have n0_ := Aside0.mk (Kd.R_lower ho0 (below_size (by repeat (first | (with_reducible first | exact HB.out | apply below_alloc | apply pw_below_drewN | apply below_drew1) | exact HB.out)))); have n1_ := Aside0.mk (below_step (by repeat (first | (with_reducible first | exact HB.out | apply below_alloc | apply pw_below_drewN | apply below_drew1) | exact HB.out)) hb); clear HB; have HO257 := n0_; have HB := n1_; clear n0_ n1_; (try clear hb); (try clear hb2); (try clear hk); (try clear hi); (try clear ho0)) | ((with_reducible refine gate_dst (N := 12) rfl ?_); (try (refine gate_guard (by rfl) ?_; dsimp only)); refine box_event ?hg (N := 12) ?hd (cs := #[.slice none 0 0, .int .i64 0]) (t := 33) ?hr ?_; (case hd => rfl); (case hg => rfl); (case hr => first | (go_simp; done) | (go_simp; rfl)); intro gb259 hg w15 hbox hb; have n0_ := Aside0.mk (Kd.R_below (by (with_reducible repeat (first | apply Kd.R_alloc | apply Kd.R_drewN | apply Kd.R_drew)); exact HO257.out) hb); have n1_ := Aside0.mk (below_step (by repeat (first | (with_reducible first | exact HB.out | apply below_alloc | apply pw_below_drewN | apply below_drew1) | exact HB.out)) hb); have n2_ := Aside0.mk (hbox); have n3_ := Aside0.mk ((by rw [hg]; exact (below_size (by repeat (first | (with_reducible first | exact HB.out | apply below_alloc | apply pw_below_drewN | apply below_drew1) | exact HB.out))) : w.heap.size ≤ gb259)); have n4_ := Aside0.mk ((by rw [hg]; exact (below_size (by repeat (first | (with_reducible first | exact HB.out | apply below_alloc | apply pw_below_drewN | apply below_drew1) | exact HB.out))) : w.heap.size ≤ gb259)); clear HO257; clear HB; have HO257 := n0_; have HB := n1_; have BK259 := n2_; have GW259 := n3_; have GE259 := n4_; clear n0_ n1_ n2_ n3_ n4_; clear hb hbox hg; obtain ⟨Ao16, co16, eo16⟩ := Kd.R_slice HO257.out; subst eo16; have hcz17_0 : w15.cell? ⟨gb259, 0, none⟩ = some (.slice none 0 0) := (blk_cell BK259.out 0).trans rfl; have hcz17_1 : w15.cell? ⟨gb259, 1, none⟩ = some (.int .i64 0) := (blk_cell BK259.out 1).trans rfl; have hfz17_0 := blk_frozen BK259.out 0; have hfz17_1 := blk_frozen BK259.out 1))
    (try simp only [Act.put, List.setIfInBounds_toArray, List.set_cons_zero, List.set_cons_succ])
    go_cut [49] (fun v49 wc => ∃ (kq : Nat) (x49_12 : Bool), v49 = .bool x49_12 ∧ Aside0 (gaiterlaw05_DodBack.j1 kq l0 a1 l2 l3 a4 t254 x49_12 t255 t258 = some r) ∧ Aside0 (kq ≤ kj6) ∧ Aside0 (Kd.R (Kd.int .u8) 5 wc w.heap.size (fun _ => True) (.slice Ao16 t255.length co16) t255) ∧ Aside0 (wc.heap[gb259]? = some (.cells #[(.slice Ao16 t255.length co16), .int .i64 t258] 33 (0, 0))) ∧ Aside0 (Below w.heap.size w wc))
    case first =>
     have H := HC13.out
     clear HC13
     by_cases c18 : t258 < 1
     ·rw [if_pos c18] at H
      have c18b0 : decide (t258 < 1) = true := decide_eq_true c18
      clear c18
      (first | rw [c18b0] | (simp only [i64_w, i32_w]; rw [c18b0]) | skip)
      have H' := Aside0.mk H
      clear H
      have hcz19_0 : w15.cell? ⟨gb259, 0, none⟩ = some (.slice none 0 0) := (blk_cell BK259.out 0).trans rfl
      have hcz19_1 : w15.cell? ⟨gb259, 1, none⟩ = some (.int .i64 0) := (blk_cell BK259.out 1).trans rfl
      have hfz19_0 := blk_frozen BK259.out 0
      have hfz19_1 := blk_frozen BK259.out 1
      go_wp2
      go_meet
      case rel => exact ⟨_, (true), (by first | rfl | (simp; done) | (simp [*]; done)), H', ⟨by have := HJ6.out; first | omega | exact Nat.le_refl _⟩, ⟨by (with_reducible repeat (first | apply Kd.R_alloc | apply Kd.R_drewN | apply Kd.R_drew)); exact Kd.R_mono (Kd.R_far (p := ⟨gb259, 1, none⟩) (Kd.R_far (p := ⟨gb259, 0, none⟩) (Kd.R_types HO257.out BK259.out (by decide)) (fun _ hk => hk.2) (.slice Ao16 t255.length co16)) (fun _ hk => hk.2) (.int .i64 t258)) (fun _ hk => trivial)⟩, ⟨by (with_reducible repeat (first | refine blk_drewN ?_ _ | refine blk_drew ?_ | refine blk_alloc ?_ _)); refine blk_put (cs := #[.slice Ao16 t255.length co16, .int .i64 0]) ?_ 1 _ rfl; (with_reducible repeat (first | refine blk_drewN ?_ _ | refine blk_drew ?_ | refine blk_alloc ?_ _)); refine blk_put (cs := #[.slice none 0 0, .int .i64 0]) ?_ 0 _ rfl; (with_reducible repeat (first | refine blk_drewN ?_ _ | refine blk_drew ?_ | refine blk_alloc ?_ _)); exact BK259.out⟩, ⟨by repeat (first | (with_reducible first | exact HB.out | apply below_alloc | apply pw_below_drewN | apply below_drew1 | refine below_set ?_ GE259.out) | exact HB.out)⟩⟩
     ·rw [if_neg c18] at H
      have c18b0 : decide (t258 < 1) = false := decide_eq_false c18
      clear c18
      (first | rw [c18b0] | (simp only [i64_w, i32_w]; rw [c18b0]) | skip)
      have H' := Aside0.mk H
      clear H
      have hcz20_0 : w15.cell? ⟨gb259, 0, none⟩ = some (.slice none 0 0) := (blk_cell BK259.out 0).trans rfl
      have hcz20_1 : w15.cell? ⟨gb259, 1, none⟩ = some (.int .i64 0) := (blk_cell BK259.out 1).trans rfl
      have hfz20_0 := blk_frozen BK259.out 0
      have hfz20_1 := blk_frozen BK259.out 1
      go_wp2
      go_meet
      case rel => exact ⟨_, (decide (t258 > 68)), (by first | rfl | (simp; done) | (simp [*]; done)), H', ⟨by have := HJ6.out; first | omega | exact Nat.le_refl _⟩, ⟨by (with_reducible repeat (first | apply Kd.R_alloc | apply Kd.R_drewN | apply Kd.R_drew)); exact Kd.R_mono (Kd.R_far (p := ⟨gb259, 1, none⟩) (Kd.R_far (p := ⟨gb259, 0, none⟩) (Kd.R_types HO257.out BK259.out (by decide)) (fun _ hk => hk.2) (.slice Ao16 t255.length co16)) (fun _ hk => hk.2) (.int .i64 t258)) (fun _ hk => trivial)⟩, ⟨by (with_reducible repeat (first | refine blk_drewN ?_ _ | refine blk_drew ?_ | refine blk_alloc ?_ _)); refine blk_put (cs := #[.slice Ao16 t255.length co16, .int .i64 0]) ?_ 1 _ rfl; (with_reducible repeat (first | refine blk_drewN ?_ _ | refine blk_drew ?_ | refine blk_alloc ?_ _)); refine blk_put (cs := #[.slice none 0 0, .int .i64 0]) ?_ 0 _ rfl; (with_reducible repeat (first | refine blk_drewN ?_ _ | refine blk_drew ?_ | refine blk_alloc ?_ _)); exact BK259.out⟩, ⟨by repeat (first | (with_reducible first | exact HB.out | apply below_alloc | apply pw_below_drewN | apply below_drew1 | refine below_set ?_ GE259.out) | exact HB.out)⟩⟩
    case rest =>
     clear HC13
     try clear c1
     try clear c2
     try clear p2
     try clear c3
     try clear c4
     try clear c9
     try clear c9b0
     try clear c9b1
     try clear c10
     try clear c10b0
     try clear c10b1
     try clear c11
     try clear c15
     try clear c18
     try clear c18b0
     try clear hcz17_0
     try clear hcz17_1
     try clear hcz19_0
     try clear hcz19_1
     try clear hcz20_0
     try clear hcz20_1
     try clear hfz17_0
     try clear hfz17_1
     try clear hfz19_0
     try clear hfz19_1
     try clear hfz20_0
     try clear hfz20_1
     try clear p2
     obtain ⟨kq, x49_12, rfl, HA, HJ12, HO_260000, BK259, HB⟩ := hcut
     cases kq with
     | zero => exact absurd HA.out (by simp [gaiterlaw05_DodBack.j1])
     | succ kj12 =>
      have H := HA.out
      clear HA
      simp only [gaiterlaw05_DodBack.j1] at H
      by_cases c21 : x49_12 = true
      ·subst c21
       have H1 : (some false) = some r := by rw [if_pos rfl] at H; exact H
       clear H
       have H := H1
       clear H1
       obtain rfl := Option.some.inj H
       go_wp2
       go_ret
       exact ⟨by first | rfl | (simp [errW_none, errW_some] <;> rfl) | (simp [*, errW_none, errW_some] <;> rfl), by repeat (first | (with_reducible first | exact HB.out | apply below_alloc | apply pw_below_drewN | apply below_drew1 | refine below_set ?_ GE259.out) | exact HB.out)⟩
      ·replace c21 := Bool.eq_false_iff.mpr c21
       subst c21
       have H1 : ((gaiterlaw00_Bits.f kj12 l0).bind fun bt260 => ((bits_Join.f kj12 bt260.1 bt260.2 t255 t258).bind fun bt264 => ((gaiterlaw00_Bits.f kj12 l2).bind fun bt268 => ((bits_Join.f kj12 bt264.1 bt264.2 bt268.1 bt268.2).bind fun bt272 => ((dod_Get.f kj12 bt272.1 (l0.length : Int)).bind fun bt277 => (if bt277.1 = a1 then (if bt277.2.1 = t258 then (if bt277.2.2.isNone = true then (gaiterlaw05_DodBack.j2 kj12 l3 a4 t254 false t255 t258) else (gaiterlaw05_DodBack.j2 kj12 l3 a4 t254 true t255 t258)) else (gaiterlaw05_DodBack.j2 kj12 l3 a4 t254 true t255 t258)) else (gaiterlaw05_DodBack.j2 kj12 l3 a4 t254 true t255 t258))))))) = some r := by rw [if_neg (show ¬ (false = true) by decide)] at H; exact H
       clear H
       have H := H1
       clear H1
       replace H := Option.bind_eq_some_iff.mp H
       obtain ⟨⟨t260, t263⟩, A220, H⟩ := H
       replace H : ((bits_Join.f kj12 t260 t263 t255 t258).bind fun bt264 => ((gaiterlaw00_Bits.f kj12 l2).bind fun bt268 => ((bits_Join.f kj12 bt264.1 bt264.2 bt268.1 bt268.2).bind fun bt272 => ((dod_Get.f kj12 bt272.1 (l0.length : Int)).bind fun bt277 => (if bt277.1 = a1 then (if bt277.2.1 = t258 then (if bt277.2.2.isNone = true then (gaiterlaw05_DodBack.j2 kj12 l3 a4 t254 false t255 t258) else (gaiterlaw05_DodBack.j2 kj12 l3 a4 t254 true t255 t258)) else (gaiterlaw05_DodBack.j2 kj12 l3 a4 t254 true t255 t258)) else (gaiterlaw05_DodBack.j2 kj12 l3 a4 t254 true t255 t258)))))) = some r := H
       have A22 := Aside0.mk A220
       clear A220
       replace H := Option.bind_eq_some_iff.mp H
       obtain ⟨⟨t264, t267⟩, A230, H⟩ := H
       replace H : ((gaiterlaw00_Bits.f kj12 l2).bind fun bt268 => ((bits_Join.f kj12 t264 t267 bt268.1 bt268.2).bind fun bt272 => ((dod_Get.f kj12 bt272.1 (l0.length : Int)).bind fun bt277 => (if bt277.1 = a1 then (if bt277.2.1 = t258 then (if bt277.2.2.isNone = true then (gaiterlaw05_DodBack.j2 kj12 l3 a4 t254 false t255 t258) else (gaiterlaw05_DodBack.j2 kj12 l3 a4 t254 true t255 t258)) else (gaiterlaw05_DodBack.j2 kj12 l3 a4 t254 true t255 t258)) else (gaiterlaw05_DodBack.j2 kj12 l3 a4 t254 true t255 t258))))) = some r := H
       have A23 := Aside0.mk A230
       clear A230
       replace H := Option.bind_eq_some_iff.mp H
       obtain ⟨⟨t268, t271⟩, A240, H⟩ := H
       replace H : ((bits_Join.f kj12 t264 t267 t268 t271).bind fun bt272 => ((dod_Get.f kj12 bt272.1 (l0.length : Int)).bind fun bt277 => (if bt277.1 = a1 then (if bt277.2.1 = t258 then (if bt277.2.2.isNone = true then (gaiterlaw05_DodBack.j2 kj12 l3 a4 t254 false t255 t258) else (gaiterlaw05_DodBack.j2 kj12 l3 a4 t254 true t255 t258)) else (gaiterlaw05_DodBack.j2 kj12 l3 a4 t254 true t255 t258)) else (gaiterlaw05_DodBack.j2 kj12 l3 a4 t254 true t255 t258)))) = some r := H
       have A24 := Aside0.mk A240
       clear A240
       replace H := Option.bind_eq_some_iff.mp H
       obtain ⟨⟨t272, t275⟩, A250, H⟩ := H
       replace H : ((dod_Get.f kj12 t272 (l0.length : Int)).bind fun bt277 => (if bt277.1 = a1 then (if bt277.2.1 = t258 then (if bt277.2.2.isNone = true then (gaiterlaw05_DodBack.j2 kj12 l3 a4 t254 false t255 t258) else (gaiterlaw05_DodBack.j2 kj12 l3 a4 t254 true t255 t258)) else (gaiterlaw05_DodBack.j2 kj12 l3 a4 t254 true t255 t258)) else (gaiterlaw05_DodBack.j2 kj12 l3 a4 t254 true t255 t258))) = some r := H
       have A25 := Aside0.mk A250
       clear A250
       replace H := Option.bind_eq_some_iff.mp H
       obtain ⟨⟨t277, t278, t279⟩, A260, H⟩ := H
       replace H : (if t277 = a1 then (if t278 = t258 then (if t279.isNone = true then (gaiterlaw05_DodBack.j2 kj12 l3 a4 t254 false t255 t258) else (gaiterlaw05_DodBack.j2 kj12 l3 a4 t254 true t255 t258)) else (gaiterlaw05_DodBack.j2 kj12 l3 a4 t254 true t255 t258)) else (gaiterlaw05_DodBack.j2 kj12 l3 a4 t254 true t255 t258)) = some r := H
       have A26 := Aside0.mk A260
       clear A260
       have HC27 := Aside0.mk H
       clear H
       try go_wp2
       have n0_ := Aside0.mk (Kd.R_drew HO_260000.out)
       have n1_ := Aside0.mk (blk_drew BK259.out)
       have n2_ := Aside0.mk (below_drew1 HB.out)
       clear HO_260000
       clear BK259
       clear HB
       have HO_260000 := n0_
       have BK259 := n1_
       have HB := n2_
       clear n0_ n1_ n2_
       refine start_ (n := 9) (S := fun w' => w'.cell? ⟨gb259, 0, none⟩ = some (.slice Ao16 t255.length co16) ∧ w'.cell? ⟨gb259, 1, none⟩ = some (.int .i64 t258)) (ds := []) #[false, false, false, false, false, false, false, false, false] (by kernel_rfl) rfl rfl ⟨(blk_cell BK259.out 0).trans rfl, (blk_cell BK259.out 1).trans rfl⟩ (fun hHeld => ?_); refine with_tabW gaiterlaw05_DodBack.tab7 gaiterlaw05_DodBack.bits7 (fun HT_ HW_ => ?_)
       generalize wc.drew = w28 at HO_260000 BK259 HB hHeld ⊢
       refine pure_ (i := 0) (N := some 50) (v := ?_) (a' := ?_) #[true, false, false, false, false, false, false, false, false] rfl rfl (any_of HT_.out (by kernel_rfl)) (fun _ _ _ h => h) (Or.inl ⟨by rfl, ?_⟩) ?_ ?_
       rotate_left
       ·intro w'
        go_simp
        with_reducible rfl
       rotate_left
       ·simp only [Act.put, List.setIfInBounds_toArray, List.set_cons_zero, List.set_cons_succ, i64_w, i32_w]
        rfl
       refine pure_ (i := 4) (N := some 54) (v := ?_) (a' := ?_) #[true, false, false, false, true, false, false, false, false] rfl rfl (any_of HT_.out (by kernel_rfl)) (fun _ _ _ h => h) (Or.inl ⟨by rfl, ?_⟩) ?_ ?_
       rotate_left
       ·intro w'
        go_simp
        with_reducible rfl
       rotate_left
       ·simp only [Act.put, List.setIfInBounds_toArray, List.set_cons_zero, List.set_cons_succ, i64_w, i32_w]
        rfl
       refine take_ (i := 2) (N := some 52) (v := ?_) (a' := ?_) #[true, false, true, false, true, false, false, false, false] rfl rfl (take_ofW HT_.out HW_.out (by kernel_rfl)) (fun _ _ _ h => h) (Or.inl ⟨by rfl, ?_⟩) hHeld ?_ ?_
       rotate_left
       ·rintro w' ⟨s0, s1⟩
        go_simp
        with_reducible rfl
       rotate_left
       ·simp only [Act.put, List.setIfInBounds_toArray, List.set_cons_zero, List.set_cons_succ, i64_w, i32_w]
        rfl
       refine join_ (σ := Value × Value × Value × Value × Nat) 1 #[true, true, true, true, true, true, true, true, false] (fun s_ => [(51, .agg #[s_.1, .int .i64 t263]), (53, .agg #[s_.2.1, .int .i64 t267]), (55, .agg #[s_.2.2.1, .int .i64 t271]), (56, .agg #[s_.2.2.2.1, .int .i64 t275]), (13, .pointer (some ⟨s_.2.2.2.2, 0, none⟩))]) (fun s_ w' => (w'.cell? ⟨gb259, 0, none⟩ = some (.slice Ao16 t255.length co16) ∧ w'.cell? ⟨gb259, 1, none⟩ = some (.int .i64 t258)) ∧ (Kd.R (Kd.int .u8) 5 w' w.heap.size (fun k_ => some k_ ≠ (s_.2.1 : Value).ownBlock ∧ some k_ ≠ (s_.2.2.1 : Value).ownBlock ∧ some k_ ≠ (s_.2.2.2.1 : Value).ownBlock ∧ some k_ ≠ (.slice Ao16 t255.length co16 : Value).ownBlock) s_.1 t260) ∧ (Kd.R (Kd.int .u8) 5 w' w.heap.size (fun k_ => some k_ ≠ (s_.1 : Value).ownBlock ∧ some k_ ≠ (s_.2.2.1 : Value).ownBlock ∧ some k_ ≠ (s_.2.2.2.1 : Value).ownBlock ∧ some k_ ≠ (.slice Ao16 t255.length co16 : Value).ownBlock) s_.2.1 t264) ∧ (Kd.R (Kd.int .u8) 5 w' w.heap.size (fun k_ => some k_ ≠ (s_.1 : Value).ownBlock ∧ some k_ ≠ (s_.2.1 : Value).ownBlock ∧ some k_ ≠ (s_.2.2.2.1 : Value).ownBlock ∧ some k_ ≠ (.slice Ao16 t255.length co16 : Value).ownBlock) s_.2.2.1 t268) ∧ (Kd.R (Kd.int .u8) 5 w' w.heap.size (fun k_ => some k_ ≠ (s_.1 : Value).ownBlock ∧ some k_ ≠ (s_.2.1 : Value).ownBlock ∧ some k_ ≠ (s_.2.2.1 : Value).ownBlock ∧ some k_ ≠ (.slice Ao16 t255.length co16 : Value).ownBlock) s_.2.2.2.1 t272) ∧ (Kd.R (Kd.int .u8) 5 w' w.heap.size (fun k_ => some k_ ≠ (s_.1 : Value).ownBlock ∧ some k_ ≠ (s_.2.1 : Value).ownBlock ∧ some k_ ≠ (s_.2.2.1 : Value).ownBlock ∧ some k_ ≠ (s_.2.2.2.1 : Value).ownBlock) (.slice Ao16 t255.length co16) t255) ∧ (w'.heap[gb259]? = some (.cells #[.slice Ao16 t255.length co16, .int .i64 t258] 33 (0, 0))) ∧ (w'.heap[s_.2.2.2.2]? = some (.cells #[.slice none 0 0, .int .i64 0] 33 (0, 0))) ∧ (w.heap.size ≤ s_.2.2.2.2) ∧ (w.heap.size ≤ s_.2.2.2.2) ∧ (gb259 ≠ s_.2.2.2.2) ∧ (s_.2.2.2.2 ≠ gb259) ∧ (Below w.heap.size w w')) ?_ ?_
       rotate_left
       ·intro hJ1_3_5_6_7
        refine join_ (σ := Value × Value × Value × Value) 2 #[true, true, true, true, true, true, true, false, false] (fun s_ => [(51, .agg #[s_.1, .int .i64 t263]), (53, .agg #[s_.2.1, .int .i64 t267]), (55, .agg #[s_.2.2.1, .int .i64 t271]), (56, .agg #[s_.2.2.2, .int .i64 t275])]) (fun s_ w' => (w'.cell? ⟨gb259, 0, none⟩ = some (.slice Ao16 t255.length co16) ∧ w'.cell? ⟨gb259, 1, none⟩ = some (.int .i64 t258)) ∧ (Kd.R (Kd.int .u8) 5 w' w.heap.size (fun k_ => some k_ ≠ (s_.2.1 : Value).ownBlock ∧ some k_ ≠ (s_.2.2.1 : Value).ownBlock ∧ some k_ ≠ (s_.2.2.2 : Value).ownBlock ∧ some k_ ≠ (.slice Ao16 t255.length co16 : Value).ownBlock) s_.1 t260) ∧ (Kd.R (Kd.int .u8) 5 w' w.heap.size (fun k_ => some k_ ≠ (s_.1 : Value).ownBlock ∧ some k_ ≠ (s_.2.2.1 : Value).ownBlock ∧ some k_ ≠ (s_.2.2.2 : Value).ownBlock ∧ some k_ ≠ (.slice Ao16 t255.length co16 : Value).ownBlock) s_.2.1 t264) ∧ (Kd.R (Kd.int .u8) 5 w' w.heap.size (fun k_ => some k_ ≠ (s_.1 : Value).ownBlock ∧ some k_ ≠ (s_.2.1 : Value).ownBlock ∧ some k_ ≠ (s_.2.2.2 : Value).ownBlock ∧ some k_ ≠ (.slice Ao16 t255.length co16 : Value).ownBlock) s_.2.2.1 t268) ∧ (Kd.R (Kd.int .u8) 5 w' w.heap.size (fun k_ => some k_ ≠ (s_.1 : Value).ownBlock ∧ some k_ ≠ (s_.2.1 : Value).ownBlock ∧ some k_ ≠ (s_.2.2.1 : Value).ownBlock ∧ some k_ ≠ (.slice Ao16 t255.length co16 : Value).ownBlock) s_.2.2.2 t272) ∧ (Kd.R (Kd.int .u8) 5 w' w.heap.size (fun k_ => some k_ ≠ (s_.1 : Value).ownBlock ∧ some k_ ≠ (s_.2.1 : Value).ownBlock ∧ some k_ ≠ (s_.2.2.1 : Value).ownBlock ∧ some k_ ≠ (s_.2.2.2 : Value).ownBlock) (.slice Ao16 t255.length co16) t255) ∧ (w'.heap[gb259]? = some (.cells #[.slice Ao16 t255.length co16, .int .i64 t258] 33 (0, 0))) ∧ (Below w.heap.size w w')) ?_ ?_
        rotate_left
        ·intro hJ1_3_5_6
         refine join_ (σ := Value × Value × Value × Nat) 2 #[true, true, true, true, true, true, false, true, false] (fun s_ => [(51, .agg #[s_.1, .int .i64 t263]), (53, .agg #[s_.2.1, .int .i64 t267]), (55, .agg #[s_.2.2.1, .int .i64 t271]), (13, .pointer (some ⟨s_.2.2.2, 0, none⟩))]) (fun s_ w' => (w'.cell? ⟨gb259, 0, none⟩ = some (.slice Ao16 t255.length co16) ∧ w'.cell? ⟨gb259, 1, none⟩ = some (.int .i64 t258)) ∧ (Kd.R (Kd.int .u8) 5 w' w.heap.size (fun k_ => some k_ ≠ (s_.2.1 : Value).ownBlock ∧ some k_ ≠ (s_.2.2.1 : Value).ownBlock ∧ some k_ ≠ (.slice Ao16 t255.length co16 : Value).ownBlock) s_.1 t260) ∧ (Kd.R (Kd.int .u8) 5 w' w.heap.size (fun k_ => some k_ ≠ (s_.1 : Value).ownBlock ∧ some k_ ≠ (s_.2.2.1 : Value).ownBlock ∧ some k_ ≠ (.slice Ao16 t255.length co16 : Value).ownBlock) s_.2.1 t264) ∧ (Kd.R (Kd.int .u8) 5 w' w.heap.size (fun k_ => some k_ ≠ (s_.1 : Value).ownBlock ∧ some k_ ≠ (s_.2.1 : Value).ownBlock ∧ some k_ ≠ (.slice Ao16 t255.length co16 : Value).ownBlock) s_.2.2.1 t268) ∧ (Kd.R (Kd.int .u8) 5 w' w.heap.size (fun k_ => some k_ ≠ (s_.1 : Value).ownBlock ∧ some k_ ≠ (s_.2.1 : Value).ownBlock ∧ some k_ ≠ (s_.2.2.1 : Value).ownBlock) (.slice Ao16 t255.length co16) t255) ∧ (w'.heap[gb259]? = some (.cells #[.slice Ao16 t255.length co16, .int .i64 t258] 33 (0, 0))) ∧ (w'.heap[s_.2.2.2]? = some (.cells #[.slice none 0 0, .int .i64 0] 33 (0, 0))) ∧ (w.heap.size ≤ s_.2.2.2) ∧ (w.heap.size ≤ s_.2.2.2) ∧ (gb259 ≠ s_.2.2.2) ∧ (s_.2.2.2 ≠ gb259) ∧ (Below w.heap.size w w')) ?_ ?_
         rotate_left
         ·intro hJ1_3_5_7
          refine join_ (σ := Value × Value × Value) 3 #[true, true, true, true, true, true, false, false, false] (fun s_ => [(51, .agg #[s_.1, .int .i64 t263]), (53, .agg #[s_.2.1, .int .i64 t267]), (55, .agg #[s_.2.2, .int .i64 t271])]) (fun s_ w' => (w'.cell? ⟨gb259, 0, none⟩ = some (.slice Ao16 t255.length co16) ∧ w'.cell? ⟨gb259, 1, none⟩ = some (.int .i64 t258)) ∧ (Kd.R (Kd.int .u8) 5 w' w.heap.size (fun k_ => some k_ ≠ (s_.2.1 : Value).ownBlock ∧ some k_ ≠ (s_.2.2 : Value).ownBlock ∧ some k_ ≠ (.slice Ao16 t255.length co16 : Value).ownBlock) s_.1 t260) ∧ (Kd.R (Kd.int .u8) 5 w' w.heap.size (fun k_ => some k_ ≠ (s_.1 : Value).ownBlock ∧ some k_ ≠ (s_.2.2 : Value).ownBlock ∧ some k_ ≠ (.slice Ao16 t255.length co16 : Value).ownBlock) s_.2.1 t264) ∧ (Kd.R (Kd.int .u8) 5 w' w.heap.size (fun k_ => some k_ ≠ (s_.1 : Value).ownBlock ∧ some k_ ≠ (s_.2.1 : Value).ownBlock ∧ some k_ ≠ (.slice Ao16 t255.length co16 : Value).ownBlock) s_.2.2 t268) ∧ (Kd.R (Kd.int .u8) 5 w' w.heap.size (fun k_ => some k_ ≠ (s_.1 : Value).ownBlock ∧ some k_ ≠ (s_.2.1 : Value).ownBlock ∧ some k_ ≠ (s_.2.2 : Value).ownBlock) (.slice Ao16 t255.length co16) t255) ∧ (w'.heap[gb259]? = some (.cells #[.slice Ao16 t255.length co16, .int .i64 t258] 33 (0, 0))) ∧ (Below w.heap.size w w')) ?_ ?_
          rotate_left
          ·intro hJ1_3_5
           refine join_ (σ := Value × Value × Nat) 3 #[true, true, true, true, true, false, false, true, false] (fun s_ => [(51, .agg #[s_.1, .int .i64 t263]), (53, .agg #[s_.2.1, .int .i64 t267]), (13, .pointer (some ⟨s_.2.2, 0, none⟩))]) (fun s_ w' => (w'.cell? ⟨gb259, 0, none⟩ = some (.slice Ao16 t255.length co16) ∧ w'.cell? ⟨gb259, 1, none⟩ = some (.int .i64 t258)) ∧ (Kd.R (Kd.int .u8) 5 w' w.heap.size (fun k_ => some k_ ≠ (s_.2.1 : Value).ownBlock ∧ some k_ ≠ (.slice Ao16 t255.length co16 : Value).ownBlock) s_.1 t260) ∧ (Kd.R (Kd.int .u8) 5 w' w.heap.size (fun k_ => some k_ ≠ (s_.1 : Value).ownBlock ∧ some k_ ≠ (.slice Ao16 t255.length co16 : Value).ownBlock) s_.2.1 t264) ∧ (Kd.R (Kd.int .u8) 5 w' w.heap.size (fun k_ => some k_ ≠ (s_.1 : Value).ownBlock ∧ some k_ ≠ (s_.2.1 : Value).ownBlock) (.slice Ao16 t255.length co16) t255) ∧ (w'.heap[gb259]? = some (.cells #[.slice Ao16 t255.length co16, .int .i64 t258] 33 (0, 0))) ∧ (w'.heap[s_.2.2]? = some (.cells #[.slice none 0 0, .int .i64 0] 33 (0, 0))) ∧ (w.heap.size ≤ s_.2.2) ∧ (w.heap.size ≤ s_.2.2) ∧ (gb259 ≠ s_.2.2) ∧ (s_.2.2 ≠ gb259) ∧ (Below w.heap.size w w')) ?_ ?_
           rotate_left
           ·intro hJ1_3_7
            refine join_ (σ := Value × Value) 4 #[true, true, true, true, true, false, false, false, false] (fun s_ => [(51, .agg #[s_.1, .int .i64 t263]), (53, .agg #[s_.2, .int .i64 t267])]) (fun s_ w' => (w'.cell? ⟨gb259, 0, none⟩ = some (.slice Ao16 t255.length co16) ∧ w'.cell? ⟨gb259, 1, none⟩ = some (.int .i64 t258)) ∧ (Kd.R (Kd.int .u8) 5 w' w.heap.size (fun k_ => some k_ ≠ (s_.2 : Value).ownBlock ∧ some k_ ≠ (.slice Ao16 t255.length co16 : Value).ownBlock) s_.1 t260) ∧ (Kd.R (Kd.int .u8) 5 w' w.heap.size (fun k_ => some k_ ≠ (s_.1 : Value).ownBlock ∧ some k_ ≠ (.slice Ao16 t255.length co16 : Value).ownBlock) s_.2 t264) ∧ (Kd.R (Kd.int .u8) 5 w' w.heap.size (fun k_ => some k_ ≠ (s_.1 : Value).ownBlock ∧ some k_ ≠ (s_.2 : Value).ownBlock) (.slice Ao16 t255.length co16) t255) ∧ (w'.heap[gb259]? = some (.cells #[.slice Ao16 t255.length co16, .int .i64 t258] 33 (0, 0))) ∧ (Below w.heap.size w w')) ?_ ?_
            rotate_left
            ·intro hJ1_3
             refine join_ (σ := Value × Nat) 4 #[true, true, true, false, true, false, false, true, false] (fun s_ => [(51, .agg #[s_.1, .int .i64 t263]), (13, .pointer (some ⟨s_.2, 0, none⟩))]) (fun s_ w' => (w'.cell? ⟨gb259, 0, none⟩ = some (.slice Ao16 t255.length co16) ∧ w'.cell? ⟨gb259, 1, none⟩ = some (.int .i64 t258)) ∧ (Kd.R (Kd.int .u8) 5 w' w.heap.size (fun k_ => some k_ ≠ (.slice Ao16 t255.length co16 : Value).ownBlock) s_.1 t260) ∧ (Kd.R (Kd.int .u8) 5 w' w.heap.size (fun k_ => some k_ ≠ (s_.1 : Value).ownBlock) (.slice Ao16 t255.length co16) t255) ∧ (w'.heap[gb259]? = some (.cells #[.slice Ao16 t255.length co16, .int .i64 t258] 33 (0, 0))) ∧ (w'.heap[s_.2]? = some (.cells #[.slice none 0 0, .int .i64 0] 33 (0, 0))) ∧ (w.heap.size ≤ s_.2) ∧ (w.heap.size ≤ s_.2) ∧ (gb259 ≠ s_.2) ∧ (s_.2 ≠ gb259) ∧ (Below w.heap.size w w')) ?_ ?_
             rotate_left
             ·intro hJ1_7
              refine join_ (σ := Value) 5 #[true, true, true, false, true, false, false, false, false] (fun s_ => [(51, .agg #[s_, .int .i64 t263])]) (fun s_ w' => (w'.cell? ⟨gb259, 0, none⟩ = some (.slice Ao16 t255.length co16) ∧ w'.cell? ⟨gb259, 1, none⟩ = some (.int .i64 t258)) ∧ (Kd.R (Kd.int .u8) 5 w' w.heap.size (fun k_ => some k_ ≠ (.slice Ao16 t255.length co16 : Value).ownBlock) s_ t260) ∧ (Kd.R (Kd.int .u8) 5 w' w.heap.size (fun k_ => some k_ ≠ (s_ : Value).ownBlock) (.slice Ao16 t255.length co16) t255) ∧ (w'.heap[gb259]? = some (.cells #[.slice Ao16 t255.length co16, .int .i64 t258] 33 (0, 0))) ∧ (Below w.heap.size w w')) ?_ ?_
              rotate_left
              ·intro hJ1
               refine join_ (σ := Nat) 5 #[true, false, true, false, true, false, false, true, false] (fun s_ => [(13, .pointer (some ⟨s_, 0, none⟩))]) (fun s_ w' => (w'.cell? ⟨gb259, 0, none⟩ = some (.slice Ao16 t255.length co16) ∧ w'.cell? ⟨gb259, 1, none⟩ = some (.int .i64 t258)) ∧ (Kd.R (Kd.int .u8) 5 w' w.heap.size (fun _ => True) (.slice Ao16 t255.length co16) t255) ∧ (w'.heap[gb259]? = some (.cells #[.slice Ao16 t255.length co16, .int .i64 t258] 33 (0, 0))) ∧ (w'.heap[s_]? = some (.cells #[.slice none 0 0, .int .i64 0] 33 (0, 0))) ∧ (w.heap.size ≤ s_) ∧ (w.heap.size ≤ s_) ∧ (gb259 ≠ s_) ∧ (s_ ≠ gb259) ∧ (Below w.heap.size w w')) ?_ ?_
               rotate_left
               ·intro hJ7
                refine two_ (i := 1) (j := 7) (Ni := some 51) (Nj := some 13) #[true, true, true, false, true, false, false, false, false] #[true, false, true, false, true, false, false, true, false] rfl rfl rfl rfl (two_of HT_.out (by kernel_rfl)) (by decide) (by decide) (fun K hK => ?_) (fun K hK => ?_)
                ·skip
                 refine goes_ Try.func19 (by kernel_rfl) rfl #[.slice A0 l0.length c0] (by rfl) rfl rfl (by (try simp only [List.map_toArray, List.map_cons, List.map_nil]); first | done | rfl | (simp only [List.length_drop, List.length_take]; rfl)) ?_
                 with_reducible refine (gaiterlaw00_Bits.calls kj12 _ _ l0 t260 t263 _ ?side1 ?side2 A22.out).mono ?_
                 (case side1 => repeat (first | exact (Kd.C_below HR0.out HB.out) | (with_reducible refine Kd.C_alloc ?_ _) | (with_reducible refine Kd.C_drewN ?_ _) | (with_reducible refine Kd.C_drew ?_)))
                 (case side2 => exact HC0.out)
                 rintro e w29 ⟨v261, rfl, ho0, hb⟩
                 refine ⟨_, rfl, ?_⟩
                 have n0_ := Aside0.mk (Kd.R_elder' (by (with_reducible repeat (first | apply Kd.R_alloc | apply Kd.R_drewN | apply Kd.R_drew)); exact HO_260000.out) (Kd.R_base ho0) hb)
                 have n1_ := Aside0.mk (Kd.R_lower (Kd.R_new' ho0 (Kd.R_lt (by (with_reducible repeat (first | apply Kd.R_alloc | apply Kd.R_drewN | apply Kd.R_drew)); exact HO_260000.out))) (below_size (by repeat (first | (with_reducible first | exact HB.out | apply below_alloc | apply pw_below_drewN | apply below_drew1 | refine below_set ?_ GE259.out) | exact HB.out))))
                 have n2_ := Aside0.mk (blk_below (g := gb259) (o := .cells #[.slice Ao16 t255.length co16, .int .i64 t258] 33 (0, 0)) (by (with_reducible repeat (first | refine blk_drewN ?_ _ | refine blk_drew ?_ | refine blk_alloc ?_ _)); exact BK259.out) hb)
                 have n3_ := Aside0.mk (below_step (by repeat (first | (with_reducible first | exact HB.out | apply below_alloc | apply pw_below_drewN | apply below_drew1 | refine below_set ?_ GE259.out) | exact HB.out)) hb)
                 clear HO_260000
                 clear BK259
                 clear HB
                 have HO_260000 := n0_
                 have HO262 := n1_
                 have BK259 := n2_
                 have HB := n3_
                 clear n0_ n1_ n2_ n3_
                 (try clear hb)
                 (try clear hb2)
                 (try clear hk)
                 (try clear hi)
                 (try clear ho0)
                 refine hK.out _ _ ⟨(blk_cell BK259.out 0).trans rfl, (blk_cell BK259.out 1).trans rfl⟩ (fun hHeld => ?_)
                 clear hK K
                 refine norm_ (a' := ?_) ?_ ?_
                 rotate_left
                 ·show Act.put _ (some 51) _ = _
                  simp only [Act.put, List.setIfInBounds_toArray, List.set_cons_zero, List.set_cons_succ, i64_w, i32_w]
                  rfl
                 exact norm_ (by first | (simp only [putAll, Act.put, List.setIfInBounds_toArray, List.set_cons_zero, List.set_cons_succ]; done) | (simp only [putAll, Act.put, List.setIfInBounds_toArray, List.set_cons_zero, List.set_cons_succ]; rfl)) (hJ1 (v261) _ ⟨hHeld, (by (with_reducible repeat (first | apply Kd.R_alloc | apply Kd.R_drewN | apply Kd.R_drew)); exact Kd.R_mono HO262.out (fun _ hk => hk.2)), (by (with_reducible repeat (first | apply Kd.R_alloc | apply Kd.R_drewN | apply Kd.R_drew)); exact Kd.R_mono HO_260000.out (fun _ hk => hk.2)), (by (with_reducible repeat (first | refine blk_drewN ?_ _ | refine blk_drew ?_ | refine blk_alloc ?_ _)); exact BK259.out), (by repeat (first | (with_reducible first | exact HB.out | apply below_alloc | apply pw_below_drewN | apply below_drew1 | refine below_set ?_ GE259.out) | exact HB.out))⟩)
                ·skip
                 refine box_step ?hg (N := 13) ?hd (cs := #[.slice none 0 0, .int .i64 0]) (t := 33) ?hr ?_; (case hd => rfl); (case hg => rfl); (case hr => first | (go_simp; done) | (go_simp; rfl))
                 intro gb276 hg w29 hbox hb
                 have n0_ := Aside0.mk (Kd.R_below (by (with_reducible repeat (first | apply Kd.R_alloc | apply Kd.R_drewN | apply Kd.R_drew)); exact HO_260000.out) hb)
                 have n1_ := Aside0.mk (blk_below (g := gb259) (o := .cells #[.slice Ao16 t255.length co16, .int .i64 t258] 33 (0, 0)) (by (with_reducible repeat (first | refine blk_drewN ?_ _ | refine blk_drew ?_ | refine blk_alloc ?_ _)); exact BK259.out) hb)
                 have n2_ := Aside0.mk (below_step (by repeat (first | (with_reducible first | exact HB.out | apply below_alloc | apply pw_below_drewN | apply below_drew1 | refine below_set ?_ GE259.out) | exact HB.out)) hb)
                 have n3_ := Aside0.mk (hbox)
                 have n4_ := Aside0.mk ((by rw [hg]; exact (below_size (by repeat (first | (with_reducible first | exact HB.out | apply below_alloc | apply pw_below_drewN | apply below_drew1 | refine below_set ?_ GE259.out) | exact HB.out))) : w.heap.size ≤ gb276))
                 have n5_ := Aside0.mk ((by rw [hg]; exact (below_size (by repeat (first | (with_reducible first | exact HB.out | apply below_alloc | apply pw_below_drewN | apply below_drew1 | refine below_set ?_ GE259.out) | exact HB.out))) : w.heap.size ≤ gb276))
                 have n6_ := Aside0.mk ((by rw [hg]; exact Nat.ne_of_lt (blk_lt (g := gb259) (o := .cells #[.slice Ao16 t255.length co16, .int .i64 t258] 33 (0, 0)) (by (with_reducible repeat (first | refine blk_drewN ?_ _ | refine blk_drew ?_ | refine blk_alloc ?_ _)); exact BK259.out)) : gb259 ≠ gb276))
                 have n7_ := Aside0.mk ((by rw [hg]; exact Nat.ne_of_gt (blk_lt (g := gb259) (o := .cells #[.slice Ao16 t255.length co16, .int .i64 t258] 33 (0, 0)) (by (with_reducible repeat (first | refine blk_drewN ?_ _ | refine blk_drew ?_ | refine blk_alloc ?_ _)); exact BK259.out)) : gb276 ≠ gb259))
                 clear HO_260000
                 clear BK259
                 clear HB
                 have HO_260000 := n0_
                 have BK259 := n1_
                 have HB := n2_
                 have BK276 := n3_
                 have GW276 := n4_
                 have GE276 := n5_
                 have NB259_276 := n6_
                 have NB276_259 := n7_
                 clear n0_ n1_ n2_ n3_ n4_ n5_ n6_ n7_
                 clear hb hbox hg
                 refine hK.out _ _ ⟨(blk_cell BK259.out 0).trans rfl, (blk_cell BK259.out 1).trans rfl⟩ (fun hHeld => ?_)
                 clear hK K
                 refine norm_ (a' := ?_) ?_ ?_
                 rotate_left
                 ·show Act.put _ (some 13) _ = _
                  simp only [Act.put, List.setIfInBounds_toArray, List.set_cons_zero, List.set_cons_succ, i64_w, i32_w]
                  rfl
                 exact norm_ (by first | (simp only [putAll, Act.put, List.setIfInBounds_toArray, List.set_cons_zero, List.set_cons_succ]; done) | (simp only [putAll, Act.put, List.setIfInBounds_toArray, List.set_cons_zero, List.set_cons_succ]; rfl)) (hJ7 (gb276) _ ⟨hHeld, (by (with_reducible repeat (first | apply Kd.R_alloc | apply Kd.R_drewN | apply Kd.R_drew)); exact HO_260000.out), (by (with_reducible repeat (first | refine blk_drewN ?_ _ | refine blk_drew ?_ | refine blk_alloc ?_ _)); exact BK259.out), (by (with_reducible repeat (first | refine blk_drewN ?_ _ | refine blk_drew ?_ | refine blk_alloc ?_ _)); exact BK276.out), GW276.out, GE276.out, NB259_276.out, NB276_259.out, (by repeat (first | (with_reducible first | exact HB.out | apply below_alloc | apply pw_below_drewN | apply below_drew1 | refine below_set ?_ GE259.out | refine below_set ?_ GE276.out) | exact HB.out))⟩)
               ·skip
                rintro gb276 w30 ⟨hS_, h0_, h1_, h2_, h3_, h4_, h5_, h6_, h7_⟩
                have n0_ : Aside0 (Kd.R (Kd.int .u8) 5 w30 w.heap.size (fun _ => True) (.slice Ao16 t255.length co16) t255) := ⟨h0_⟩
                have n1_ : Aside0 (w30.heap[gb259]? = some (.cells #[.slice Ao16 t255.length co16, .int .i64 t258] 33 (0, 0))) := ⟨h1_⟩
                have n2_ : Aside0 (w30.heap[gb276]? = some (.cells #[.slice none 0 0, .int .i64 0] 33 (0, 0))) := ⟨h2_⟩
                have n3_ : Aside0 (w.heap.size ≤ gb276) := ⟨h3_⟩
                have n4_ : Aside0 (w.heap.size ≤ gb276) := ⟨h4_⟩
                have n5_ : Aside0 (gb259 ≠ gb276) := ⟨h5_⟩
                have n6_ : Aside0 (gb276 ≠ gb259) := ⟨h6_⟩
                have n7_ : Aside0 (Below w.heap.size w w30) := ⟨h7_⟩
                clear HO_260000
                clear BK259
                clear HB
                clear h0_ h1_ h2_ h3_ h4_ h5_ h6_ h7_
                have HO_260000 := n0_
                have BK259 := n1_
                have BK276 := n2_
                have GW276 := n3_
                have GE276 := n4_
                have NB259_276 := n5_
                have NB276_259 := n6_
                have HB := n7_
                clear n0_ n1_ n2_ n3_ n4_ n5_ n6_ n7_
                have hHeld : w30.cell? ⟨gb259, 0, none⟩ = some (.slice Ao16 t255.length co16) ∧ w30.cell? ⟨gb259, 1, none⟩ = some (.int .i64 t258) := hS_
                refine norm_ (a' := ?_) ?_ ?_
                rotate_left
                ·simp only [putAll, Act.put, List.setIfInBounds_toArray, List.set_cons_zero, List.set_cons_succ]
                 rfl
                refine one_ (i := 1) (N := some 51) #[true, true, true, false, true, false, false, true, false] rfl rfl (one_of HT_.out (by kernel_rfl)) (by decide) (fun K hK => ?_)
                refine goes_ Try.func19 (by kernel_rfl) rfl #[.slice A0 l0.length c0] (by rfl) rfl rfl (by (try simp only [List.map_toArray, List.map_cons, List.map_nil]); first | done | rfl | (simp only [List.length_drop, List.length_take]; rfl)) ?_
                with_reducible refine (gaiterlaw00_Bits.calls kj12 _ _ l0 t260 t263 _ ?side1 ?side2 A22.out).mono ?_
                (case side1 => repeat (first | exact (Kd.C_below HR0.out HB.out) | (with_reducible refine Kd.C_alloc ?_ _) | (with_reducible refine Kd.C_drewN ?_ _) | (with_reducible refine Kd.C_drew ?_)))
                (case side2 => exact HC0.out)
                rintro e w31 ⟨v261, rfl, ho0, hb⟩
                refine ⟨_, rfl, ?_⟩
                have n0_ := Aside0.mk (Kd.R_elder' (by (with_reducible repeat (first | apply Kd.R_alloc | apply Kd.R_drewN | apply Kd.R_drew)); exact HO_260000.out) (Kd.R_base ho0) hb)
                have n1_ := Aside0.mk (Kd.R_lower (Kd.R_new' ho0 (Kd.R_lt (by (with_reducible repeat (first | apply Kd.R_alloc | apply Kd.R_drewN | apply Kd.R_drew)); exact HO_260000.out))) (below_size (by repeat (first | (with_reducible first | exact HB.out | apply below_alloc | apply pw_below_drewN | apply below_drew1 | refine below_set ?_ GE259.out | refine below_set ?_ GE276.out) | exact HB.out))))
                have n2_ := Aside0.mk (blk_below (g := gb259) (o := .cells #[.slice Ao16 t255.length co16, .int .i64 t258] 33 (0, 0)) (by (with_reducible repeat (first | refine blk_drewN ?_ _ | refine blk_drew ?_ | refine blk_alloc ?_ _)); exact BK259.out) hb)
                have n3_ := Aside0.mk (blk_below (g := gb276) (o := .cells #[.slice none 0 0, .int .i64 0] 33 (0, 0)) (by (with_reducible repeat (first | refine blk_drewN ?_ _ | refine blk_drew ?_ | refine blk_alloc ?_ _)); exact BK276.out) hb)
                have n4_ := Aside0.mk (below_step (by repeat (first | (with_reducible first | exact HB.out | apply below_alloc | apply pw_below_drewN | apply below_drew1 | refine below_set ?_ GE259.out | refine below_set ?_ GE276.out) | exact HB.out)) hb)
                clear HO_260000
                clear BK259
                clear BK276
                clear HB
                have HO_260000 := n0_
                have HO262 := n1_
                have BK259 := n2_
                have BK276 := n3_
                have HB := n4_
                clear n0_ n1_ n2_ n3_ n4_
                (try clear hb)
                (try clear hb2)
                (try clear hk)
                (try clear hi)
                (try clear ho0)
                refine hK.out _ _ ⟨(blk_cell BK259.out 0).trans rfl, (blk_cell BK259.out 1).trans rfl⟩ (fun hHeld => ?_)
                clear hK K
                refine norm_ (a' := ?_) ?_ ?_
                rotate_left
                ·show Act.put _ (some 51) _ = _
                 simp only [Act.put, List.setIfInBounds_toArray, List.set_cons_zero, List.set_cons_succ, i64_w, i32_w]
                 rfl
                exact norm_ (by first | (simp only [putAll, Act.put, List.setIfInBounds_toArray, List.set_cons_zero, List.set_cons_succ]; done) | (simp only [putAll, Act.put, List.setIfInBounds_toArray, List.set_cons_zero, List.set_cons_succ]; rfl)) (hJ1_7 (v261, gb276) _ ⟨hHeld, (by (with_reducible repeat (first | apply Kd.R_alloc | apply Kd.R_drewN | apply Kd.R_drew)); exact Kd.R_mono HO262.out (fun _ hk => hk.2)), (by (with_reducible repeat (first | apply Kd.R_alloc | apply Kd.R_drewN | apply Kd.R_drew)); exact Kd.R_mono HO_260000.out (fun _ hk => hk.2)), (by (with_reducible repeat (first | refine blk_drewN ?_ _ | refine blk_drew ?_ | refine blk_alloc ?_ _)); exact BK259.out), (by (with_reducible repeat (first | refine blk_drewN ?_ _ | refine blk_drew ?_ | refine blk_alloc ?_ _)); exact BK276.out), GW276.out, GE276.out, NB259_276.out, NB276_259.out, (by repeat (first | (with_reducible first | exact HB.out | apply below_alloc | apply pw_below_drewN | apply below_drew1 | refine below_set ?_ GE259.out | refine below_set ?_ GE276.out) | exact HB.out))⟩)
              ·skip
               rintro v261 w30 ⟨hS_, h0_, h1_, h2_, h3_⟩
               have n0_ : Aside0 (Kd.R (Kd.int .u8) 5 w30 w.heap.size (fun k_ => some k_ ≠ (.slice Ao16 t255.length co16 : Value).ownBlock) v261 t260) := ⟨h0_⟩
               have n1_ : Aside0 (Kd.R (Kd.int .u8) 5 w30 w.heap.size (fun k_ => some k_ ≠ (v261 : Value).ownBlock) (.slice Ao16 t255.length co16) t255) := ⟨h1_⟩
               have n2_ : Aside0 (w30.heap[gb259]? = some (.cells #[.slice Ao16 t255.length co16, .int .i64 t258] 33 (0, 0))) := ⟨h2_⟩
               have n3_ : Aside0 (Below w.heap.size w w30) := ⟨h3_⟩
               clear HO_260000
               clear BK259
               clear HB
               clear h0_ h1_ h2_ h3_
               have HO262 := n0_
               have HO_260000 := n1_
               have BK259 := n2_
               have HB := n3_
               clear n0_ n1_ n2_ n3_
               have hHeld : w30.cell? ⟨gb259, 0, none⟩ = some (.slice Ao16 t255.length co16) ∧ w30.cell? ⟨gb259, 1, none⟩ = some (.int .i64 t258) := hS_
               obtain ⟨Ao31, co31, eo31⟩ := Kd.R_slice HO262.out
               (first | subst eo31 | (injection eo31 with f1_ f2_ f3_; have f4_ := f1_.symm; have f5_ := f3_.symm; clear f1_ f2_ f3_; subst f4_; subst f5_))
               refine norm_ (a' := ?_) ?_ ?_
               rotate_left
               ·simp only [putAll, Act.put, List.setIfInBounds_toArray, List.set_cons_zero, List.set_cons_succ]
                rfl
               refine two_ (i := 3) (j := 7) (Ni := some 53) (Nj := some 13) #[true, true, true, true, true, false, false, false, false] #[true, true, true, false, true, false, false, true, false] rfl rfl rfl rfl (two_of HT_.out (by kernel_rfl)) (by decide) (by decide) (fun K hK => ?_) (fun K hK => ?_)
               ·skip
                refine goes_ Try.func18 (by kernel_rfl) rfl #[.agg #[.slice Ao31 t260.length co31, .int .i64 t263], .agg #[.slice Ao16 t255.length co16, .int .i64 t258]] (by rfl) rfl rfl (by (try simp only [List.map_toArray, List.map_cons, List.map_nil]); first | done | rfl | (simp only [List.length_drop, List.length_take]; rfl)) ?_
                with_reducible refine (bits_Join.calls kj12 _ _ t260 t263 _ _ t255 t258 t264 t267 _ ?side1 ?side2 ?side3 ?side4 A23.out).mono ?_
                (case side1 => repeat (first | exact (Kd.R_reads' HO262.out).2.2 | (with_reducible refine Kd.C_alloc ?_ _) | (with_reducible refine Kd.C_drewN ?_ _) | (with_reducible refine Kd.C_drew ?_)))
                (case side2 => exact (Kd.R_reads' HO262.out).2.1)
                (case side3 => repeat (first | exact (Kd.R_reads' HO_260000.out).2.2 | (with_reducible refine Kd.C_alloc ?_ _) | (with_reducible refine Kd.C_drewN ?_ _) | (with_reducible refine Kd.C_drew ?_)))
                (case side4 => exact (Kd.R_reads' HO_260000.out).2.1)
                rintro e w32 ⟨v265, rfl, ho0, hb⟩
                refine ⟨_, rfl, ?_⟩
                have n0_ := Aside0.mk (Kd.R_elder' (by (with_reducible repeat (first | apply Kd.R_alloc | apply Kd.R_drewN | apply Kd.R_drew)); exact HO_260000.out) (Kd.R_base ho0) hb)
                have n1_ := Aside0.mk (Kd.R_elder' (by (with_reducible repeat (first | apply Kd.R_alloc | apply Kd.R_drewN | apply Kd.R_drew)); exact HO262.out) (Kd.R_base ho0) hb)
                have n2_ := Aside0.mk (Kd.R_lower (Kd.R_new' (Kd.R_new' ho0 (Kd.R_lt (by (with_reducible repeat (first | apply Kd.R_alloc | apply Kd.R_drewN | apply Kd.R_drew)); exact HO_260000.out))) (Kd.R_lt (by (with_reducible repeat (first | apply Kd.R_alloc | apply Kd.R_drewN | apply Kd.R_drew)); exact HO262.out))) (below_size (by repeat (first | (with_reducible first | exact HB.out | apply below_alloc | apply pw_below_drewN | apply below_drew1 | refine below_set ?_ GE259.out) | exact HB.out))))
                have n3_ := Aside0.mk (blk_below (g := gb259) (o := .cells #[.slice Ao16 t255.length co16, .int .i64 t258] 33 (0, 0)) (by (with_reducible repeat (first | refine blk_drewN ?_ _ | refine blk_drew ?_ | refine blk_alloc ?_ _)); exact BK259.out) hb)
                have n4_ := Aside0.mk (below_step (by repeat (first | (with_reducible first | exact HB.out | apply below_alloc | apply pw_below_drewN | apply below_drew1 | refine below_set ?_ GE259.out) | exact HB.out)) hb)
                clear HO_260000
                clear HO262
                clear BK259
                clear HB
                have HO_260000 := n0_
                have HO262 := n1_
                have HO266 := n2_
                have BK259 := n3_
                have HB := n4_
                clear n0_ n1_ n2_ n3_ n4_
                (try clear hb)
                (try clear hb2)
                (try clear hk)
                (try clear hi)
                (try clear ho0)
                refine hK.out _ _ ⟨(blk_cell BK259.out 0).trans rfl, (blk_cell BK259.out 1).trans rfl⟩ (fun hHeld => ?_)
                clear hK K
                refine norm_ (a' := ?_) ?_ ?_
                rotate_left
                ·show Act.put _ (some 53) _ = _
                 simp only [Act.put, List.setIfInBounds_toArray, List.set_cons_zero, List.set_cons_succ, i64_w, i32_w]
                 rfl
                exact norm_ (by first | (simp only [putAll, Act.put, List.setIfInBounds_toArray, List.set_cons_zero, List.set_cons_succ]; done) | (simp only [putAll, Act.put, List.setIfInBounds_toArray, List.set_cons_zero, List.set_cons_succ]; rfl)) (hJ1_3 (.slice Ao31 t260.length co31, v265) _ ⟨hHeld, (by (with_reducible repeat (first | apply Kd.R_alloc | apply Kd.R_drewN | apply Kd.R_drew)); exact Kd.R_mono HO262.out (fun _ hk => ⟨hk.2, hk.1⟩)), (by (with_reducible repeat (first | apply Kd.R_alloc | apply Kd.R_drewN | apply Kd.R_drew)); exact Kd.R_mono HO266.out (fun _ hk => ⟨hk.2, hk.1.2⟩)), (by (with_reducible repeat (first | apply Kd.R_alloc | apply Kd.R_drewN | apply Kd.R_drew)); exact HO_260000.out), (by (with_reducible repeat (first | refine blk_drewN ?_ _ | refine blk_drew ?_ | refine blk_alloc ?_ _)); exact BK259.out), (by repeat (first | (with_reducible first | exact HB.out | apply below_alloc | apply pw_below_drewN | apply below_drew1 | refine below_set ?_ GE259.out) | exact HB.out))⟩)
               ·skip
                refine box_step ?hg (N := 13) ?hd (cs := #[.slice none 0 0, .int .i64 0]) (t := 33) ?hr ?_; (case hd => rfl); (case hg => rfl); (case hr => first | (go_simp; done) | (go_simp; rfl))
                intro gb276 hg w31 hbox hb
                have n0_ := Aside0.mk (Kd.R_below (by (with_reducible repeat (first | apply Kd.R_alloc | apply Kd.R_drewN | apply Kd.R_drew)); exact HO_260000.out) hb)
                have n1_ := Aside0.mk (Kd.R_below (by (with_reducible repeat (first | apply Kd.R_alloc | apply Kd.R_drewN | apply Kd.R_drew)); exact HO262.out) hb)
                have n2_ := Aside0.mk (blk_below (g := gb259) (o := .cells #[.slice Ao16 t255.length co16, .int .i64 t258] 33 (0, 0)) (by (with_reducible repeat (first | refine blk_drewN ?_ _ | refine blk_drew ?_ | refine blk_alloc ?_ _)); exact BK259.out) hb)
                have n3_ := Aside0.mk (below_step (by repeat (first | (with_reducible first | exact HB.out | apply below_alloc | apply pw_below_drewN | apply below_drew1 | refine below_set ?_ GE259.out) | exact HB.out)) hb)
                have n4_ := Aside0.mk (hbox)
                have n5_ := Aside0.mk ((by rw [hg]; exact (below_size (by repeat (first | (with_reducible first | exact HB.out | apply below_alloc | apply pw_below_drewN | apply below_drew1 | refine below_set ?_ GE259.out) | exact HB.out))) : w.heap.size ≤ gb276))
                have n6_ := Aside0.mk ((by rw [hg]; exact (below_size (by repeat (first | (with_reducible first | exact HB.out | apply below_alloc | apply pw_below_drewN | apply below_drew1 | refine below_set ?_ GE259.out) | exact HB.out))) : w.heap.size ≤ gb276))
                have n7_ := Aside0.mk ((by rw [hg]; exact Nat.ne_of_lt (blk_lt (g := gb259) (o := .cells #[.slice Ao16 t255.length co16, .int .i64 t258] 33 (0, 0)) (by (with_reducible repeat (first | refine blk_drewN ?_ _ | refine blk_drew ?_ | refine blk_alloc ?_ _)); exact BK259.out)) : gb259 ≠ gb276))
                have n8_ := Aside0.mk ((by rw [hg]; exact Nat.ne_of_gt (blk_lt (g := gb259) (o := .cells #[.slice Ao16 t255.length co16, .int .i64 t258] 33 (0, 0)) (by (with_reducible repeat (first | refine blk_drewN ?_ _ | refine blk_drew ?_ | refine blk_alloc ?_ _)); exact BK259.out)) : gb276 ≠ gb259))
                clear HO_260000
                clear HO262
                clear BK259
                clear HB
                have HO_260000 := n0_
                have HO262 := n1_
                have BK259 := n2_
                have HB := n3_
                have BK276 := n4_
                have GW276 := n5_
                have GE276 := n6_
                have NB259_276 := n7_
                have NB276_259 := n8_
                clear n0_ n1_ n2_ n3_ n4_ n5_ n6_ n7_ n8_
                clear hb hbox hg
                refine hK.out _ _ ⟨(blk_cell BK259.out 0).trans rfl, (blk_cell BK259.out 1).trans rfl⟩ (fun hHeld => ?_)
                clear hK K
                refine norm_ (a' := ?_) ?_ ?_
                rotate_left
                ·show Act.put _ (some 13) _ = _
                 simp only [Act.put, List.setIfInBounds_toArray, List.set_cons_zero, List.set_cons_succ, i64_w, i32_w]
                 rfl
                exact norm_ (by first | (simp only [putAll, Act.put, List.setIfInBounds_toArray, List.set_cons_zero, List.set_cons_succ]; done) | (simp only [putAll, Act.put, List.setIfInBounds_toArray, List.set_cons_zero, List.set_cons_succ]; rfl)) (hJ1_7 ((.slice Ao31 t260.length co31), gb276) _ ⟨hHeld, (by (with_reducible repeat (first | apply Kd.R_alloc | apply Kd.R_drewN | apply Kd.R_drew)); exact HO262.out), (by (with_reducible repeat (first | apply Kd.R_alloc | apply Kd.R_drewN | apply Kd.R_drew)); exact HO_260000.out), (by (with_reducible repeat (first | refine blk_drewN ?_ _ | refine blk_drew ?_ | refine blk_alloc ?_ _)); exact BK259.out), (by (with_reducible repeat (first | refine blk_drewN ?_ _ | refine blk_drew ?_ | refine blk_alloc ?_ _)); exact BK276.out), GW276.out, GE276.out, NB259_276.out, NB276_259.out, (by repeat (first | (with_reducible first | exact HB.out | apply below_alloc | apply pw_below_drewN | apply below_drew1 | refine below_set ?_ GE259.out | refine below_set ?_ GE276.out) | exact HB.out))⟩)
             ·skip
              rintro ⟨v261, gb276⟩ w31 ⟨hS_, h0_, h1_, h2_, h3_, h4_, h5_, h6_, h7_, h8_⟩
              have n0_ : Aside0 (Kd.R (Kd.int .u8) 5 w31 w.heap.size (fun k_ => some k_ ≠ (.slice Ao16 t255.length co16 : Value).ownBlock) v261 t260) := ⟨h0_⟩
              have n1_ : Aside0 (Kd.R (Kd.int .u8) 5 w31 w.heap.size (fun k_ => some k_ ≠ (v261 : Value).ownBlock) (.slice Ao16 t255.length co16) t255) := ⟨h1_⟩
              have n2_ : Aside0 (w31.heap[gb259]? = some (.cells #[.slice Ao16 t255.length co16, .int .i64 t258] 33 (0, 0))) := ⟨h2_⟩
              have n3_ : Aside0 (w31.heap[gb276]? = some (.cells #[.slice none 0 0, .int .i64 0] 33 (0, 0))) := ⟨h3_⟩
              have n4_ : Aside0 (w.heap.size ≤ gb276) := ⟨h4_⟩
              have n5_ : Aside0 (w.heap.size ≤ gb276) := ⟨h5_⟩
              have n6_ : Aside0 (gb259 ≠ gb276) := ⟨h6_⟩
              have n7_ : Aside0 (gb276 ≠ gb259) := ⟨h7_⟩
              have n8_ : Aside0 (Below w.heap.size w w31) := ⟨h8_⟩
              clear HO_260000
              clear BK259
              clear HB
              clear h0_ h1_ h2_ h3_ h4_ h5_ h6_ h7_ h8_
              have HO262 := n0_
              have HO_260000 := n1_
              have BK259 := n2_
              have BK276 := n3_
              have GW276 := n4_
              have GE276 := n5_
              have NB259_276 := n6_
              have NB276_259 := n7_
              have HB := n8_
              clear n0_ n1_ n2_ n3_ n4_ n5_ n6_ n7_ n8_
              have hHeld : w31.cell? ⟨gb259, 0, none⟩ = some (.slice Ao16 t255.length co16) ∧ w31.cell? ⟨gb259, 1, none⟩ = some (.int .i64 t258) := hS_
              obtain ⟨Ao32, co32, eo32⟩ := Kd.R_slice HO262.out
              (first | subst eo32 | (injection eo32 with f1_ f2_ f3_; have f4_ := f1_.symm; have f5_ := f3_.symm; clear f1_ f2_ f3_; subst f4_; subst f5_))
              refine norm_ (a' := ?_) ?_ ?_
              rotate_left
              ·simp only [putAll, Act.put, List.setIfInBounds_toArray, List.set_cons_zero, List.set_cons_succ]
               rfl
              refine one_ (i := 3) (N := some 53) #[true, true, true, true, true, false, false, true, false] rfl rfl (one_of HT_.out (by kernel_rfl)) (by decide) (fun K hK => ?_)
              refine goes_ Try.func18 (by kernel_rfl) rfl #[.agg #[.slice Ao32 t260.length co32, .int .i64 t263], .agg #[.slice Ao16 t255.length co16, .int .i64 t258]] (by rfl) rfl rfl (by (try simp only [List.map_toArray, List.map_cons, List.map_nil]); first | done | rfl | (simp only [List.length_drop, List.length_take]; rfl)) ?_
              with_reducible refine (bits_Join.calls kj12 _ _ t260 t263 _ _ t255 t258 t264 t267 _ ?side1 ?side2 ?side3 ?side4 A23.out).mono ?_
              (case side1 => repeat (first | exact (Kd.R_reads' HO262.out).2.2 | (with_reducible refine Kd.C_alloc ?_ _) | (with_reducible refine Kd.C_drewN ?_ _) | (with_reducible refine Kd.C_drew ?_)))
              (case side2 => exact (Kd.R_reads' HO262.out).2.1)
              (case side3 => repeat (first | exact (Kd.R_reads' HO_260000.out).2.2 | (with_reducible refine Kd.C_alloc ?_ _) | (with_reducible refine Kd.C_drewN ?_ _) | (with_reducible refine Kd.C_drew ?_)))
              (case side4 => exact (Kd.R_reads' HO_260000.out).2.1)
              rintro e w33 ⟨v265, rfl, ho0, hb⟩
              refine ⟨_, rfl, ?_⟩
              have n0_ := Aside0.mk (Kd.R_elder' (by (with_reducible repeat (first | apply Kd.R_alloc | apply Kd.R_drewN | apply Kd.R_drew)); exact HO_260000.out) (Kd.R_base ho0) hb)
              have n1_ := Aside0.mk (Kd.R_elder' (by (with_reducible repeat (first | apply Kd.R_alloc | apply Kd.R_drewN | apply Kd.R_drew)); exact HO262.out) (Kd.R_base ho0) hb)
              have n2_ := Aside0.mk (Kd.R_lower (Kd.R_new' (Kd.R_new' ho0 (Kd.R_lt (by (with_reducible repeat (first | apply Kd.R_alloc | apply Kd.R_drewN | apply Kd.R_drew)); exact HO_260000.out))) (Kd.R_lt (by (with_reducible repeat (first | apply Kd.R_alloc | apply Kd.R_drewN | apply Kd.R_drew)); exact HO262.out))) (below_size (by repeat (first | (with_reducible first | exact HB.out | apply below_alloc | apply pw_below_drewN | apply below_drew1 | refine below_set ?_ GE259.out | refine below_set ?_ GE276.out) | exact HB.out))))
              have n3_ := Aside0.mk (blk_below (g := gb259) (o := .cells #[.slice Ao16 t255.length co16, .int .i64 t258] 33 (0, 0)) (by (with_reducible repeat (first | refine blk_drewN ?_ _ | refine blk_drew ?_ | refine blk_alloc ?_ _)); exact BK259.out) hb)
              have n4_ := Aside0.mk (blk_below (g := gb276) (o := .cells #[.slice none 0 0, .int .i64 0] 33 (0, 0)) (by (with_reducible repeat (first | refine blk_drewN ?_ _ | refine blk_drew ?_ | refine blk_alloc ?_ _)); exact BK276.out) hb)
              have n5_ := Aside0.mk (below_step (by repeat (first | (with_reducible first | exact HB.out | apply below_alloc | apply pw_below_drewN | apply below_drew1 | refine below_set ?_ GE259.out | refine below_set ?_ GE276.out) | exact HB.out)) hb)
              clear HO_260000
              clear HO262
              clear BK259
              clear BK276
              clear HB
              have HO_260000 := n0_
              have HO262 := n1_
              have HO266 := n2_
              have BK259 := n3_
              have BK276 := n4_
              have HB := n5_
              clear n0_ n1_ n2_ n3_ n4_ n5_
              (try clear hb)
              (try clear hb2)
              (try clear hk)
              (try clear hi)
              (try clear ho0)
              refine hK.out _ _ ⟨(blk_cell BK259.out 0).trans rfl, (blk_cell BK259.out 1).trans rfl⟩ (fun hHeld => ?_)
              clear hK K
              refine norm_ (a' := ?_) ?_ ?_
              rotate_left
              ·show Act.put _ (some 53) _ = _
               simp only [Act.put, List.setIfInBounds_toArray, List.set_cons_zero, List.set_cons_succ, i64_w, i32_w]
               rfl
              exact norm_ (by first | (simp only [putAll, Act.put, List.setIfInBounds_toArray, List.set_cons_zero, List.set_cons_succ]; done) | (simp only [putAll, Act.put, List.setIfInBounds_toArray, List.set_cons_zero, List.set_cons_succ]; rfl)) (hJ1_3_7 (.slice Ao32 t260.length co32, v265, gb276) _ ⟨hHeld, (by (with_reducible repeat (first | apply Kd.R_alloc | apply Kd.R_drewN | apply Kd.R_drew)); exact Kd.R_mono HO262.out (fun _ hk => ⟨hk.2, hk.1⟩)), (by (with_reducible repeat (first | apply Kd.R_alloc | apply Kd.R_drewN | apply Kd.R_drew)); exact Kd.R_mono HO266.out (fun _ hk => ⟨hk.2, hk.1.2⟩)), (by (with_reducible repeat (first | apply Kd.R_alloc | apply Kd.R_drewN | apply Kd.R_drew)); exact HO_260000.out), (by (with_reducible repeat (first | refine blk_drewN ?_ _ | refine blk_drew ?_ | refine blk_alloc ?_ _)); exact BK259.out), (by (with_reducible repeat (first | refine blk_drewN ?_ _ | refine blk_drew ?_ | refine blk_alloc ?_ _)); exact BK276.out), GW276.out, GE276.out, NB259_276.out, NB276_259.out, (by repeat (first | (with_reducible first | exact HB.out | apply below_alloc | apply pw_below_drewN | apply below_drew1 | refine below_set ?_ GE259.out | refine below_set ?_ GE276.out) | exact HB.out))⟩)
            ·skip
             rintro ⟨v261, v265⟩ w32 ⟨hS_, h0_, h1_, h2_, h3_, h4_⟩
             have n0_ : Aside0 (Kd.R (Kd.int .u8) 5 w32 w.heap.size (fun k_ => some k_ ≠ (v265 : Value).ownBlock ∧ some k_ ≠ (.slice Ao16 t255.length co16 : Value).ownBlock) v261 t260) := ⟨h0_⟩
             have n1_ : Aside0 (Kd.R (Kd.int .u8) 5 w32 w.heap.size (fun k_ => some k_ ≠ (v261 : Value).ownBlock ∧ some k_ ≠ (.slice Ao16 t255.length co16 : Value).ownBlock) v265 t264) := ⟨h1_⟩
             have n2_ : Aside0 (Kd.R (Kd.int .u8) 5 w32 w.heap.size (fun k_ => some k_ ≠ (v261 : Value).ownBlock ∧ some k_ ≠ (v265 : Value).ownBlock) (.slice Ao16 t255.length co16) t255) := ⟨h2_⟩
             have n3_ : Aside0 (w32.heap[gb259]? = some (.cells #[.slice Ao16 t255.length co16, .int .i64 t258] 33 (0, 0))) := ⟨h3_⟩
             have n4_ : Aside0 (Below w.heap.size w w32) := ⟨h4_⟩
             clear HO_260000
             clear BK259
             clear HB
             clear h0_ h1_ h2_ h3_ h4_
             have HO262 := n0_
             have HO266 := n1_
             have HO_260000 := n2_
             have BK259 := n3_
             have HB := n4_
             clear n0_ n1_ n2_ n3_ n4_
             have hHeld : w32.cell? ⟨gb259, 0, none⟩ = some (.slice Ao16 t255.length co16) ∧ w32.cell? ⟨gb259, 1, none⟩ = some (.int .i64 t258) := hS_
             refine norm_ (a' := ?_) ?_ ?_
             rotate_left
             ·simp only [putAll, Act.put, List.setIfInBounds_toArray, List.set_cons_zero, List.set_cons_succ]
              rfl
             refine two_ (i := 5) (j := 7) (Ni := some 55) (Nj := some 13) #[true, true, true, true, true, true, false, false, false] #[true, true, true, true, true, false, false, true, false] rfl rfl rfl rfl (two_of HT_.out (by kernel_rfl)) (by decide) (by decide) (fun K hK => ?_) (fun K hK => ?_)
             ·skip
              refine goes_ Try.func19 (by kernel_rfl) rfl #[.slice A2 l2.length c2] (by rfl) rfl rfl (by (try simp only [List.map_toArray, List.map_cons, List.map_nil]); first | done | rfl | (simp only [List.length_drop, List.length_take]; rfl)) ?_
              with_reducible refine (gaiterlaw00_Bits.calls kj12 _ _ l2 t268 t271 _ ?side1 ?side2 A24.out).mono ?_
              (case side1 => repeat (first | exact (Kd.C_below HR2.out HB.out) | (with_reducible refine Kd.C_alloc ?_ _) | (with_reducible refine Kd.C_drewN ?_ _) | (with_reducible refine Kd.C_drew ?_)))
              (case side2 => exact HC2.out)
              rintro e w33 ⟨v269, rfl, ho0, hb⟩
              refine ⟨_, rfl, ?_⟩
              have n0_ := Aside0.mk (Kd.R_elder' (by (with_reducible repeat (first | apply Kd.R_alloc | apply Kd.R_drewN | apply Kd.R_drew)); exact HO_260000.out) (Kd.R_base ho0) hb)
              have n1_ := Aside0.mk (Kd.R_elder' (by (with_reducible repeat (first | apply Kd.R_alloc | apply Kd.R_drewN | apply Kd.R_drew)); exact HO262.out) (Kd.R_base ho0) hb)
              have n2_ := Aside0.mk (Kd.R_elder' (by (with_reducible repeat (first | apply Kd.R_alloc | apply Kd.R_drewN | apply Kd.R_drew)); exact HO266.out) (Kd.R_base ho0) hb)
              have n3_ := Aside0.mk (Kd.R_lower (Kd.R_new' (Kd.R_new' (Kd.R_new' ho0 (Kd.R_lt (by (with_reducible repeat (first | apply Kd.R_alloc | apply Kd.R_drewN | apply Kd.R_drew)); exact HO_260000.out))) (Kd.R_lt (by (with_reducible repeat (first | apply Kd.R_alloc | apply Kd.R_drewN | apply Kd.R_drew)); exact HO262.out))) (Kd.R_lt (by (with_reducible repeat (first | apply Kd.R_alloc | apply Kd.R_drewN | apply Kd.R_drew)); exact HO266.out))) (below_size (by repeat (first | (with_reducible first | exact HB.out | apply below_alloc | apply pw_below_drewN | apply below_drew1 | refine below_set ?_ GE259.out) | exact HB.out))))
              have n4_ := Aside0.mk (blk_below (g := gb259) (o := .cells #[.slice Ao16 t255.length co16, .int .i64 t258] 33 (0, 0)) (by (with_reducible repeat (first | refine blk_drewN ?_ _ | refine blk_drew ?_ | refine blk_alloc ?_ _)); exact BK259.out) hb)
              have n5_ := Aside0.mk (below_step (by repeat (first | (with_reducible first | exact HB.out | apply below_alloc | apply pw_below_drewN | apply below_drew1 | refine below_set ?_ GE259.out) | exact HB.out)) hb)
              clear HO_260000
              clear HO262
              clear HO266
              clear BK259
              clear HB
              have HO_260000 := n0_
              have HO262 := n1_
              have HO266 := n2_
              have HO270 := n3_
              have BK259 := n4_
              have HB := n5_
              clear n0_ n1_ n2_ n3_ n4_ n5_
              (try clear hb)
              (try clear hb2)
              (try clear hk)
              (try clear hi)
              (try clear ho0)
              refine hK.out _ _ ⟨(blk_cell BK259.out 0).trans rfl, (blk_cell BK259.out 1).trans rfl⟩ (fun hHeld => ?_)
              clear hK K
              refine norm_ (a' := ?_) ?_ ?_
              rotate_left
              ·show Act.put _ (some 55) _ = _
               simp only [Act.put, List.setIfInBounds_toArray, List.set_cons_zero, List.set_cons_succ, i64_w, i32_w]
               rfl
              exact norm_ (by first | (simp only [putAll, Act.put, List.setIfInBounds_toArray, List.set_cons_zero, List.set_cons_succ]; done) | (simp only [putAll, Act.put, List.setIfInBounds_toArray, List.set_cons_zero, List.set_cons_succ]; rfl)) (hJ1_3_5 (v261, v265, v269) _ ⟨hHeld, (by (with_reducible repeat (first | apply Kd.R_alloc | apply Kd.R_drewN | apply Kd.R_drew)); exact Kd.R_mono HO262.out (fun _ hk => ⟨hk.1.1, ⟨hk.2, hk.1.2⟩⟩)), (by (with_reducible repeat (first | apply Kd.R_alloc | apply Kd.R_drewN | apply Kd.R_drew)); exact Kd.R_mono HO266.out (fun _ hk => ⟨hk.1.1, ⟨hk.2, hk.1.2⟩⟩)), (by (with_reducible repeat (first | apply Kd.R_alloc | apply Kd.R_drewN | apply Kd.R_drew)); exact Kd.R_mono HO270.out (fun _ hk => ⟨hk.1.2, ⟨hk.2, hk.1.1.2⟩⟩)), (by (with_reducible repeat (first | apply Kd.R_alloc | apply Kd.R_drewN | apply Kd.R_drew)); exact Kd.R_mono HO_260000.out (fun _ hk => ⟨hk.1.1, ⟨hk.1.2, hk.2⟩⟩)), (by (with_reducible repeat (first | refine blk_drewN ?_ _ | refine blk_drew ?_ | refine blk_alloc ?_ _)); exact BK259.out), (by repeat (first | (with_reducible first | exact HB.out | apply below_alloc | apply pw_below_drewN | apply below_drew1 | refine below_set ?_ GE259.out) | exact HB.out))⟩)
             ·skip
              refine box_step ?hg (N := 13) ?hd (cs := #[.slice none 0 0, .int .i64 0]) (t := 33) ?hr ?_; (case hd => rfl); (case hg => rfl); (case hr => first | (go_simp; done) | (go_simp; rfl))
              intro gb276 hg w33 hbox hb
              have n0_ := Aside0.mk (Kd.R_below (by (with_reducible repeat (first | apply Kd.R_alloc | apply Kd.R_drewN | apply Kd.R_drew)); exact HO_260000.out) hb)
              have n1_ := Aside0.mk (Kd.R_below (by (with_reducible repeat (first | apply Kd.R_alloc | apply Kd.R_drewN | apply Kd.R_drew)); exact HO262.out) hb)
              have n2_ := Aside0.mk (Kd.R_below (by (with_reducible repeat (first | apply Kd.R_alloc | apply Kd.R_drewN | apply Kd.R_drew)); exact HO266.out) hb)
              have n3_ := Aside0.mk (blk_below (g := gb259) (o := .cells #[.slice Ao16 t255.length co16, .int .i64 t258] 33 (0, 0)) (by (with_reducible repeat (first | refine blk_drewN ?_ _ | refine blk_drew ?_ | refine blk_alloc ?_ _)); exact BK259.out) hb)
              have n4_ := Aside0.mk (below_step (by repeat (first | (with_reducible first | exact HB.out | apply below_alloc | apply pw_below_drewN | apply below_drew1 | refine below_set ?_ GE259.out) | exact HB.out)) hb)
              have n5_ := Aside0.mk (hbox)
              have n6_ := Aside0.mk ((by rw [hg]; exact (below_size (by repeat (first | (with_reducible first | exact HB.out | apply below_alloc | apply pw_below_drewN | apply below_drew1 | refine below_set ?_ GE259.out) | exact HB.out))) : w.heap.size ≤ gb276))
              have n7_ := Aside0.mk ((by rw [hg]; exact (below_size (by repeat (first | (with_reducible first | exact HB.out | apply below_alloc | apply pw_below_drewN | apply below_drew1 | refine below_set ?_ GE259.out) | exact HB.out))) : w.heap.size ≤ gb276))
              have n8_ := Aside0.mk ((by rw [hg]; exact Nat.ne_of_lt (blk_lt (g := gb259) (o := .cells #[.slice Ao16 t255.length co16, .int .i64 t258] 33 (0, 0)) (by (with_reducible repeat (first | refine blk_drewN ?_ _ | refine blk_drew ?_ | refine blk_alloc ?_ _)); exact BK259.out)) : gb259 ≠ gb276))
              have n9_ := Aside0.mk ((by rw [hg]; exact Nat.ne_of_gt (blk_lt (g := gb259) (o := .cells #[.slice Ao16 t255.length co16, .int .i64 t258] 33 (0, 0)) (by (with_reducible repeat (first | refine blk_drewN ?_ _ | refine blk_drew ?_ | refine blk_alloc ?_ _)); exact BK259.out)) : gb276 ≠ gb259))
              clear HO_260000
              clear HO262
              clear HO266
              clear BK259
              clear HB
              have HO_260000 := n0_
              have HO262 := n1_
              have HO266 := n2_
              have BK259 := n3_
              have HB := n4_
              have BK276 := n5_
              have GW276 := n6_
              have GE276 := n7_
              have NB259_276 := n8_
              have NB276_259 := n9_
              clear n0_ n1_ n2_ n3_ n4_ n5_ n6_ n7_ n8_ n9_
              clear hb hbox hg
              refine hK.out _ _ ⟨(blk_cell BK259.out 0).trans rfl, (blk_cell BK259.out 1).trans rfl⟩ (fun hHeld => ?_)
              clear hK K
              refine norm_ (a' := ?_) ?_ ?_
              rotate_left
              ·show Act.put _ (some 13) _ = _
               simp only [Act.put, List.setIfInBounds_toArray, List.set_cons_zero, List.set_cons_succ, i64_w, i32_w]
               rfl
              exact norm_ (by first | (simp only [putAll, Act.put, List.setIfInBounds_toArray, List.set_cons_zero, List.set_cons_succ]; done) | (simp only [putAll, Act.put, List.setIfInBounds_toArray, List.set_cons_zero, List.set_cons_succ]; rfl)) (hJ1_3_7 (v261, v265, gb276) _ ⟨hHeld, (by (with_reducible repeat (first | apply Kd.R_alloc | apply Kd.R_drewN | apply Kd.R_drew)); exact HO262.out), (by (with_reducible repeat (first | apply Kd.R_alloc | apply Kd.R_drewN | apply Kd.R_drew)); exact HO266.out), (by (with_reducible repeat (first | apply Kd.R_alloc | apply Kd.R_drewN | apply Kd.R_drew)); exact HO_260000.out), (by (with_reducible repeat (first | refine blk_drewN ?_ _ | refine blk_drew ?_ | refine blk_alloc ?_ _)); exact BK259.out), (by (with_reducible repeat (first | refine blk_drewN ?_ _ | refine blk_drew ?_ | refine blk_alloc ?_ _)); exact BK276.out), GW276.out, GE276.out, NB259_276.out, NB276_259.out, (by repeat (first | (with_reducible first | exact HB.out | apply below_alloc | apply pw_below_drewN | apply below_drew1 | refine below_set ?_ GE259.out | refine below_set ?_ GE276.out) | exact HB.out))⟩)
           ·skip
            rintro ⟨v261, v265, gb276⟩ w33 ⟨hS_, h0_, h1_, h2_, h3_, h4_, h5_, h6_, h7_, h8_, h9_⟩
            have n0_ : Aside0 (Kd.R (Kd.int .u8) 5 w33 w.heap.size (fun k_ => some k_ ≠ (v265 : Value).ownBlock ∧ some k_ ≠ (.slice Ao16 t255.length co16 : Value).ownBlock) v261 t260) := ⟨h0_⟩
            have n1_ : Aside0 (Kd.R (Kd.int .u8) 5 w33 w.heap.size (fun k_ => some k_ ≠ (v261 : Value).ownBlock ∧ some k_ ≠ (.slice Ao16 t255.length co16 : Value).ownBlock) v265 t264) := ⟨h1_⟩
            have n2_ : Aside0 (Kd.R (Kd.int .u8) 5 w33 w.heap.size (fun k_ => some k_ ≠ (v261 : Value).ownBlock ∧ some k_ ≠ (v265 : Value).ownBlock) (.slice Ao16 t255.length co16) t255) := ⟨h2_⟩
            have n3_ : Aside0 (w33.heap[gb259]? = some (.cells #[.slice Ao16 t255.length co16, .int .i64 t258] 33 (0, 0))) := ⟨h3_⟩
            have n4_ : Aside0 (w33.heap[gb276]? = some (.cells #[.slice none 0 0, .int .i64 0] 33 (0, 0))) := ⟨h4_⟩
            have n5_ : Aside0 (w.heap.size ≤ gb276) := ⟨h5_⟩
            have n6_ : Aside0 (w.heap.size ≤ gb276) := ⟨h6_⟩
            have n7_ : Aside0 (gb259 ≠ gb276) := ⟨h7_⟩
            have n8_ : Aside0 (gb276 ≠ gb259) := ⟨h8_⟩
            have n9_ : Aside0 (Below w.heap.size w w33) := ⟨h9_⟩
            clear HO_260000
            clear BK259
            clear HB
            clear h0_ h1_ h2_ h3_ h4_ h5_ h6_ h7_ h8_ h9_
            have HO262 := n0_
            have HO266 := n1_
            have HO_260000 := n2_
            have BK259 := n3_
            have BK276 := n4_
            have GW276 := n5_
            have GE276 := n6_
            have NB259_276 := n7_
            have NB276_259 := n8_
            have HB := n9_
            clear n0_ n1_ n2_ n3_ n4_ n5_ n6_ n7_ n8_ n9_
            have hHeld : w33.cell? ⟨gb259, 0, none⟩ = some (.slice Ao16 t255.length co16) ∧ w33.cell? ⟨gb259, 1, none⟩ = some (.int .i64 t258) := hS_
            refine norm_ (a' := ?_) ?_ ?_
            rotate_left
            ·simp only [putAll, Act.put, List.setIfInBounds_toArray, List.set_cons_zero, List.set_cons_succ]
             rfl
            refine one_ (i := 5) (N := some 55) #[true, true, true, true, true, true, false, true, false] rfl rfl (one_of HT_.out (by kernel_rfl)) (by decide) (fun K hK => ?_)
            refine goes_ Try.func19 (by kernel_rfl) rfl #[.slice A2 l2.length c2] (by rfl) rfl rfl (by (try simp only [List.map_toArray, List.map_cons, List.map_nil]); first | done | rfl | (simp only [List.length_drop, List.length_take]; rfl)) ?_
            with_reducible refine (gaiterlaw00_Bits.calls kj12 _ _ l2 t268 t271 _ ?side1 ?side2 A24.out).mono ?_
            (case side1 => repeat (first | exact (Kd.C_below HR2.out HB.out) | (with_reducible refine Kd.C_alloc ?_ _) | (with_reducible refine Kd.C_drewN ?_ _) | (with_reducible refine Kd.C_drew ?_)))
            (case side2 => exact HC2.out)
            rintro e w34 ⟨v269, rfl, ho0, hb⟩
            refine ⟨_, rfl, ?_⟩
            have n0_ := Aside0.mk (Kd.R_elder' (by (with_reducible repeat (first | apply Kd.R_alloc | apply Kd.R_drewN | apply Kd.R_drew)); exact HO_260000.out) (Kd.R_base ho0) hb)
            have n1_ := Aside0.mk (Kd.R_elder' (by (with_reducible repeat (first | apply Kd.R_alloc | apply Kd.R_drewN | apply Kd.R_drew)); exact HO262.out) (Kd.R_base ho0) hb)
            have n2_ := Aside0.mk (Kd.R_elder' (by (with_reducible repeat (first | apply Kd.R_alloc | apply Kd.R_drewN | apply Kd.R_drew)); exact HO266.out) (Kd.R_base ho0) hb)
            have n3_ := Aside0.mk (Kd.R_lower (Kd.R_new' (Kd.R_new' (Kd.R_new' ho0 (Kd.R_lt (by (with_reducible repeat (first | apply Kd.R_alloc | apply Kd.R_drewN | apply Kd.R_drew)); exact HO_260000.out))) (Kd.R_lt (by (with_reducible repeat (first | apply Kd.R_alloc | apply Kd.R_drewN | apply Kd.R_drew)); exact HO262.out))) (Kd.R_lt (by (with_reducible repeat (first | apply Kd.R_alloc | apply Kd.R_drewN | apply Kd.R_drew)); exact HO266.out))) (below_size (by repeat (first | (with_reducible first | exact HB.out | apply below_alloc | apply pw_below_drewN | apply below_drew1 | refine below_set ?_ GE259.out | refine below_set ?_ GE276.out) | exact HB.out))))
            have n4_ := Aside0.mk (blk_below (g := gb259) (o := .cells #[.slice Ao16 t255.length co16, .int .i64 t258] 33 (0, 0)) (by (with_reducible repeat (first | refine blk_drewN ?_ _ | refine blk_drew ?_ | refine blk_alloc ?_ _)); exact BK259.out) hb)
            have n5_ := Aside0.mk (blk_below (g := gb276) (o := .cells #[.slice none 0 0, .int .i64 0] 33 (0, 0)) (by (with_reducible repeat (first | refine blk_drewN ?_ _ | refine blk_drew ?_ | refine blk_alloc ?_ _)); exact BK276.out) hb)
            have n6_ := Aside0.mk (below_step (by repeat (first | (with_reducible first | exact HB.out | apply below_alloc | apply pw_below_drewN | apply below_drew1 | refine below_set ?_ GE259.out | refine below_set ?_ GE276.out) | exact HB.out)) hb)
            clear HO_260000
            clear HO262
            clear HO266
            clear BK259
            clear BK276
            clear HB
            have HO_260000 := n0_
            have HO262 := n1_
            have HO266 := n2_
            have HO270 := n3_
            have BK259 := n4_
            have BK276 := n5_
            have HB := n6_
            clear n0_ n1_ n2_ n3_ n4_ n5_ n6_
            (try clear hb)
            (try clear hb2)
            (try clear hk)
            (try clear hi)
            (try clear ho0)
            refine hK.out _ _ ⟨(blk_cell BK259.out 0).trans rfl, (blk_cell BK259.out 1).trans rfl⟩ (fun hHeld => ?_)
            clear hK K
            refine norm_ (a' := ?_) ?_ ?_
            rotate_left
            ·show Act.put _ (some 55) _ = _
             simp only [Act.put, List.setIfInBounds_toArray, List.set_cons_zero, List.set_cons_succ, i64_w, i32_w]
             rfl
            exact norm_ (by first | (simp only [putAll, Act.put, List.setIfInBounds_toArray, List.set_cons_zero, List.set_cons_succ]; done) | (simp only [putAll, Act.put, List.setIfInBounds_toArray, List.set_cons_zero, List.set_cons_succ]; rfl)) (hJ1_3_5_7 (v261, v265, v269, gb276) _ ⟨hHeld, (by (with_reducible repeat (first | apply Kd.R_alloc | apply Kd.R_drewN | apply Kd.R_drew)); exact Kd.R_mono HO262.out (fun _ hk => ⟨hk.1.1, ⟨hk.2, hk.1.2⟩⟩)), (by (with_reducible repeat (first | apply Kd.R_alloc | apply Kd.R_drewN | apply Kd.R_drew)); exact Kd.R_mono HO266.out (fun _ hk => ⟨hk.1.1, ⟨hk.2, hk.1.2⟩⟩)), (by (with_reducible repeat (first | apply Kd.R_alloc | apply Kd.R_drewN | apply Kd.R_drew)); exact Kd.R_mono HO270.out (fun _ hk => ⟨hk.1.2, ⟨hk.2, hk.1.1.2⟩⟩)), (by (with_reducible repeat (first | apply Kd.R_alloc | apply Kd.R_drewN | apply Kd.R_drew)); exact Kd.R_mono HO_260000.out (fun _ hk => ⟨hk.1.1, ⟨hk.1.2, hk.2⟩⟩)), (by (with_reducible repeat (first | refine blk_drewN ?_ _ | refine blk_drew ?_ | refine blk_alloc ?_ _)); exact BK259.out), (by (with_reducible repeat (first | refine blk_drewN ?_ _ | refine blk_drew ?_ | refine blk_alloc ?_ _)); exact BK276.out), GW276.out, GE276.out, NB259_276.out, NB276_259.out, (by repeat (first | (with_reducible first | exact HB.out | apply below_alloc | apply pw_below_drewN | apply below_drew1 | refine below_set ?_ GE259.out | refine below_set ?_ GE276.out) | exact HB.out))⟩)
          ·skip
           rintro ⟨v261, v265, v269⟩ w33 ⟨hS_, h0_, h1_, h2_, h3_, h4_, h5_⟩
           have n0_ : Aside0 (Kd.R (Kd.int .u8) 5 w33 w.heap.size (fun k_ => some k_ ≠ (v265 : Value).ownBlock ∧ some k_ ≠ (v269 : Value).ownBlock ∧ some k_ ≠ (.slice Ao16 t255.length co16 : Value).ownBlock) v261 t260) := ⟨h0_⟩
           have n1_ : Aside0 (Kd.R (Kd.int .u8) 5 w33 w.heap.size (fun k_ => some k_ ≠ (v261 : Value).ownBlock ∧ some k_ ≠ (v269 : Value).ownBlock ∧ some k_ ≠ (.slice Ao16 t255.length co16 : Value).ownBlock) v265 t264) := ⟨h1_⟩
           have n2_ : Aside0 (Kd.R (Kd.int .u8) 5 w33 w.heap.size (fun k_ => some k_ ≠ (v261 : Value).ownBlock ∧ some k_ ≠ (v265 : Value).ownBlock ∧ some k_ ≠ (.slice Ao16 t255.length co16 : Value).ownBlock) v269 t268) := ⟨h2_⟩
           have n3_ : Aside0 (Kd.R (Kd.int .u8) 5 w33 w.heap.size (fun k_ => some k_ ≠ (v261 : Value).ownBlock ∧ some k_ ≠ (v265 : Value).ownBlock ∧ some k_ ≠ (v269 : Value).ownBlock) (.slice Ao16 t255.length co16) t255) := ⟨h3_⟩
           have n4_ : Aside0 (w33.heap[gb259]? = some (.cells #[.slice Ao16 t255.length co16, .int .i64 t258] 33 (0, 0))) := ⟨h4_⟩
           have n5_ : Aside0 (Below w.heap.size w w33) := ⟨h5_⟩
           clear HO_260000
           clear BK259
           clear HB
           clear h0_ h1_ h2_ h3_ h4_ h5_
           have HO262 := n0_
           have HO266 := n1_
           have HO270 := n2_
           have HO_260000 := n3_
           have BK259 := n4_
           have HB := n5_
           clear n0_ n1_ n2_ n3_ n4_ n5_
           have hHeld : w33.cell? ⟨gb259, 0, none⟩ = some (.slice Ao16 t255.length co16) ∧ w33.cell? ⟨gb259, 1, none⟩ = some (.int .i64 t258) := hS_
           obtain ⟨Ao34, co34, eo34⟩ := Kd.R_slice HO266.out
           (first | subst eo34 | (injection eo34 with f1_ f2_ f3_; have f4_ := f1_.symm; have f5_ := f3_.symm; clear f1_ f2_ f3_; subst f4_; subst f5_))
           obtain ⟨Ao35, co35, eo35⟩ := Kd.R_slice HO270.out
           (first | subst eo35 | (injection eo35 with f1_ f2_ f3_; have f4_ := f1_.symm; have f5_ := f3_.symm; clear f1_ f2_ f3_; subst f4_; subst f5_))
           refine norm_ (a' := ?_) ?_ ?_
           rotate_left
           ·simp only [putAll, Act.put, List.setIfInBounds_toArray, List.set_cons_zero, List.set_cons_succ]
            rfl
           refine two_ (i := 6) (j := 7) (Ni := some 56) (Nj := some 13) #[true, true, true, true, true, true, true, false, false] #[true, true, true, true, true, true, false, true, false] rfl rfl rfl rfl (two_of HT_.out (by kernel_rfl)) (by decide) (by decide) (fun K hK => ?_) (fun K hK => ?_)
           ·skip
            refine goes_ Try.func18 (by kernel_rfl) rfl #[.agg #[.slice Ao34 t264.length co34, .int .i64 t267], .agg #[.slice Ao35 t268.length co35, .int .i64 t271]] (by rfl) rfl rfl (by (try simp only [List.map_toArray, List.map_cons, List.map_nil]); first | done | rfl | (simp only [List.length_drop, List.length_take]; rfl)) ?_
            with_reducible refine (bits_Join.calls kj12 _ _ t264 t267 _ _ t268 t271 t272 t275 _ ?side1 ?side2 ?side3 ?side4 A25.out).mono ?_
            (case side1 => repeat (first | exact (Kd.R_reads' HO266.out).2.2 | (with_reducible refine Kd.C_alloc ?_ _) | (with_reducible refine Kd.C_drewN ?_ _) | (with_reducible refine Kd.C_drew ?_)))
            (case side2 => exact (Kd.R_reads' HO266.out).2.1)
            (case side3 => repeat (first | exact (Kd.R_reads' HO270.out).2.2 | (with_reducible refine Kd.C_alloc ?_ _) | (with_reducible refine Kd.C_drewN ?_ _) | (with_reducible refine Kd.C_drew ?_)))
            (case side4 => exact (Kd.R_reads' HO270.out).2.1)
            rintro e w36 ⟨v273, rfl, ho0, hb⟩
            refine ⟨_, rfl, ?_⟩
            have n0_ := Aside0.mk (Kd.R_elder' (by (with_reducible repeat (first | apply Kd.R_alloc | apply Kd.R_drewN | apply Kd.R_drew)); exact HO_260000.out) (Kd.R_base ho0) hb)
            have n1_ := Aside0.mk (Kd.R_elder' (by (with_reducible repeat (first | apply Kd.R_alloc | apply Kd.R_drewN | apply Kd.R_drew)); exact HO262.out) (Kd.R_base ho0) hb)
            have n2_ := Aside0.mk (Kd.R_elder' (by (with_reducible repeat (first | apply Kd.R_alloc | apply Kd.R_drewN | apply Kd.R_drew)); exact HO266.out) (Kd.R_base ho0) hb)
            have n3_ := Aside0.mk (Kd.R_elder' (by (with_reducible repeat (first | apply Kd.R_alloc | apply Kd.R_drewN | apply Kd.R_drew)); exact HO270.out) (Kd.R_base ho0) hb)
            have n4_ := Aside0.mk (Kd.R_lower (Kd.R_new' (Kd.R_new' (Kd.R_new' (Kd.R_new' ho0 (Kd.R_lt (by (with_reducible repeat (first | apply Kd.R_alloc | apply Kd.R_drewN | apply Kd.R_drew)); exact HO_260000.out))) (Kd.R_lt (by (with_reducible repeat (first | apply Kd.R_alloc | apply Kd.R_drewN | apply Kd.R_drew)); exact HO262.out))) (Kd.R_lt (by (with_reducible repeat (first | apply Kd.R_alloc | apply Kd.R_drewN | apply Kd.R_drew)); exact HO266.out))) (Kd.R_lt (by (with_reducible repeat (first | apply Kd.R_alloc | apply Kd.R_drewN | apply Kd.R_drew)); exact HO270.out))) (below_size (by repeat (first | (with_reducible first | exact HB.out | apply below_alloc | apply pw_below_drewN | apply below_drew1 | refine below_set ?_ GE259.out) | exact HB.out))))
            have n5_ := Aside0.mk (blk_below (g := gb259) (o := .cells #[.slice Ao16 t255.length co16, .int .i64 t258] 33 (0, 0)) (by (with_reducible repeat (first | refine blk_drewN ?_ _ | refine blk_drew ?_ | refine blk_alloc ?_ _)); exact BK259.out) hb)
            have n6_ := Aside0.mk (below_step (by repeat (first | (with_reducible first | exact HB.out | apply below_alloc | apply pw_below_drewN | apply below_drew1 | refine below_set ?_ GE259.out) | exact HB.out)) hb)
            clear HO_260000
            clear HO262
            clear HO266
            clear HO270
            clear BK259
            clear HB
            have HO_260000 := n0_
            have HO262 := n1_
            have HO266 := n2_
            have HO270 := n3_
            have HO274 := n4_
            have BK259 := n5_
            have HB := n6_
            clear n0_ n1_ n2_ n3_ n4_ n5_ n6_
            (try clear hb)
            (try clear hb2)
            (try clear hk)
            (try clear hi)
            (try clear ho0)
            refine hK.out _ _ ⟨(blk_cell BK259.out 0).trans rfl, (blk_cell BK259.out 1).trans rfl⟩ (fun hHeld => ?_)
            clear hK K
            refine norm_ (a' := ?_) ?_ ?_
            rotate_left
            ·show Act.put _ (some 56) _ = _
             simp only [Act.put, List.setIfInBounds_toArray, List.set_cons_zero, List.set_cons_succ, i64_w, i32_w]
             rfl
            exact norm_ (by first | (simp only [putAll, Act.put, List.setIfInBounds_toArray, List.set_cons_zero, List.set_cons_succ]; done) | (simp only [putAll, Act.put, List.setIfInBounds_toArray, List.set_cons_zero, List.set_cons_succ]; rfl)) (hJ1_3_5_6 (v261, .slice Ao34 t264.length co34, .slice Ao35 t268.length co35, v273) _ ⟨hHeld, (by (with_reducible repeat (first | apply Kd.R_alloc | apply Kd.R_drewN | apply Kd.R_drew)); exact Kd.R_mono HO262.out (fun _ hk => ⟨hk.1.1, ⟨hk.1.2.1, ⟨hk.2, hk.1.2.2⟩⟩⟩)), (by (with_reducible repeat (first | apply Kd.R_alloc | apply Kd.R_drewN | apply Kd.R_drew)); exact Kd.R_mono HO266.out (fun _ hk => ⟨hk.1.1, ⟨hk.1.2.1, ⟨hk.2, hk.1.2.2⟩⟩⟩)), (by (with_reducible repeat (first | apply Kd.R_alloc | apply Kd.R_drewN | apply Kd.R_drew)); exact Kd.R_mono HO270.out (fun _ hk => ⟨hk.1.1, ⟨hk.1.2.1, ⟨hk.2, hk.1.2.2⟩⟩⟩)), (by (with_reducible repeat (first | apply Kd.R_alloc | apply Kd.R_drewN | apply Kd.R_drew)); exact Kd.R_mono HO274.out (fun _ hk => ⟨hk.1.1.2, ⟨hk.1.2, ⟨hk.2, hk.1.1.1.2⟩⟩⟩)), (by (with_reducible repeat (first | apply Kd.R_alloc | apply Kd.R_drewN | apply Kd.R_drew)); exact Kd.R_mono HO_260000.out (fun _ hk => ⟨hk.1.1, ⟨hk.1.2.1, ⟨hk.1.2.2, hk.2⟩⟩⟩)), (by (with_reducible repeat (first | refine blk_drewN ?_ _ | refine blk_drew ?_ | refine blk_alloc ?_ _)); exact BK259.out), (by repeat (first | (with_reducible first | exact HB.out | apply below_alloc | apply pw_below_drewN | apply below_drew1 | refine below_set ?_ GE259.out) | exact HB.out))⟩)
           ·skip
            refine box_step ?hg (N := 13) ?hd (cs := #[.slice none 0 0, .int .i64 0]) (t := 33) ?hr ?_; (case hd => rfl); (case hg => rfl); (case hr => first | (go_simp; done) | (go_simp; rfl))
            intro gb276 hg w34 hbox hb
            have n0_ := Aside0.mk (Kd.R_below (by (with_reducible repeat (first | apply Kd.R_alloc | apply Kd.R_drewN | apply Kd.R_drew)); exact HO_260000.out) hb)
            have n1_ := Aside0.mk (Kd.R_below (by (with_reducible repeat (first | apply Kd.R_alloc | apply Kd.R_drewN | apply Kd.R_drew)); exact HO262.out) hb)
            have n2_ := Aside0.mk (Kd.R_below (by (with_reducible repeat (first | apply Kd.R_alloc | apply Kd.R_drewN | apply Kd.R_drew)); exact HO266.out) hb)
            have n3_ := Aside0.mk (Kd.R_below (by (with_reducible repeat (first | apply Kd.R_alloc | apply Kd.R_drewN | apply Kd.R_drew)); exact HO270.out) hb)
            have n4_ := Aside0.mk (blk_below (g := gb259) (o := .cells #[.slice Ao16 t255.length co16, .int .i64 t258] 33 (0, 0)) (by (with_reducible repeat (first | refine blk_drewN ?_ _ | refine blk_drew ?_ | refine blk_alloc ?_ _)); exact BK259.out) hb)
            have n5_ := Aside0.mk (below_step (by repeat (first | (with_reducible first | exact HB.out | apply below_alloc | apply pw_below_drewN | apply below_drew1 | refine below_set ?_ GE259.out) | exact HB.out)) hb)
            have n6_ := Aside0.mk (hbox)
            have n7_ := Aside0.mk ((by rw [hg]; exact (below_size (by repeat (first | (with_reducible first | exact HB.out | apply below_alloc | apply pw_below_drewN | apply below_drew1 | refine below_set ?_ GE259.out) | exact HB.out))) : w.heap.size ≤ gb276))
            have n8_ := Aside0.mk ((by rw [hg]; exact (below_size (by repeat (first | (with_reducible first | exact HB.out | apply below_alloc | apply pw_below_drewN | apply below_drew1 | refine below_set ?_ GE259.out) | exact HB.out))) : w.heap.size ≤ gb276))
            have n9_ := Aside0.mk ((by rw [hg]; exact Nat.ne_of_lt (blk_lt (g := gb259) (o := .cells #[.slice Ao16 t255.length co16, .int .i64 t258] 33 (0, 0)) (by (with_reducible repeat (first | refine blk_drewN ?_ _ | refine blk_drew ?_ | refine blk_alloc ?_ _)); exact BK259.out)) : gb259 ≠ gb276))
            have n10_ := Aside0.mk ((by rw [hg]; exact Nat.ne_of_gt (blk_lt (g := gb259) (o := .cells #[.slice Ao16 t255.length co16, .int .i64 t258] 33 (0, 0)) (by (with_reducible repeat (first | refine blk_drewN ?_ _ | refine blk_drew ?_ | refine blk_alloc ?_ _)); exact BK259.out)) : gb276 ≠ gb259))
            clear HO_260000
            clear HO262
            clear HO266
            clear HO270
            clear BK259
            clear HB
            have HO_260000 := n0_
            have HO262 := n1_
            have HO266 := n2_
            have HO270 := n3_
            have BK259 := n4_
            have HB := n5_
            have BK276 := n6_
            have GW276 := n7_
            have GE276 := n8_
            have NB259_276 := n9_
            have NB276_259 := n10_
            clear n0_ n1_ n2_ n3_ n4_ n5_ n6_ n7_ n8_ n9_ n10_
            clear hb hbox hg
            refine hK.out _ _ ⟨(blk_cell BK259.out 0).trans rfl, (blk_cell BK259.out 1).trans rfl⟩ (fun hHeld => ?_)
            clear hK K
            refine norm_ (a' := ?_) ?_ ?_
            rotate_left
            ·show Act.put _ (some 13) _ = _
             simp only [Act.put, List.setIfInBounds_toArray, List.set_cons_zero, List.set_cons_succ, i64_w, i32_w]
             rfl
            exact norm_ (by first | (simp only [putAll, Act.put, List.setIfInBounds_toArray, List.set_cons_zero, List.set_cons_succ]; done) | (simp only [putAll, Act.put, List.setIfInBounds_toArray, List.set_cons_zero, List.set_cons_succ]; rfl)) (hJ1_3_5_7 (v261, (.slice Ao34 t264.length co34), (.slice Ao35 t268.length co35), gb276) _ ⟨hHeld, (by (with_reducible repeat (first | apply Kd.R_alloc | apply Kd.R_drewN | apply Kd.R_drew)); exact HO262.out), (by (with_reducible repeat (first | apply Kd.R_alloc | apply Kd.R_drewN | apply Kd.R_drew)); exact HO266.out), (by (with_reducible repeat (first | apply Kd.R_alloc | apply Kd.R_drewN | apply Kd.R_drew)); exact HO270.out), (by (with_reducible repeat (first | apply Kd.R_alloc | apply Kd.R_drewN | apply Kd.R_drew)); exact HO_260000.out), (by (with_reducible repeat (first | refine blk_drewN ?_ _ | refine blk_drew ?_ | refine blk_alloc ?_ _)); exact BK259.out), (by (with_reducible repeat (first | refine blk_drewN ?_ _ | refine blk_drew ?_ | refine blk_alloc ?_ _)); exact BK276.out), GW276.out, GE276.out, NB259_276.out, NB276_259.out, (by repeat (first | (with_reducible first | exact HB.out | apply below_alloc | apply pw_below_drewN | apply below_drew1 | refine below_set ?_ GE259.out | refine below_set ?_ GE276.out) | exact HB.out))⟩)
         ·skip
          rintro ⟨v261, v265, v269, gb276⟩ w34 ⟨hS_, h0_, h1_, h2_, h3_, h4_, h5_, h6_, h7_, h8_, h9_, h10_⟩
          have n0_ : Aside0 (Kd.R (Kd.int .u8) 5 w34 w.heap.size (fun k_ => some k_ ≠ (v265 : Value).ownBlock ∧ some k_ ≠ (v269 : Value).ownBlock ∧ some k_ ≠ (.slice Ao16 t255.length co16 : Value).ownBlock) v261 t260) := ⟨h0_⟩
          have n1_ : Aside0 (Kd.R (Kd.int .u8) 5 w34 w.heap.size (fun k_ => some k_ ≠ (v261 : Value).ownBlock ∧ some k_ ≠ (v269 : Value).ownBlock ∧ some k_ ≠ (.slice Ao16 t255.length co16 : Value).ownBlock) v265 t264) := ⟨h1_⟩
          have n2_ : Aside0 (Kd.R (Kd.int .u8) 5 w34 w.heap.size (fun k_ => some k_ ≠ (v261 : Value).ownBlock ∧ some k_ ≠ (v265 : Value).ownBlock ∧ some k_ ≠ (.slice Ao16 t255.length co16 : Value).ownBlock) v269 t268) := ⟨h2_⟩
          have n3_ : Aside0 (Kd.R (Kd.int .u8) 5 w34 w.heap.size (fun k_ => some k_ ≠ (v261 : Value).ownBlock ∧ some k_ ≠ (v265 : Value).ownBlock ∧ some k_ ≠ (v269 : Value).ownBlock) (.slice Ao16 t255.length co16) t255) := ⟨h3_⟩
          have n4_ : Aside0 (w34.heap[gb259]? = some (.cells #[.slice Ao16 t255.length co16, .int .i64 t258] 33 (0, 0))) := ⟨h4_⟩
          have n5_ : Aside0 (w34.heap[gb276]? = some (.cells #[.slice none 0 0, .int .i64 0] 33 (0, 0))) := ⟨h5_⟩
          have n6_ : Aside0 (w.heap.size ≤ gb276) := ⟨h6_⟩
          have n7_ : Aside0 (w.heap.size ≤ gb276) := ⟨h7_⟩
          have n8_ : Aside0 (gb259 ≠ gb276) := ⟨h8_⟩
          have n9_ : Aside0 (gb276 ≠ gb259) := ⟨h9_⟩
          have n10_ : Aside0 (Below w.heap.size w w34) := ⟨h10_⟩
          clear HO_260000
          clear BK259
          clear HB
          clear h0_ h1_ h2_ h3_ h4_ h5_ h6_ h7_ h8_ h9_ h10_
          have HO262 := n0_
          have HO266 := n1_
          have HO270 := n2_
          have HO_260000 := n3_
          have BK259 := n4_
          have BK276 := n5_
          have GW276 := n6_
          have GE276 := n7_
          have NB259_276 := n8_
          have NB276_259 := n9_
          have HB := n10_
          clear n0_ n1_ n2_ n3_ n4_ n5_ n6_ n7_ n8_ n9_ n10_
          have hHeld : w34.cell? ⟨gb259, 0, none⟩ = some (.slice Ao16 t255.length co16) ∧ w34.cell? ⟨gb259, 1, none⟩ = some (.int .i64 t258) := hS_
          obtain ⟨Ao35, co35, eo35⟩ := Kd.R_slice HO266.out
          (first | subst eo35 | (injection eo35 with f1_ f2_ f3_; have f4_ := f1_.symm; have f5_ := f3_.symm; clear f1_ f2_ f3_; subst f4_; subst f5_))
          obtain ⟨Ao36, co36, eo36⟩ := Kd.R_slice HO270.out
          (first | subst eo36 | (injection eo36 with f1_ f2_ f3_; have f4_ := f1_.symm; have f5_ := f3_.symm; clear f1_ f2_ f3_; subst f4_; subst f5_))
          refine norm_ (a' := ?_) ?_ ?_
          rotate_left
          ·simp only [putAll, Act.put, List.setIfInBounds_toArray, List.set_cons_zero, List.set_cons_succ]
           rfl
          refine one_ (i := 6) (N := some 56) #[true, true, true, true, true, true, true, true, false] rfl rfl (one_of HT_.out (by kernel_rfl)) (by decide) (fun K hK => ?_)
          refine goes_ Try.func18 (by kernel_rfl) rfl #[.agg #[.slice Ao35 t264.length co35, .int .i64 t267], .agg #[.slice Ao36 t268.length co36, .int .i64 t271]] (by rfl) rfl rfl (by (try simp only [List.map_toArray, List.map_cons, List.map_nil]); first | done | rfl | (simp only [List.length_drop, List.length_take]; rfl)) ?_
          with_reducible refine (bits_Join.calls kj12 _ _ t264 t267 _ _ t268 t271 t272 t275 _ ?side1 ?side2 ?side3 ?side4 A25.out).mono ?_
          (case side1 => repeat (first | exact (Kd.R_reads' HO266.out).2.2 | (with_reducible refine Kd.C_alloc ?_ _) | (with_reducible refine Kd.C_drewN ?_ _) | (with_reducible refine Kd.C_drew ?_)))
          (case side2 => exact (Kd.R_reads' HO266.out).2.1)
          (case side3 => repeat (first | exact (Kd.R_reads' HO270.out).2.2 | (with_reducible refine Kd.C_alloc ?_ _) | (with_reducible refine Kd.C_drewN ?_ _) | (with_reducible refine Kd.C_drew ?_)))
          (case side4 => exact (Kd.R_reads' HO270.out).2.1)
          rintro e w37 ⟨v273, rfl, ho0, hb⟩
          refine ⟨_, rfl, ?_⟩
          have n0_ := Aside0.mk (Kd.R_elder' (by (with_reducible repeat (first | apply Kd.R_alloc | apply Kd.R_drewN | apply Kd.R_drew)); exact HO_260000.out) (Kd.R_base ho0) hb)
          have n1_ := Aside0.mk (Kd.R_elder' (by (with_reducible repeat (first | apply Kd.R_alloc | apply Kd.R_drewN | apply Kd.R_drew)); exact HO262.out) (Kd.R_base ho0) hb)
          have n2_ := Aside0.mk (Kd.R_elder' (by (with_reducible repeat (first | apply Kd.R_alloc | apply Kd.R_drewN | apply Kd.R_drew)); exact HO266.out) (Kd.R_base ho0) hb)
          have n3_ := Aside0.mk (Kd.R_elder' (by (with_reducible repeat (first | apply Kd.R_alloc | apply Kd.R_drewN | apply Kd.R_drew)); exact HO270.out) (Kd.R_base ho0) hb)
          have n4_ := Aside0.mk (Kd.R_lower (Kd.R_new' (Kd.R_new' (Kd.R_new' (Kd.R_new' ho0 (Kd.R_lt (by (with_reducible repeat (first | apply Kd.R_alloc | apply Kd.R_drewN | apply Kd.R_drew)); exact HO_260000.out))) (Kd.R_lt (by (with_reducible repeat (first | apply Kd.R_alloc | apply Kd.R_drewN | apply Kd.R_drew)); exact HO262.out))) (Kd.R_lt (by (with_reducible repeat (first | apply Kd.R_alloc | apply Kd.R_drewN | apply Kd.R_drew)); exact HO266.out))) (Kd.R_lt (by (with_reducible repeat (first | apply Kd.R_alloc | apply Kd.R_drewN | apply Kd.R_drew)); exact HO270.out))) (below_size (by repeat (first | (with_reducible first | exact HB.out | apply below_alloc | apply pw_below_drewN | apply below_drew1 | refine below_set ?_ GE259.out | refine below_set ?_ GE276.out) | exact HB.out))))
          have n5_ := Aside0.mk (blk_below (g := gb259) (o := .cells #[.slice Ao16 t255.length co16, .int .i64 t258] 33 (0, 0)) (by (with_reducible repeat (first | refine blk_drewN ?_ _ | refine blk_drew ?_ | refine blk_alloc ?_ _)); exact BK259.out) hb)
          have n6_ := Aside0.mk (blk_below (g := gb276) (o := .cells #[.slice none 0 0, .int .i64 0] 33 (0, 0)) (by (with_reducible repeat (first | refine blk_drewN ?_ _ | refine blk_drew ?_ | refine blk_alloc ?_ _)); exact BK276.out) hb)
          have n7_ := Aside0.mk (below_step (by repeat (first | (with_reducible first | exact HB.out | apply below_alloc | apply pw_below_drewN | apply below_drew1 | refine below_set ?_ GE259.out | refine below_set ?_ GE276.out) | exact HB.out)) hb)
          clear HO_260000
          clear HO262
          clear HO266
          clear HO270
          clear BK259
          clear BK276
          clear HB
          have HO_260000 := n0_
          have HO262 := n1_
          have HO266 := n2_
          have HO270 := n3_
          have HO274 := n4_
          have BK259 := n5_
          have BK276 := n6_
          have HB := n7_
          clear n0_ n1_ n2_ n3_ n4_ n5_ n6_ n7_
          (try clear hb)
          (try clear hb2)
          (try clear hk)
          (try clear hi)
          (try clear ho0)
          refine hK.out _ _ ⟨(blk_cell BK259.out 0).trans rfl, (blk_cell BK259.out 1).trans rfl⟩ (fun hHeld => ?_)
          clear hK K
          refine norm_ (a' := ?_) ?_ ?_
          rotate_left
          ·show Act.put _ (some 56) _ = _
           simp only [Act.put, List.setIfInBounds_toArray, List.set_cons_zero, List.set_cons_succ, i64_w, i32_w]
           rfl
          exact norm_ (by first | (simp only [putAll, Act.put, List.setIfInBounds_toArray, List.set_cons_zero, List.set_cons_succ]; done) | (simp only [putAll, Act.put, List.setIfInBounds_toArray, List.set_cons_zero, List.set_cons_succ]; rfl)) (hJ1_3_5_6_7 (v261, .slice Ao35 t264.length co35, .slice Ao36 t268.length co36, v273, gb276) _ ⟨hHeld, (by (with_reducible repeat (first | apply Kd.R_alloc | apply Kd.R_drewN | apply Kd.R_drew)); exact Kd.R_mono HO262.out (fun _ hk => ⟨hk.1.1, ⟨hk.1.2.1, ⟨hk.2, hk.1.2.2⟩⟩⟩)), (by (with_reducible repeat (first | apply Kd.R_alloc | apply Kd.R_drewN | apply Kd.R_drew)); exact Kd.R_mono HO266.out (fun _ hk => ⟨hk.1.1, ⟨hk.1.2.1, ⟨hk.2, hk.1.2.2⟩⟩⟩)), (by (with_reducible repeat (first | apply Kd.R_alloc | apply Kd.R_drewN | apply Kd.R_drew)); exact Kd.R_mono HO270.out (fun _ hk => ⟨hk.1.1, ⟨hk.1.2.1, ⟨hk.2, hk.1.2.2⟩⟩⟩)), (by (with_reducible repeat (first | apply Kd.R_alloc | apply Kd.R_drewN | apply Kd.R_drew)); exact Kd.R_mono HO274.out (fun _ hk => ⟨hk.1.1.2, ⟨hk.1.2, ⟨hk.2, hk.1.1.1.2⟩⟩⟩)), (by (with_reducible repeat (first | apply Kd.R_alloc | apply Kd.R_drewN | apply Kd.R_drew)); exact Kd.R_mono HO_260000.out (fun _ hk => ⟨hk.1.1, ⟨hk.1.2.1, ⟨hk.1.2.2, hk.2⟩⟩⟩)), (by (with_reducible repeat (first | refine blk_drewN ?_ _ | refine blk_drew ?_ | refine blk_alloc ?_ _)); exact BK259.out), (by (with_reducible repeat (first | refine blk_drewN ?_ _ | refine blk_drew ?_ | refine blk_alloc ?_ _)); exact BK276.out), GW276.out, GE276.out, NB259_276.out, NB276_259.out, (by repeat (first | (with_reducible first | exact HB.out | apply below_alloc | apply pw_below_drewN | apply below_drew1 | refine below_set ?_ GE259.out | refine below_set ?_ GE276.out) | exact HB.out))⟩)
        ·skip
         rintro ⟨v261, v265, v269, v273⟩ w36 ⟨hS_, h0_, h1_, h2_, h3_, h4_, h5_, h6_⟩
         have n0_ : Aside0 (Kd.R (Kd.int .u8) 5 w36 w.heap.size (fun k_ => some k_ ≠ (v265 : Value).ownBlock ∧ some k_ ≠ (v269 : Value).ownBlock ∧ some k_ ≠ (v273 : Value).ownBlock ∧ some k_ ≠ (.slice Ao16 t255.length co16 : Value).ownBlock) v261 t260) := ⟨h0_⟩
         have n1_ : Aside0 (Kd.R (Kd.int .u8) 5 w36 w.heap.size (fun k_ => some k_ ≠ (v261 : Value).ownBlock ∧ some k_ ≠ (v269 : Value).ownBlock ∧ some k_ ≠ (v273 : Value).ownBlock ∧ some k_ ≠ (.slice Ao16 t255.length co16 : Value).ownBlock) v265 t264) := ⟨h1_⟩
         have n2_ : Aside0 (Kd.R (Kd.int .u8) 5 w36 w.heap.size (fun k_ => some k_ ≠ (v261 : Value).ownBlock ∧ some k_ ≠ (v265 : Value).ownBlock ∧ some k_ ≠ (v273 : Value).ownBlock ∧ some k_ ≠ (.slice Ao16 t255.length co16 : Value).ownBlock) v269 t268) := ⟨h2_⟩
         have n3_ : Aside0 (Kd.R (Kd.int .u8) 5 w36 w.heap.size (fun k_ => some k_ ≠ (v261 : Value).ownBlock ∧ some k_ ≠ (v265 : Value).ownBlock ∧ some k_ ≠ (v269 : Value).ownBlock ∧ some k_ ≠ (.slice Ao16 t255.length co16 : Value).ownBlock) v273 t272) := ⟨h3_⟩
         have n4_ : Aside0 (Kd.R (Kd.int .u8) 5 w36 w.heap.size (fun k_ => some k_ ≠ (v261 : Value).ownBlock ∧ some k_ ≠ (v265 : Value).ownBlock ∧ some k_ ≠ (v269 : Value).ownBlock ∧ some k_ ≠ (v273 : Value).ownBlock) (.slice Ao16 t255.length co16) t255) := ⟨h4_⟩
         have n5_ : Aside0 (w36.heap[gb259]? = some (.cells #[.slice Ao16 t255.length co16, .int .i64 t258] 33 (0, 0))) := ⟨h5_⟩
         have n6_ : Aside0 (Below w.heap.size w w36) := ⟨h6_⟩
         clear HO_260000
         clear BK259
         clear HB
         clear h0_ h1_ h2_ h3_ h4_ h5_ h6_
         have HO262 := n0_
         have HO266 := n1_
         have HO270 := n2_
         have HO274 := n3_
         have HO_260000 := n4_
         have BK259 := n5_
         have HB := n6_
         clear n0_ n1_ n2_ n3_ n4_ n5_ n6_
         have hHeld : w36.cell? ⟨gb259, 0, none⟩ = some (.slice Ao16 t255.length co16) ∧ w36.cell? ⟨gb259, 1, none⟩ = some (.int .i64 t258) := hS_
         refine norm_ (a' := ?_) ?_ ?_
         rotate_left
         ·simp only [putAll, Act.put, List.setIfInBounds_toArray, List.set_cons_zero, List.set_cons_succ]
          rfl
         refine one_ (i := 7) (N := some 13) #[true, true, true, true, true, true, true, true, false] rfl rfl (one_of HT_.out (by kernel_rfl)) (by decide) (fun K hK => ?_)
         refine box_step ?hg (N := 13) ?hd (cs := #[.slice none 0 0, .int .i64 0]) (t := 33) ?hr ?_; (case hd => rfl); (case hg => rfl); (case hr => first | (go_simp; done) | (go_simp; rfl))
         intro gb276 hg w37 hbox hb
         have n0_ := Aside0.mk (Kd.R_below (by (with_reducible repeat (first | apply Kd.R_alloc | apply Kd.R_drewN | apply Kd.R_drew)); exact HO_260000.out) hb)
         have n1_ := Aside0.mk (Kd.R_below (by (with_reducible repeat (first | apply Kd.R_alloc | apply Kd.R_drewN | apply Kd.R_drew)); exact HO262.out) hb)
         have n2_ := Aside0.mk (Kd.R_below (by (with_reducible repeat (first | apply Kd.R_alloc | apply Kd.R_drewN | apply Kd.R_drew)); exact HO266.out) hb)
         have n3_ := Aside0.mk (Kd.R_below (by (with_reducible repeat (first | apply Kd.R_alloc | apply Kd.R_drewN | apply Kd.R_drew)); exact HO270.out) hb)
         have n4_ := Aside0.mk (Kd.R_below (by (with_reducible repeat (first | apply Kd.R_alloc | apply Kd.R_drewN | apply Kd.R_drew)); exact HO274.out) hb)
         have n5_ := Aside0.mk (blk_below (g := gb259) (o := .cells #[.slice Ao16 t255.length co16, .int .i64 t258] 33 (0, 0)) (by (with_reducible repeat (first | refine blk_drewN ?_ _ | refine blk_drew ?_ | refine blk_alloc ?_ _)); exact BK259.out) hb)
         have n6_ := Aside0.mk (below_step (by repeat (first | (with_reducible first | exact HB.out | apply below_alloc | apply pw_below_drewN | apply below_drew1 | refine below_set ?_ GE259.out) | exact HB.out)) hb)
         have n7_ := Aside0.mk (hbox)
         have n8_ := Aside0.mk ((by rw [hg]; exact (below_size (by repeat (first | (with_reducible first | exact HB.out | apply below_alloc | apply pw_below_drewN | apply below_drew1 | refine below_set ?_ GE259.out) | exact HB.out))) : w.heap.size ≤ gb276))
         have n9_ := Aside0.mk ((by rw [hg]; exact (below_size (by repeat (first | (with_reducible first | exact HB.out | apply below_alloc | apply pw_below_drewN | apply below_drew1 | refine below_set ?_ GE259.out) | exact HB.out))) : w.heap.size ≤ gb276))
         have n10_ := Aside0.mk ((by rw [hg]; exact Nat.ne_of_lt (blk_lt (g := gb259) (o := .cells #[.slice Ao16 t255.length co16, .int .i64 t258] 33 (0, 0)) (by (with_reducible repeat (first | refine blk_drewN ?_ _ | refine blk_drew ?_ | refine blk_alloc ?_ _)); exact BK259.out)) : gb259 ≠ gb276))
         have n11_ := Aside0.mk ((by rw [hg]; exact Nat.ne_of_gt (blk_lt (g := gb259) (o := .cells #[.slice Ao16 t255.length co16, .int .i64 t258] 33 (0, 0)) (by (with_reducible repeat (first | refine blk_drewN ?_ _ | refine blk_drew ?_ | refine blk_alloc ?_ _)); exact BK259.out)) : gb276 ≠ gb259))
         clear HO_260000
         clear HO262
         clear HO266
         clear HO270
         clear HO274
         clear BK259
         clear HB
         have HO_260000 := n0_
         have HO262 := n1_
         have HO266 := n2_
         have HO270 := n3_
         have HO274 := n4_
         have BK259 := n5_
         have HB := n6_
         have BK276 := n7_
         have GW276 := n8_
         have GE276 := n9_
         have NB259_276 := n10_
         have NB276_259 := n11_
         clear n0_ n1_ n2_ n3_ n4_ n5_ n6_ n7_ n8_ n9_ n10_ n11_
         clear hb hbox hg
         refine hK.out _ _ ⟨(blk_cell BK259.out 0).trans rfl, (blk_cell BK259.out 1).trans rfl⟩ (fun hHeld => ?_)
         clear hK K
         refine norm_ (a' := ?_) ?_ ?_
         rotate_left
         ·show Act.put _ (some 13) _ = _
          simp only [Act.put, List.setIfInBounds_toArray, List.set_cons_zero, List.set_cons_succ, i64_w, i32_w]
          rfl
         exact norm_ (by first | (simp only [putAll, Act.put, List.setIfInBounds_toArray, List.set_cons_zero, List.set_cons_succ]; done) | (simp only [putAll, Act.put, List.setIfInBounds_toArray, List.set_cons_zero, List.set_cons_succ]; rfl)) (hJ1_3_5_6_7 (v261, v265, v269, v273, gb276) _ ⟨hHeld, (by (with_reducible repeat (first | apply Kd.R_alloc | apply Kd.R_drewN | apply Kd.R_drew)); exact HO262.out), (by (with_reducible repeat (first | apply Kd.R_alloc | apply Kd.R_drewN | apply Kd.R_drew)); exact HO266.out), (by (with_reducible repeat (first | apply Kd.R_alloc | apply Kd.R_drewN | apply Kd.R_drew)); exact HO270.out), (by (with_reducible repeat (first | apply Kd.R_alloc | apply Kd.R_drewN | apply Kd.R_drew)); exact HO274.out), (by (with_reducible repeat (first | apply Kd.R_alloc | apply Kd.R_drewN | apply Kd.R_drew)); exact HO_260000.out), (by (with_reducible repeat (first | refine blk_drewN ?_ _ | refine blk_drew ?_ | refine blk_alloc ?_ _)); exact BK259.out), (by (with_reducible repeat (first | refine blk_drewN ?_ _ | refine blk_drew ?_ | refine blk_alloc ?_ _)); exact BK276.out), GW276.out, GE276.out, NB259_276.out, NB276_259.out, (by repeat (first | (with_reducible first | exact HB.out | apply below_alloc | apply pw_below_drewN | apply below_drew1 | refine below_set ?_ GE259.out | refine below_set ?_ GE276.out) | exact HB.out))⟩)
       rintro ⟨v261, v265, v269, v273, gb276⟩ w37 ⟨hS_, h0_, h1_, h2_, h3_, h4_, h5_, h6_, h7_, h8_, h9_, h10_, h11_⟩
       have n0_ : Aside0 (Kd.R (Kd.int .u8) 5 w37 w.heap.size (fun k_ => some k_ ≠ (v265 : Value).ownBlock ∧ some k_ ≠ (v269 : Value).ownBlock ∧ some k_ ≠ (v273 : Value).ownBlock ∧ some k_ ≠ (.slice Ao16 t255.length co16 : Value).ownBlock) v261 t260) := ⟨h0_⟩
       have n1_ : Aside0 (Kd.R (Kd.int .u8) 5 w37 w.heap.size (fun k_ => some k_ ≠ (v261 : Value).ownBlock ∧ some k_ ≠ (v269 : Value).ownBlock ∧ some k_ ≠ (v273 : Value).ownBlock ∧ some k_ ≠ (.slice Ao16 t255.length co16 : Value).ownBlock) v265 t264) := ⟨h1_⟩
       have n2_ : Aside0 (Kd.R (Kd.int .u8) 5 w37 w.heap.size (fun k_ => some k_ ≠ (v261 : Value).ownBlock ∧ some k_ ≠ (v265 : Value).ownBlock ∧ some k_ ≠ (v273 : Value).ownBlock ∧ some k_ ≠ (.slice Ao16 t255.length co16 : Value).ownBlock) v269 t268) := ⟨h2_⟩
       have n3_ : Aside0 (Kd.R (Kd.int .u8) 5 w37 w.heap.size (fun k_ => some k_ ≠ (v261 : Value).ownBlock ∧ some k_ ≠ (v265 : Value).ownBlock ∧ some k_ ≠ (v269 : Value).ownBlock ∧ some k_ ≠ (.slice Ao16 t255.length co16 : Value).ownBlock) v273 t272) := ⟨h3_⟩
       have n4_ : Aside0 (Kd.R (Kd.int .u8) 5 w37 w.heap.size (fun k_ => some k_ ≠ (v261 : Value).ownBlock ∧ some k_ ≠ (v265 : Value).ownBlock ∧ some k_ ≠ (v269 : Value).ownBlock ∧ some k_ ≠ (v273 : Value).ownBlock) (.slice Ao16 t255.length co16) t255) := ⟨h4_⟩
       have n5_ : Aside0 (w37.heap[gb259]? = some (.cells #[.slice Ao16 t255.length co16, .int .i64 t258] 33 (0, 0))) := ⟨h5_⟩
       have n6_ : Aside0 (w37.heap[gb276]? = some (.cells #[.slice none 0 0, .int .i64 0] 33 (0, 0))) := ⟨h6_⟩
       have n7_ : Aside0 (w.heap.size ≤ gb276) := ⟨h7_⟩
       have n8_ : Aside0 (w.heap.size ≤ gb276) := ⟨h8_⟩
       have n9_ : Aside0 (gb259 ≠ gb276) := ⟨h9_⟩
       have n10_ : Aside0 (gb276 ≠ gb259) := ⟨h10_⟩
       have n11_ : Aside0 (Below w.heap.size w w37) := ⟨h11_⟩
       clear HO_260000
       clear BK259
       clear HB
       clear h0_ h1_ h2_ h3_ h4_ h5_ h6_ h7_ h8_ h9_ h10_ h11_
       have HO262 := n0_
       have HO266 := n1_
       have HO270 := n2_
       have HO274 := n3_
       have HO_260000 := n4_
       have BK259 := n5_
       have BK276 := n6_
       have GW276 := n7_
       have GE276 := n8_
       have NB259_276 := n9_
       have NB276_259 := n10_
       have HB := n11_
       clear n0_ n1_ n2_ n3_ n4_ n5_ n6_ n7_ n8_ n9_ n10_ n11_
       have hHeld : w37.cell? ⟨gb259, 0, none⟩ = some (.slice Ao16 t255.length co16) ∧ w37.cell? ⟨gb259, 1, none⟩ = some (.int .i64 t258) := hS_
       obtain ⟨Ao38, co38, eo38⟩ := Kd.R_slice HO274.out
       (first | subst eo38 | (injection eo38 with f1_ f2_ f3_; have f4_ := f1_.symm; have f5_ := f3_.symm; clear f1_ f2_ f3_; subst f4_; subst f5_))
       refine norm_ (a' := ?_) ?_ ?_
       rotate_left
       ·simp only [putAll, Act.put, List.setIfInBounds_toArray, List.set_cons_zero, List.set_cons_succ]
        rfl
       refine one_ (i := 8) (N := none) #[true, true, true, true, true, true, true, true, true] rfl rfl (one_of HT_.out (by kernel_rfl)) (by decide) (fun K hK => ?_)
       have hs39 : w37.cell? ⟨gb276, 0, none⟩ = some (.slice none 0 0) := (blk_cell BK276.out 0).trans rfl
       have hfs39 := blk_frozen BK276.out 0
       have hns39_0 := NB259_276.out
       have hms39_0 := NB276_259.out
       have hs40 : w37.cell? ⟨gb276, 1, none⟩ = some (.int .i64 0) := (blk_cell BK276.out 1).trans rfl
       have hfs40 := blk_frozen BK276.out 1
       have hns40_0 := NB259_276.out
       have hms40_0 := NB276_259.out
       refine skip_ (w1 := ?_) (by rfl) rfl ?_ ?_
       rotate_left
       ·go_simp
        rfl
       refine hK.out _ _ ⟨((cell_far (p := ⟨gb276, _, none⟩) NB259_276.out _).trans (((cell_far (p := ⟨gb276, _, none⟩) NB259_276.out _).trans (hHeld.1)))), ((cell_far (p := ⟨gb276, _, none⟩) NB259_276.out _).trans (((cell_far (p := ⟨gb276, _, none⟩) NB259_276.out _).trans (hHeld.2))))⟩ (fun hHeld => ?_)
       clear hK K
       refine done_ (done_of HT_.out (by kernel_rfl)) ?_
       have hnb41 := NB276_259.out
       have hnc41 := NB259_276.out
       have hcz42_0 : w37.cell? ⟨gb276, 0, none⟩ = some (.slice none 0 0) := (blk_cell BK276.out 0).trans rfl
       have hcz42_1 : w37.cell? ⟨gb276, 1, none⟩ = some (.int .i64 0) := (blk_cell BK276.out 1).trans rfl
       have hfz42_0 := blk_frozen BK276.out 0
       have hfz42_1 := blk_frozen BK276.out 1
       go_upto_region 9 with (first | ((with_reducible refine gate_callee (f := 11) rfl ?_); refine goesL_ (some 62) rfl rfl Try.func11 (by kernel_rfl) rfl #[.slice Ao38 t272.length co38, .int .i64 (l0.length : Int)] rfl (by (try simp only [List.map_toArray, List.map_cons, List.map_nil]); first | done | rfl | (simp only [List.length_drop, List.length_take]; rfl)) ?_; (with_reducible refine (dod_Get.calls kj12 _ _ t272 (l0.length : Int) t277 t278 t279 _ ?side1 ?side2 A26.out).mono ?_); (case side1 => refine (Kd.R_reads' (e := 5) (base := w.heap.size) (ok := fun k_ => (some k_ ≠ (v261 : Value).ownBlock ∧ (some k_ ≠ (v265 : Value).ownBlock ∧ (some k_ ≠ (v269 : Value).ownBlock ∧ some k_ ≠ (.slice Ao16 t255.length co16 : Value).ownBlock)))) (n := t272.length) (c := co38) ?_).2.2; exact (by (with_reducible repeat (first | apply Kd.R_alloc | apply Kd.R_drewN | apply Kd.R_drew)); exact (Kd.R_mono (Kd.R_far (p := ⟨gb276, 1, none⟩) (Kd.R_far (p := ⟨gb276, 0, none⟩) (Kd.R_types HO274.out BK276.out (by decide)) (fun _ hk => hk.2) (.slice Ao38 t272.length co38)) (fun _ hk => hk.2) (.int .i64 t275)) (fun _ h_ => h_.1)))); (case side2 => exact (Kd.R_reads' HO274.out).2.1); rintro e w' ⟨rfl, ⟨nd, rfl⟩⟩; refine ⟨_, rfl, ?_⟩; (try simp only [errW_none, errW_some])))
       (try simp only [Act.put, List.setIfInBounds_toArray, List.set_cons_zero, List.set_cons_succ])
       go_cut [78] (fun v78 wc => ∃ (kq : Nat) (x78_26 : Bool), v78 = .bool x78_26 ∧ Aside0 (gaiterlaw05_DodBack.j2 kq l3 a4 t254 x78_26 t255 t258 = some r) ∧ Aside0 (kq ≤ kj12) ∧ Aside0 (Kd.R (Kd.int .u8) 5 wc w.heap.size (fun k_ => some k_ ≠ ((.slice Ao38 t272.length co38) : Value).ownBlock) (.slice Ao16 t255.length co16) t255) ∧ Aside0 (Kd.R (Kd.int .u8) 5 wc w.heap.size (fun k_ => some k_ ≠ ((.slice Ao16 t255.length co16) : Value).ownBlock) (.slice Ao38 t272.length co38) t272) ∧ Aside0 (wc.heap[gb259]? = some (.cells #[(.slice Ao16 t255.length co16), .int .i64 t258] 33 (0, 0))) ∧ Aside0 (wc.heap[gb276]? = some (.cells #[(.slice Ao38 t272.length co38), .int .i64 t275] 33 (0, 0))) ∧ Aside0 (Below w.heap.size w wc))
       case first =>
        have H := HC27.out
        clear HC27
        by_cases c43 : t277 = a1
        ·rw [if_pos c43] at H
         have c43b0 : (t277 == a1) = true := beq_iff_eq.mpr c43
         have c43b1 : (t277 != a1) = false := bne_eq_false_iff_eq.mpr c43
         clear c43
         (first | rw [c43b0] | (simp only [i64_w, i32_w]; rw [c43b0]) | skip)
         by_cases c44 : t278 = t258
         ·rw [if_pos c44] at H
          have c44b0 : (t278 == t258) = true := beq_iff_eq.mpr c44
          have c44b1 : (t278 != t258) = false := bne_eq_false_iff_eq.mpr c44
          clear c44
          rcases t279 with _ | q280
          ·have H1 : (gaiterlaw05_DodBack.j2 kj12 l3 a4 t254 false t255 t258) = some r := by rw [if_pos (show (none : Option Int).isNone = true by rfl)] at H; exact H
           clear H
           have H := H1
           clear H1
           try simp only [errW_none, errW_some]
           have H' := Aside0.mk H
           clear H
           have hnb45 := NB259_276.out
           have hnc45 := NB276_259.out
           have hcz46_0 : w37.cell? ⟨gb259, 0, none⟩ = some (.slice Ao16 t255.length co16) := (blk_cell BK259.out 0).trans rfl
           have hcz46_1 : w37.cell? ⟨gb259, 1, none⟩ = some (.int .i64 t258) := (blk_cell BK259.out 1).trans rfl
           have hfz46_0 := blk_frozen BK259.out 0
           have hfz46_1 := blk_frozen BK259.out 1
           go_wp2
           go_meet
           case rel => exact ⟨_, (false), (by first | rfl | (simp; done) | (simp [*]; done)), H', ⟨by have := HJ6.out; have := HJ12.out; first | omega | exact Nat.le_refl _⟩, ⟨by (with_reducible repeat (first | apply Kd.R_alloc | apply Kd.R_drewN | apply Kd.R_drew)); exact Kd.R_mono (Kd.R_far (p := ⟨gb276, 1, none⟩) (Kd.R_far (p := ⟨gb276, 0, none⟩) (Kd.R_types HO_260000.out BK276.out (by decide)) (fun _ hk => hk.2) (.slice Ao38 t272.length co38)) (fun _ hk => hk.2) (.int .i64 t275)) (fun _ hk => hk.1.2.2.2)⟩, ⟨by (with_reducible repeat (first | apply Kd.R_alloc | apply Kd.R_drewN | apply Kd.R_drew)); exact Kd.R_mono (Kd.R_far (p := ⟨gb276, 1, none⟩) (Kd.R_far (p := ⟨gb276, 0, none⟩) (Kd.R_types HO274.out BK276.out (by decide)) (fun _ hk => hk.2) (.slice Ao38 t272.length co38)) (fun _ hk => hk.2) (.int .i64 t275)) (fun _ hk => hk.1.2.2.2)⟩, ⟨by (with_reducible repeat (first | refine blk_drewN ?_ _ | refine blk_drew ?_ | refine blk_alloc ?_ _)); refine blk_far ?_ NB259_276.out _; (with_reducible repeat (first | refine blk_drewN ?_ _ | refine blk_drew ?_ | refine blk_alloc ?_ _)); refine blk_far ?_ NB259_276.out _; (with_reducible repeat (first | refine blk_drewN ?_ _ | refine blk_drew ?_ | refine blk_alloc ?_ _)); exact BK259.out⟩, ⟨by (with_reducible repeat (first | refine blk_drewN ?_ _ | refine blk_drew ?_ | refine blk_alloc ?_ _)); refine blk_put (cs := #[.slice Ao38 t272.length co38, .int .i64 0]) ?_ 1 _ rfl; (with_reducible repeat (first | refine blk_drewN ?_ _ | refine blk_drew ?_ | refine blk_alloc ?_ _)); refine blk_put (cs := #[.slice none 0 0, .int .i64 0]) ?_ 0 _ rfl; (with_reducible repeat (first | refine blk_drewN ?_ _ | refine blk_drew ?_ | refine blk_alloc ?_ _)); exact BK276.out⟩, ⟨by repeat (first | (with_reducible first | exact HB.out | apply below_alloc | apply pw_below_drewN | apply below_drew1 | refine below_set ?_ GE259.out | refine below_set ?_ GE276.out) | exact HB.out)⟩⟩
          ·have H1 : (gaiterlaw05_DodBack.j2 kj12 l3 a4 t254 true t255 t258) = some r := by rw [if_neg (show ¬ (some q280).isNone = true by simp)] at H; exact H
           clear H
           have H := H1
           clear H1
           try simp only [errW_none, errW_some]
           have H' := Aside0.mk H
           clear H
           have hnb47 := NB259_276.out
           have hnc47 := NB276_259.out
           have hcz48_0 : w37.cell? ⟨gb259, 0, none⟩ = some (.slice Ao16 t255.length co16) := (blk_cell BK259.out 0).trans rfl
           have hcz48_1 : w37.cell? ⟨gb259, 1, none⟩ = some (.int .i64 t258) := (blk_cell BK259.out 1).trans rfl
           have hfz48_0 := blk_frozen BK259.out 0
           have hfz48_1 := blk_frozen BK259.out 1
           go_wp2
           go_meet
           case rel => exact ⟨_, (true), (by first | rfl | (simp; done) | (simp [*]; done)), H', ⟨by have := HJ6.out; have := HJ12.out; first | omega | exact Nat.le_refl _⟩, ⟨by (with_reducible repeat (first | apply Kd.R_alloc | apply Kd.R_drewN | apply Kd.R_drew)); exact Kd.R_mono (Kd.R_far (p := ⟨gb276, 1, none⟩) (Kd.R_far (p := ⟨gb276, 0, none⟩) (Kd.R_types HO_260000.out BK276.out (by decide)) (fun _ hk => hk.2) (.slice Ao38 t272.length co38)) (fun _ hk => hk.2) (.int .i64 t275)) (fun _ hk => hk.1.2.2.2)⟩, ⟨by (with_reducible repeat (first | apply Kd.R_alloc | apply Kd.R_drewN | apply Kd.R_drew)); exact Kd.R_mono (Kd.R_far (p := ⟨gb276, 1, none⟩) (Kd.R_far (p := ⟨gb276, 0, none⟩) (Kd.R_types HO274.out BK276.out (by decide)) (fun _ hk => hk.2) (.slice Ao38 t272.length co38)) (fun _ hk => hk.2) (.int .i64 t275)) (fun _ hk => hk.1.2.2.2)⟩, ⟨by (with_reducible repeat (first | refine blk_drewN ?_ _ | refine blk_drew ?_ | refine blk_alloc ?_ _)); refine blk_far ?_ NB259_276.out _; (with_reducible repeat (first | refine blk_drewN ?_ _ | refine blk_drew ?_ | refine blk_alloc ?_ _)); refine blk_far ?_ NB259_276.out _; (with_reducible repeat (first | refine blk_drewN ?_ _ | refine blk_drew ?_ | refine blk_alloc ?_ _)); exact BK259.out⟩, ⟨by (with_reducible repeat (first | refine blk_drewN ?_ _ | refine blk_drew ?_ | refine blk_alloc ?_ _)); refine blk_put (cs := #[.slice Ao38 t272.length co38, .int .i64 0]) ?_ 1 _ rfl; (with_reducible repeat (first | refine blk_drewN ?_ _ | refine blk_drew ?_ | refine blk_alloc ?_ _)); refine blk_put (cs := #[.slice none 0 0, .int .i64 0]) ?_ 0 _ rfl; (with_reducible repeat (first | refine blk_drewN ?_ _ | refine blk_drew ?_ | refine blk_alloc ?_ _)); exact BK276.out⟩, ⟨by repeat (first | (with_reducible first | exact HB.out | apply below_alloc | apply pw_below_drewN | apply below_drew1 | refine below_set ?_ GE259.out | refine below_set ?_ GE276.out) | exact HB.out)⟩⟩
         ·rw [if_neg c44] at H
          have c44b0 : (t278 == t258) = false := beq_eq_false_iff_ne.mpr c44
          have c44b1 : (t278 != t258) = true := bne_iff_ne.mpr c44
          have H' := Aside0.mk H
          clear H
          have hnb49 := NB259_276.out
          have hnc49 := NB276_259.out
          have hcz50_0 : w37.cell? ⟨gb259, 0, none⟩ = some (.slice Ao16 t255.length co16) := (blk_cell BK259.out 0).trans rfl
          have hcz50_1 : w37.cell? ⟨gb259, 1, none⟩ = some (.int .i64 t258) := (blk_cell BK259.out 1).trans rfl
          have hfz50_0 := blk_frozen BK259.out 0
          have hfz50_1 := blk_frozen BK259.out 1
          go_wp2
          go_meet
          case rel => exact ⟨_, (true), (by first | rfl | (simp; done) | (simp [*]; done)), H', ⟨by have := HJ6.out; have := HJ12.out; first | omega | exact Nat.le_refl _⟩, ⟨by (with_reducible repeat (first | apply Kd.R_alloc | apply Kd.R_drewN | apply Kd.R_drew)); exact Kd.R_mono (Kd.R_far (p := ⟨gb276, 1, none⟩) (Kd.R_far (p := ⟨gb276, 0, none⟩) (Kd.R_types HO_260000.out BK276.out (by decide)) (fun _ hk => hk.2) (.slice Ao38 t272.length co38)) (fun _ hk => hk.2) (.int .i64 t275)) (fun _ hk => hk.1.2.2.2)⟩, ⟨by (with_reducible repeat (first | apply Kd.R_alloc | apply Kd.R_drewN | apply Kd.R_drew)); exact Kd.R_mono (Kd.R_far (p := ⟨gb276, 1, none⟩) (Kd.R_far (p := ⟨gb276, 0, none⟩) (Kd.R_types HO274.out BK276.out (by decide)) (fun _ hk => hk.2) (.slice Ao38 t272.length co38)) (fun _ hk => hk.2) (.int .i64 t275)) (fun _ hk => hk.1.2.2.2)⟩, ⟨by (with_reducible repeat (first | refine blk_drewN ?_ _ | refine blk_drew ?_ | refine blk_alloc ?_ _)); refine blk_far ?_ NB259_276.out _; (with_reducible repeat (first | refine blk_drewN ?_ _ | refine blk_drew ?_ | refine blk_alloc ?_ _)); refine blk_far ?_ NB259_276.out _; (with_reducible repeat (first | refine blk_drewN ?_ _ | refine blk_drew ?_ | refine blk_alloc ?_ _)); exact BK259.out⟩, ⟨by (with_reducible repeat (first | refine blk_drewN ?_ _ | refine blk_drew ?_ | refine blk_alloc ?_ _)); refine blk_put (cs := #[.slice Ao38 t272.length co38, .int .i64 0]) ?_ 1 _ rfl; (with_reducible repeat (first | refine blk_drewN ?_ _ | refine blk_drew ?_ | refine blk_alloc ?_ _)); refine blk_put (cs := #[.slice none 0 0, .int .i64 0]) ?_ 0 _ rfl; (with_reducible repeat (first | refine blk_drewN ?_ _ | refine blk_drew ?_ | refine blk_alloc ?_ _)); exact BK276.out⟩, ⟨by repeat (first | (with_reducible first | exact HB.out | apply below_alloc | apply pw_below_drewN | apply below_drew1 | refine below_set ?_ GE259.out | refine below_set ?_ GE276.out) | exact HB.out)⟩⟩
        ·rw [if_neg c43] at H
         have c43b0 : (t277 == a1) = false := beq_eq_false_iff_ne.mpr c43
         have c43b1 : (t277 != a1) = true := bne_iff_ne.mpr c43
         (first | rw [c43b0] | (simp only [i64_w, i32_w]; rw [c43b0]) | skip)
         have H' := Aside0.mk H
         clear H
         go_wp2
         go_meet
         case rel => exact ⟨_, (true), (by first | rfl | (simp; done) | (simp [*]; done)), H', ⟨by have := HJ6.out; have := HJ12.out; first | omega | exact Nat.le_refl _⟩, ⟨by (with_reducible repeat (first | apply Kd.R_alloc | apply Kd.R_drewN | apply Kd.R_drew)); exact Kd.R_mono (Kd.R_far (p := ⟨gb276, 1, none⟩) (Kd.R_far (p := ⟨gb276, 0, none⟩) (Kd.R_types HO_260000.out BK276.out (by decide)) (fun _ hk => hk.2) (.slice Ao38 t272.length co38)) (fun _ hk => hk.2) (.int .i64 t275)) (fun _ hk => hk.1.2.2.2)⟩, ⟨by (with_reducible repeat (first | apply Kd.R_alloc | apply Kd.R_drewN | apply Kd.R_drew)); exact Kd.R_mono (Kd.R_far (p := ⟨gb276, 1, none⟩) (Kd.R_far (p := ⟨gb276, 0, none⟩) (Kd.R_types HO274.out BK276.out (by decide)) (fun _ hk => hk.2) (.slice Ao38 t272.length co38)) (fun _ hk => hk.2) (.int .i64 t275)) (fun _ hk => hk.1.2.2.2)⟩, ⟨by (with_reducible repeat (first | refine blk_drewN ?_ _ | refine blk_drew ?_ | refine blk_alloc ?_ _)); refine blk_far ?_ NB259_276.out _; (with_reducible repeat (first | refine blk_drewN ?_ _ | refine blk_drew ?_ | refine blk_alloc ?_ _)); refine blk_far ?_ NB259_276.out _; (with_reducible repeat (first | refine blk_drewN ?_ _ | refine blk_drew ?_ | refine blk_alloc ?_ _)); exact BK259.out⟩, ⟨by (with_reducible repeat (first | refine blk_drewN ?_ _ | refine blk_drew ?_ | refine blk_alloc ?_ _)); refine blk_put (cs := #[.slice Ao38 t272.length co38, .int .i64 0]) ?_ 1 _ rfl; (with_reducible repeat (first | refine blk_drewN ?_ _ | refine blk_drew ?_ | refine blk_alloc ?_ _)); refine blk_put (cs := #[.slice none 0 0, .int .i64 0]) ?_ 0 _ rfl; (with_reducible repeat (first | refine blk_drewN ?_ _ | refine blk_drew ?_ | refine blk_alloc ?_ _)); exact BK276.out⟩, ⟨by repeat (first | (with_reducible first | exact HB.out | apply below_alloc | apply pw_below_drewN | apply below_drew1 | refine below_set ?_ GE259.out | refine below_set ?_ GE276.out) | exact HB.out)⟩⟩
       case rest =>
        clear HC27
        try clear c1
        try clear c2
        try clear p2
        try clear q2
        try clear c4
        try clear c11
        try clear c18
        try clear c19
        try clear q28
        try clear c41
        try clear c43
        try clear c43b0
        try clear c43b1
        try clear c44
        try clear c44b0
        try clear c44b1
        try clear c45
        try clear c47
        try clear c49
        try clear hcz42_0
        try clear hcz42_1
        try clear hcz46_0
        try clear hcz46_1
        try clear hcz48_0
        try clear hcz48_1
        try clear hcz50_0
        try clear hcz50_1
        try clear hfz42_0
        try clear hfz42_1
        try clear hfz46_0
        try clear hfz46_1
        try clear hfz48_0
        try clear hfz48_1
        try clear hfz50_0
        try clear hfz50_1
        try clear q280
        obtain ⟨kq, x78_26, rfl, HA, HJ26, HO_260000, HO_277000, BK259, BK276, HB⟩ := hcut
        cases kq with
        | zero => exact absurd HA.out (by simp [gaiterlaw05_DodBack.j2])
        | succ kj26 =>
         have H := HA.out
         clear HA
         simp only [gaiterlaw05_DodBack.j2] at H
         by_cases c51 : x78_26 = true
         ·subst c51
          have H1 : (some false) = some r := by rw [if_pos rfl] at H; exact H
          clear H
          have H := H1
          clear H1
          obtain rfl := Option.some.inj H
          go_wp2
          go_ret
          exact ⟨by first | rfl | (simp [errW_none, errW_some] <;> rfl) | (simp [*, errW_none, errW_some] <;> rfl), by repeat (first | (with_reducible first | exact HB.out | apply below_alloc | apply pw_below_drewN | apply below_drew1 | refine below_set ?_ GE259.out | refine below_set ?_ GE276.out) | exact HB.out)⟩
         ·replace c51 := Bool.eq_false_iff.mpr c51
          subst c51
          have H1 : ((gaiterlaw00_Pick.f a4 t258).bind fun t281 => ((bits_Put.f kj26 ([] : List Int) 0 0 (Int.tmod (wrap64 (64 - (Int.tmod t281 8))) 8)).bind fun bt282 => ((bits_Join.f kj26 bt282.1 bt282.2 t255 t258).bind fun bt286 => (if 0 ≤ (mn (bt286.1.length : Int) (wrap64 (Int.tdiv (wrap64 ((Int.tmod (wrap64 (64 - (Int.tmod t281 8))) 8) + t281)) 8))) then (if (mn (bt286.1.length : Int) (wrap64 (Int.tdiv (wrap64 ((Int.tmod (wrap64 (64 - (Int.tmod t281 8))) 8) + t281)) 8))) ≤ (bt286.1.length : Int) then ((dod_Get.f kj26 (bt286.1.take ((mn (bt286.1.length : Int) (wrap64 (Int.tdiv (wrap64 ((Int.tmod (wrap64 (64 - (Int.tmod t281 8))) 8) + t281)) 8))) : Int).toNat) (Int.tmod (wrap64 (64 - (Int.tmod t281 8))) 8)).bind fun bt295 => (gaiterlaw05_DodBack.j3 kj26 l3 t254 bt295.2.2)) else (none)) else (none))))) = some r := by rw [if_neg (show ¬ (false = true) by decide)] at H; exact H
          clear H
          have H := H1
          clear H1
          replace H := Option.bind_eq_some_iff.mp H
          obtain ⟨t281, A520, H⟩ := H
          replace H : ((bits_Put.f kj26 ([] : List Int) 0 0 (Int.tmod (wrap64 (64 - (Int.tmod t281 8))) 8)).bind fun bt282 => ((bits_Join.f kj26 bt282.1 bt282.2 t255 t258).bind fun bt286 => (if 0 ≤ (mn (bt286.1.length : Int) (wrap64 (Int.tdiv (wrap64 ((Int.tmod (wrap64 (64 - (Int.tmod t281 8))) 8) + t281)) 8))) then (if (mn (bt286.1.length : Int) (wrap64 (Int.tdiv (wrap64 ((Int.tmod (wrap64 (64 - (Int.tmod t281 8))) 8) + t281)) 8))) ≤ (bt286.1.length : Int) then ((dod_Get.f kj26 (bt286.1.take ((mn (bt286.1.length : Int) (wrap64 (Int.tdiv (wrap64 ((Int.tmod (wrap64 (64 - (Int.tmod t281 8))) 8) + t281)) 8))) : Int).toNat) (Int.tmod (wrap64 (64 - (Int.tmod t281 8))) 8)).bind fun bt295 => (gaiterlaw05_DodBack.j3 kj26 l3 t254 bt295.2.2)) else (none)) else (none)))) = some r := H
          have A52 := Aside0.mk A520
          clear A520
          replace H := Option.bind_eq_some_iff.mp H
          obtain ⟨⟨t282, t285⟩, A530, H⟩ := H
          replace H : ((bits_Join.f kj26 t282 t285 t255 t258).bind fun bt286 => (if 0 ≤ (mn (bt286.1.length : Int) (wrap64 (Int.tdiv (wrap64 ((Int.tmod (wrap64 (64 - (Int.tmod t281 8))) 8) + t281)) 8))) then (if (mn (bt286.1.length : Int) (wrap64 (Int.tdiv (wrap64 ((Int.tmod (wrap64 (64 - (Int.tmod t281 8))) 8) + t281)) 8))) ≤ (bt286.1.length : Int) then ((dod_Get.f kj26 (bt286.1.take ((mn (bt286.1.length : Int) (wrap64 (Int.tdiv (wrap64 ((Int.tmod (wrap64 (64 - (Int.tmod t281 8))) 8) + t281)) 8))) : Int).toNat) (Int.tmod (wrap64 (64 - (Int.tmod t281 8))) 8)).bind fun bt295 => (gaiterlaw05_DodBack.j3 kj26 l3 t254 bt295.2.2)) else (none)) else (none))) = some r := H
          have A53 := Aside0.mk A530
          clear A530
          replace H := Option.bind_eq_some_iff.mp H
          obtain ⟨⟨t286, t289⟩, A540, H⟩ := H
          replace H : (if 0 ≤ (mn (t286.length : Int) (wrap64 (Int.tdiv (wrap64 ((Int.tmod (wrap64 (64 - (Int.tmod t281 8))) 8) + t281)) 8))) then (if (mn (t286.length : Int) (wrap64 (Int.tdiv (wrap64 ((Int.tmod (wrap64 (64 - (Int.tmod t281 8))) 8) + t281)) 8))) ≤ (t286.length : Int) then ((dod_Get.f kj26 (t286.take ((mn (t286.length : Int) (wrap64 (Int.tdiv (wrap64 ((Int.tmod (wrap64 (64 - (Int.tmod t281 8))) 8) + t281)) 8))) : Int).toNat) (Int.tmod (wrap64 (64 - (Int.tmod t281 8))) 8)).bind fun bt295 => (gaiterlaw05_DodBack.j3 kj26 l3 t254 bt295.2.2)) else (none)) else (none)) = some r := H
          have A54 := Aside0.mk A540
          clear A540
          have HC55 := Aside0.mk H
          clear H
          have hnb56 := NB259_276.out
          have hnc56 := NB276_259.out
          have hcz57_0 : wc.cell? ⟨gb259, 0, none⟩ = some (.slice Ao16 t255.length co16) := (blk_cell BK259.out 0).trans rfl
          have hcz57_1 : wc.cell? ⟨gb259, 1, none⟩ = some (.int .i64 t258) := (blk_cell BK259.out 1).trans rfl
          have hfz57_0 := blk_frozen BK259.out 0
          have hfz57_1 := blk_frozen BK259.out 1
          try go_wp2_with (first | ((with_reducible refine gate_callee (f := 20) rfl ?_); refine goesL_ (some 82) rfl rfl Try.func20 (by kernel_rfl) rfl #[.int .i64 a4, .int .i64 t258] rfl (by (try simp only [List.map_toArray, List.map_cons, List.map_nil]); first | done | rfl | (simp only [List.length_drop, List.length_take]; rfl)) ?_; (with_reducible refine (gaiterlaw00_Pick.calls a4 t258 t281 _ A52.out).mono ?_); rintro e w' ⟨rfl, ⟨nd, rfl⟩⟩; refine ⟨_, rfl, ?_⟩; (try (rw [drewN_self wc]; generalize hq_ : World.drewN wc _ = wc; have n0_ : Aside0 (Kd.R (Kd.int .u8) 5 wc w.heap.size (fun k_ => some k_ ≠ (.slice Ao38 t272.length co38 : Value).ownBlock) (.slice Ao16 t255.length co16) t255) := ⟨by rw [← hq_]; exact (by (with_reducible repeat (first | apply Kd.R_alloc | apply Kd.R_drewN | apply Kd.R_drew)); exact HO_260000.out)⟩; have n1_ : Aside0 (Kd.R (Kd.int .u8) 5 wc w.heap.size (fun k_ => some k_ ≠ (.slice Ao16 t255.length co16 : Value).ownBlock) (.slice Ao38 t272.length co38) t272) := ⟨by rw [← hq_]; exact (by (with_reducible repeat (first | apply Kd.R_alloc | apply Kd.R_drewN | apply Kd.R_drew)); exact HO_277000.out)⟩; have n2_ : Aside0 (wc.heap[gb259]? = some (.cells #[.slice Ao16 t255.length co16, .int .i64 t258] 33 (0, 0))) := ⟨by rw [← hq_]; exact (by (with_reducible repeat (first | refine blk_drewN ?_ _ | refine blk_drew ?_ | refine blk_alloc ?_ _)); exact BK259.out)⟩; have n3_ : Aside0 (wc.heap[gb276]? = some (.cells #[.slice Ao38 t272.length co38, .int .i64 t275] 33 (0, 0))) := ⟨by rw [← hq_]; exact (by (with_reducible repeat (first | refine blk_drewN ?_ _ | refine blk_drew ?_ | refine blk_alloc ?_ _)); exact BK276.out)⟩; have n4_ : Aside0 (Below w.heap.size w wc) := ⟨by rw [← hq_]; exact (by repeat (first | (with_reducible first | exact HB.out | apply below_alloc | apply pw_below_drewN | apply below_drew1 | refine below_set ?_ GE259.out | refine below_set ?_ GE276.out) | exact HB.out))⟩; clear HO_260000 HO_277000 BK259 BK276 HB hq_; have HO_260000 := n0_; have HO_277000 := n1_; have BK259 := n2_; have BK276 := n3_; have HB := n4_; clear n0_ n1_ n2_ n3_ n4_))))
          have n0_ := Aside0.mk (Kd.R_drew HO_260000.out)
          have n1_ := Aside0.mk (Kd.R_drew HO_277000.out)
          have n2_ := Aside0.mk (blk_drew BK259.out)
          have n3_ := Aside0.mk (blk_drew BK276.out)
          have n4_ := Aside0.mk (below_drew1 HB.out)
          clear HO_260000
          clear HO_277000
          clear BK259
          clear BK276
          clear HB
          have HO_260000 := n0_
          have HO_277000 := n1_
          have BK259 := n2_
          have BK276 := n3_
          have HB := n4_
          clear n0_ n1_ n2_ n3_ n4_
          refine start_ (n := 14) (S := fun w' => w'.cell? ⟨gb259, 0, none⟩ = some (.slice Ao16 t255.length co16) ∧ w'.cell? ⟨gb259, 1, none⟩ = some (.int .i64 t258)) (ds := []) #[false, false, false, false, false, false, false, false, false, false, false, false, false, false] (by kernel_rfl) rfl rfl ⟨(blk_cell BK259.out 0).trans rfl, (blk_cell BK259.out 1).trans rfl⟩ (fun hHeld => ?_); refine with_tabW gaiterlaw05_DodBack.tab12 gaiterlaw05_DodBack.bits12 (fun HT_ HW_ => ?_)
          generalize wc.drew = w58 at HO_260000 HO_277000 BK259 BK276 HB hHeld ⊢
          refine pure_ (i := 0) (N := some 83) (v := ?_) (a' := ?_) #[true, false, false, false, false, false, false, false, false, false, false, false, false, false] rfl rfl (any_of HT_.out (by kernel_rfl)) (fun _ _ _ h => h) (Or.inl ⟨by rfl, ?_⟩) ?_ ?_
          rotate_left
          ·intro w'
           go_simp
           with_reducible rfl
          rotate_left
          ·simp only [Act.put, List.setIfInBounds_toArray, List.set_cons_zero, List.set_cons_succ, i64_w, i32_w]
           rfl
          refine pure_ (i := 1) (N := some 84) (v := ?_) (a' := ?_) #[true, true, false, false, false, false, false, false, false, false, false, false, false, false] rfl rfl (any_of HT_.out (by kernel_rfl)) (fun _ _ _ h => h) (Or.inl ⟨by rfl, ?_⟩) ?_ ?_
          rotate_left
          ·intro w'
           go_simp
           with_reducible rfl
          rotate_left
          ·simp only [Act.put, List.setIfInBounds_toArray, List.set_cons_zero, List.set_cons_succ, i64_w, i32_w]
           rfl
          refine pure_ (i := 2) (N := some 85) (v := ?_) (a' := ?_) #[true, true, true, false, false, false, false, false, false, false, false, false, false, false] rfl rfl (any_of HT_.out (by kernel_rfl)) (fun _ _ _ h => h) (Or.inl ⟨by rfl, ?_⟩) ?_ ?_
          rotate_left
          ·intro w'
           go_simp
           with_reducible rfl
          rotate_left
          ·simp only [Act.put, List.setIfInBounds_toArray, List.set_cons_zero, List.set_cons_succ, i64_w, i32_w]
           rfl
          refine pure_ (i := 3) (N := some 86) (v := ?_) (a' := ?_) #[true, true, true, true, false, false, false, false, false, false, false, false, false, false] rfl rfl (any_of HT_.out (by kernel_rfl)) (fun _ _ _ h => h) (Or.inl ⟨by rfl, ?_⟩) ?_ ?_
          rotate_left
          ·intro w'
           go_simp
           with_reducible rfl
          rotate_left
          ·simp only [Act.put, List.setIfInBounds_toArray, List.set_cons_zero, List.set_cons_succ, i64_w, i32_w]
           rfl
          refine pure_ (i := 4) (N := some 87) (v := ?_) (a' := ?_) #[true, true, true, true, true, false, false, false, false, false, false, false, false, false] rfl rfl (any_of HT_.out (by kernel_rfl)) (fun _ _ _ h => h) (Or.inl ⟨by rfl, ?_⟩) ?_ ?_
          rotate_left
          ·intro w'
           go_simp
           with_reducible rfl
          rotate_left
          ·simp only [Act.put, List.setIfInBounds_toArray, List.set_cons_zero, List.set_cons_succ, i64_w, i32_w]
           rfl
          refine pure_ (i := 6) (N := some 89) (v := ?_) (a' := ?_) #[true, true, true, true, true, false, true, false, false, false, false, false, false, false] rfl rfl (any_of HT_.out (by kernel_rfl)) (fun _ _ _ h => h) (Or.inl ⟨by rfl, ?_⟩) ?_ ?_
          rotate_left
          ·intro w'
           go_simp
           with_reducible rfl
          rotate_left
          ·simp only [Act.put, List.setIfInBounds_toArray, List.set_cons_zero, List.set_cons_succ, i64_w, i32_w]
           rfl
          refine pure_ (i := 8) (N := some 91) (v := ?_) (a' := ?_) #[true, true, true, true, true, false, true, false, true, false, false, false, false, false] rfl rfl (any_of HT_.out (by kernel_rfl)) (fun _ _ _ h => h) (Or.inl ⟨by rfl, ?_⟩) ?_ ?_
          rotate_left
          ·intro w'
           go_simp
           with_reducible rfl
          rotate_left
          ·simp only [Act.put, List.setIfInBounds_toArray, List.set_cons_zero, List.set_cons_succ, i64_w, i32_w]
           rfl
          refine take_ (i := 7) (N := some 90) (v := ?_) (a' := ?_) #[true, true, true, true, true, false, true, true, true, false, false, false, false, false] rfl rfl (take_ofW HT_.out HW_.out (by kernel_rfl)) (fun _ _ _ h => h) (Or.inl ⟨by rfl, ?_⟩) hHeld ?_ ?_
          rotate_left
          ·rintro w' ⟨s0, s1⟩
           go_simp
           with_reducible rfl
          rotate_left
          ·simp only [Act.put, List.setIfInBounds_toArray, List.set_cons_zero, List.set_cons_succ, i64_w, i32_w]
           rfl
          refine take_ (i := 9) (N := some 92) (v := ?_) (a' := ?_) #[true, true, true, true, true, false, true, true, true, true, false, false, false, false] rfl rfl (take_ofW HT_.out HW_.out (by kernel_rfl)) (fun _ _ _ h => h) (Or.inl ⟨by rfl, ?_⟩) hHeld ?_ ?_
          rotate_left
          ·rintro w' ⟨s0, s1⟩
           go_simp
           with_reducible rfl
          rotate_left
          ·simp only [Act.put, List.setIfInBounds_toArray, List.set_cons_zero, List.set_cons_succ, i64_w, i32_w]
           rfl
          refine pure_ (i := 10) (N := some 93) (v := ?_) (a' := ?_) #[true, true, true, true, true, false, true, true, true, true, true, false, false, false] rfl rfl (any_of HT_.out (by kernel_rfl)) (fun _ _ _ h => h) (Or.inl ⟨by rfl, ?_⟩) ?_ ?_
          rotate_left
          ·intro w'
           go_simp
           with_reducible rfl
          rotate_left
          ·simp only [Act.put, List.setIfInBounds_toArray, List.set_cons_zero, List.set_cons_succ, i64_w, i32_w]
           rfl
          refine join_ (σ := Value × Value × Nat) 1 #[true, true, true, true, true, true, true, true, true, true, true, true, true, false] (fun s_ => [(88, .agg #[s_.1, .int .i64 t285]), (94, .agg #[s_.2.1, .int .i64 t289]), (18, .pointer (some ⟨s_.2.2, 0, none⟩))]) (fun s_ w' => (w'.cell? ⟨gb259, 0, none⟩ = some (.slice Ao16 t255.length co16) ∧ w'.cell? ⟨gb259, 1, none⟩ = some (.int .i64 t258)) ∧ (Kd.R (Kd.int .u8) 5 w' w.heap.size (fun k_ => some k_ ≠ (s_.2.1 : Value).ownBlock ∧ some k_ ≠ (.slice Ao16 t255.length co16 : Value).ownBlock ∧ some k_ ≠ (.slice Ao38 t272.length co38 : Value).ownBlock) s_.1 t282) ∧ (Kd.R (Kd.int .u8) 5 w' w.heap.size (fun k_ => some k_ ≠ (s_.1 : Value).ownBlock ∧ some k_ ≠ (.slice Ao16 t255.length co16 : Value).ownBlock ∧ some k_ ≠ (.slice Ao38 t272.length co38 : Value).ownBlock) s_.2.1 t286) ∧ (Kd.R (Kd.int .u8) 5 w' w.heap.size (fun k_ => some k_ ≠ (s_.1 : Value).ownBlock ∧ some k_ ≠ (s_.2.1 : Value).ownBlock ∧ some k_ ≠ (.slice Ao38 t272.length co38 : Value).ownBlock) (.slice Ao16 t255.length co16) t255) ∧ (Kd.R (Kd.int .u8) 5 w' w.heap.size (fun k_ => some k_ ≠ (s_.1 : Value).ownBlock ∧ some k_ ≠ (s_.2.1 : Value).ownBlock ∧ some k_ ≠ (.slice Ao16 t255.length co16 : Value).ownBlock) (.slice Ao38 t272.length co38) t272) ∧ (w'.heap[gb259]? = some (.cells #[.slice Ao16 t255.length co16, .int .i64 t258] 33 (0, 0))) ∧ (w'.heap[gb276]? = some (.cells #[.slice Ao38 t272.length co38, .int .i64 t275] 33 (0, 0))) ∧ (w'.heap[s_.2.2]? = some (.cells #[.slice none 0 0, .int .i64 0] 33 (0, 0))) ∧ (w.heap.size ≤ s_.2.2) ∧ (w.heap.size ≤ s_.2.2) ∧ (gb259 ≠ s_.2.2) ∧ (s_.2.2 ≠ gb259) ∧ (gb276 ≠ s_.2.2) ∧ (s_.2.2 ≠ gb276) ∧ (Below w.heap.size w w')) ?_ ?_
          rotate_left
          ·intro hCont
           refine two_ (i := 5) (j := 12) (Ni := some 88) (Nj := some 18) #[true, true, true, true, true, true, true, true, true, true, true, false, false, false] #[true, true, true, true, true, false, true, true, true, true, true, false, true, false] rfl rfl rfl rfl (two_of HT_.out (by kernel_rfl)) (by decide) (by decide) (fun K hK => ?_) (fun K hK => ?_)
           ·skip
            refine goes_ Try.func21 (by kernel_rfl) rfl #[.agg #[.slice none 0 0, .int .i64 0], .int .u64 0, .int .i64 (Int.tmod (wrap64 (64 - (Int.tmod t281 8))) 8)] (by rfl) rfl rfl (by (try simp only [List.map_toArray, List.map_cons, List.map_nil]); first | done | rfl | (simp only [List.length_drop, List.length_take]; rfl)) ?_
            refine (bits_Put.calls kj26 _ _ ([] : List Int) 0 0 (Int.tmod (wrap64 (64 - (Int.tmod t281 8))) 8) t282 t285 _ ?side1 ?side2 A53.out).mono ?_
            (case side1 => exact Kd.C_nil _ _)
            (case side2 => exact Nat.le_refl _)
            rintro e w59 ⟨v283, rfl, ho0, hb⟩
            refine ⟨_, rfl, ?_⟩
            have n0_ := Aside0.mk (Kd.R_elder' (by (with_reducible repeat (first | apply Kd.R_alloc | apply Kd.R_drewN | apply Kd.R_drew)); exact HO_260000.out) (Kd.R_base ho0) hb)
            have n1_ := Aside0.mk (Kd.R_elder' (by (with_reducible repeat (first | apply Kd.R_alloc | apply Kd.R_drewN | apply Kd.R_drew)); exact HO_277000.out) (Kd.R_base ho0) hb)
            have n2_ := Aside0.mk (Kd.R_lower (Kd.R_new' (Kd.R_new' ho0 (Kd.R_lt (by (with_reducible repeat (first | apply Kd.R_alloc | apply Kd.R_drewN | apply Kd.R_drew)); exact HO_260000.out))) (Kd.R_lt (by (with_reducible repeat (first | apply Kd.R_alloc | apply Kd.R_drewN | apply Kd.R_drew)); exact HO_277000.out))) (below_size (by repeat (first | (with_reducible first | exact HB.out | apply below_alloc | apply pw_below_drewN | apply below_drew1 | refine below_set ?_ GE259.out | refine below_set ?_ GE276.out) | exact HB.out))))
            have n3_ := Aside0.mk (blk_below (g := gb259) (o := .cells #[.slice Ao16 t255.length co16, .int .i64 t258] 33 (0, 0)) (by (with_reducible repeat (first | refine blk_drewN ?_ _ | refine blk_drew ?_ | refine blk_alloc ?_ _)); exact BK259.out) hb)
            have n4_ := Aside0.mk (blk_below (g := gb276) (o := .cells #[.slice Ao38 t272.length co38, .int .i64 t275] 33 (0, 0)) (by (with_reducible repeat (first | refine blk_drewN ?_ _ | refine blk_drew ?_ | refine blk_alloc ?_ _)); exact BK276.out) hb)
            have n5_ := Aside0.mk (below_step (by repeat (first | (with_reducible first | exact HB.out | apply below_alloc | apply pw_below_drewN | apply below_drew1 | refine below_set ?_ GE259.out | refine below_set ?_ GE276.out) | exact HB.out)) hb)
            clear HO_260000
            clear HO_277000
            clear BK259
            clear BK276
            clear HB
            have HO_260000 := n0_
            have HO_277000 := n1_
            have HO284 := n2_
            have BK259 := n3_
            have BK276 := n4_
            have HB := n5_
            clear n0_ n1_ n2_ n3_ n4_ n5_
            (try clear hb)
            (try clear hb2)
            (try clear hk)
            (try clear hi)
            (try clear ho0)
            obtain ⟨Ao60, co60, eo60⟩ := Kd.R_slice HO284.out
            (first | subst eo60 | (injection eo60 with f1_ f2_ f3_; have f4_ := f1_.symm; have f5_ := f3_.symm; clear f1_ f2_ f3_; subst f4_; subst f5_))
            refine hK.out _ _ ⟨(blk_cell BK259.out 0).trans rfl, (blk_cell BK259.out 1).trans rfl⟩ (fun hHeld => ?_)
            clear hK K
            refine norm_ (a' := ?_) ?_ ?_
            rotate_left
            ·show Act.put _ (some 88) _ = _
             simp only [Act.put, List.setIfInBounds_toArray, List.set_cons_zero, List.set_cons_succ, i64_w, i32_w]
             rfl
            refine two_ (i := 11) (j := 12) (Ni := some 94) (Nj := some 18) #[true, true, true, true, true, true, true, true, true, true, true, true, false, false] #[true, true, true, true, true, true, true, true, true, true, true, false, true, false] rfl rfl rfl rfl (two_of HT_.out (by kernel_rfl)) (by decide) (by decide) (fun K hK => ?_) (fun K hK => ?_)
            ·skip
             refine goes_ Try.func18 (by kernel_rfl) rfl #[.agg #[.slice Ao60 t282.length co60, .int .i64 t285], .agg #[.slice Ao16 t255.length co16, .int .i64 t258]] (by rfl) rfl rfl (by (try simp only [List.map_toArray, List.map_cons, List.map_nil]); first | done | rfl | (simp only [List.length_drop, List.length_take]; rfl)) ?_
             with_reducible refine (bits_Join.calls kj26 _ _ t282 t285 _ _ t255 t258 t286 t289 _ ?side1 ?side2 ?side3 ?side4 A54.out).mono ?_
             (case side1 => repeat (first | exact (Kd.R_reads' HO284.out).2.2 | (with_reducible refine Kd.C_alloc ?_ _) | (with_reducible refine Kd.C_drewN ?_ _) | (with_reducible refine Kd.C_drew ?_)))
             (case side2 => exact (Kd.R_reads' HO284.out).2.1)
             (case side3 => repeat (first | exact (Kd.R_reads' HO_260000.out).2.2 | (with_reducible refine Kd.C_alloc ?_ _) | (with_reducible refine Kd.C_drewN ?_ _) | (with_reducible refine Kd.C_drew ?_)))
             (case side4 => exact (Kd.R_reads' HO_260000.out).2.1)
             rintro e w61 ⟨v287, rfl, ho0, hb⟩
             refine ⟨_, rfl, ?_⟩
             have n0_ := Aside0.mk (Kd.R_elder' (by (with_reducible repeat (first | apply Kd.R_alloc | apply Kd.R_drewN | apply Kd.R_drew)); exact HO_260000.out) (Kd.R_base ho0) hb)
             have n1_ := Aside0.mk (Kd.R_elder' (by (with_reducible repeat (first | apply Kd.R_alloc | apply Kd.R_drewN | apply Kd.R_drew)); exact HO_277000.out) (Kd.R_base ho0) hb)
             have n2_ := Aside0.mk (Kd.R_elder' (by (with_reducible repeat (first | apply Kd.R_alloc | apply Kd.R_drewN | apply Kd.R_drew)); exact HO284.out) (Kd.R_base ho0) hb)
             have n3_ := Aside0.mk (Kd.R_lower (Kd.R_new' (Kd.R_new' (Kd.R_new' ho0 (Kd.R_lt (by (with_reducible repeat (first | apply Kd.R_alloc | apply Kd.R_drewN | apply Kd.R_drew)); exact HO_260000.out))) (Kd.R_lt (by (with_reducible repeat (first | apply Kd.R_alloc | apply Kd.R_drewN | apply Kd.R_drew)); exact HO_277000.out))) (Kd.R_lt (by (with_reducible repeat (first | apply Kd.R_alloc | apply Kd.R_drewN | apply Kd.R_drew)); exact HO284.out))) (below_size (by repeat (first | (with_reducible first | exact HB.out | apply below_alloc | apply pw_below_drewN | apply below_drew1 | refine below_set ?_ GE259.out | refine below_set ?_ GE276.out) | exact HB.out))))
             have n4_ := Aside0.mk (blk_below (g := gb259) (o := .cells #[.slice Ao16 t255.length co16, .int .i64 t258] 33 (0, 0)) (by (with_reducible repeat (first | refine blk_drewN ?_ _ | refine blk_drew ?_ | refine blk_alloc ?_ _)); exact BK259.out) hb)
             have n5_ := Aside0.mk (blk_below (g := gb276) (o := .cells #[.slice Ao38 t272.length co38, .int .i64 t275] 33 (0, 0)) (by (with_reducible repeat (first | refine blk_drewN ?_ _ | refine blk_drew ?_ | refine blk_alloc ?_ _)); exact BK276.out) hb)
             have n6_ := Aside0.mk (below_step (by repeat (first | (with_reducible first | exact HB.out | apply below_alloc | apply pw_below_drewN | apply below_drew1 | refine below_set ?_ GE259.out | refine below_set ?_ GE276.out) | exact HB.out)) hb)
             clear HO_260000
             clear HO_277000
             clear HO284
             clear BK259
             clear BK276
             clear HB
             have HO_260000 := n0_
             have HO_277000 := n1_
             have HO284 := n2_
             have HO288 := n3_
             have BK259 := n4_
             have BK276 := n5_
             have HB := n6_
             clear n0_ n1_ n2_ n3_ n4_ n5_ n6_
             (try clear hb)
             (try clear hb2)
             (try clear hk)
             (try clear hi)
             (try clear ho0)
             refine hK.out _ _ ⟨(blk_cell BK259.out 0).trans rfl, (blk_cell BK259.out 1).trans rfl⟩ (fun hHeld => ?_)
             clear hK K
             refine norm_ (a' := ?_) ?_ ?_
             rotate_left
             ·show Act.put _ (some 94) _ = _
              simp only [Act.put, List.setIfInBounds_toArray, List.set_cons_zero, List.set_cons_succ, i64_w, i32_w]
              rfl
             refine one_ (i := 12) (N := some 18) #[true, true, true, true, true, true, true, true, true, true, true, true, true, false] rfl rfl (one_of HT_.out (by kernel_rfl)) (by decide) (fun K hK => ?_)
             refine box_step ?hg (N := 18) ?hd (cs := #[.slice none 0 0, .int .i64 0]) (t := 33) ?hr ?_; (case hd => rfl); (case hg => rfl); (case hr => first | (go_simp; done) | (go_simp; rfl))
             intro gb290 hg w62 hbox hb
             have n0_ := Aside0.mk (Kd.R_below (by (with_reducible repeat (first | apply Kd.R_alloc | apply Kd.R_drewN | apply Kd.R_drew)); exact HO_260000.out) hb)
             have n1_ := Aside0.mk (Kd.R_below (by (with_reducible repeat (first | apply Kd.R_alloc | apply Kd.R_drewN | apply Kd.R_drew)); exact HO_277000.out) hb)
             have n2_ := Aside0.mk (Kd.R_below (by (with_reducible repeat (first | apply Kd.R_alloc | apply Kd.R_drewN | apply Kd.R_drew)); exact HO284.out) hb)
             have n3_ := Aside0.mk (Kd.R_below (by (with_reducible repeat (first | apply Kd.R_alloc | apply Kd.R_drewN | apply Kd.R_drew)); exact HO288.out) hb)
             have n4_ := Aside0.mk (blk_below (g := gb259) (o := .cells #[.slice Ao16 t255.length co16, .int .i64 t258] 33 (0, 0)) (by (with_reducible repeat (first | refine blk_drewN ?_ _ | refine blk_drew ?_ | refine blk_alloc ?_ _)); exact BK259.out) hb)
             have n5_ := Aside0.mk (blk_below (g := gb276) (o := .cells #[.slice Ao38 t272.length co38, .int .i64 t275] 33 (0, 0)) (by (with_reducible repeat (first | refine blk_drewN ?_ _ | refine blk_drew ?_ | refine blk_alloc ?_ _)); exact BK276.out) hb)
             have n6_ := Aside0.mk (below_step (by repeat (first | (with_reducible first | exact HB.out | apply below_alloc | apply pw_below_drewN | apply below_drew1 | refine below_set ?_ GE259.out | refine below_set ?_ GE276.out) | exact HB.out)) hb)
             have n7_ := Aside0.mk (hbox)
             have n8_ := Aside0.mk ((by rw [hg]; exact (below_size (by repeat (first | (with_reducible first | exact HB.out | apply below_alloc | apply pw_below_drewN | apply below_drew1 | refine below_set ?_ GE259.out | refine below_set ?_ GE276.out) | exact HB.out))) : w.heap.size ≤ gb290))
             have n9_ := Aside0.mk ((by rw [hg]; exact (below_size (by repeat (first | (with_reducible first | exact HB.out | apply below_alloc | apply pw_below_drewN | apply below_drew1 | refine below_set ?_ GE259.out | refine below_set ?_ GE276.out) | exact HB.out))) : w.heap.size ≤ gb290))
             have n10_ := Aside0.mk ((by rw [hg]; exact Nat.ne_of_lt (blk_lt (g := gb259) (o := .cells #[.slice Ao16 t255.length co16, .int .i64 t258] 33 (0, 0)) (by (with_reducible repeat (first | refine blk_drewN ?_ _ | refine blk_drew ?_ | refine blk_alloc ?_ _)); exact BK259.out)) : gb259 ≠ gb290))
             have n11_ := Aside0.mk ((by rw [hg]; exact Nat.ne_of_gt (blk_lt (g := gb259) (o := .cells #[.slice Ao16 t255.length co16, .int .i64 t258] 33 (0, 0)) (by (with_reducible repeat (first | refine blk_drewN ?_ _ | refine blk_drew ?_ | refine blk_alloc ?_ _)); exact BK259.out)) : gb290 ≠ gb259))
             have n12_ := Aside0.mk ((by rw [hg]; exact Nat.ne_of_lt (blk_lt (g := gb276) (o := .cells #[.slice Ao38 t272.length co38, .int .i64 t275] 33 (0, 0)) (by (with_reducible repeat (first | refine blk_drewN ?_ _ | refine blk_drew ?_ | refine blk_alloc ?_ _)); exact BK276.out)) : gb276 ≠ gb290))
             have n13_ := Aside0.mk ((by rw [hg]; exact Nat.ne_of_gt (blk_lt (g := gb276) (o := .cells #[.slice Ao38 t272.length co38, .int .i64 t275] 33 (0, 0)) (by (with_reducible repeat (first | refine blk_drewN ?_ _ | refine blk_drew ?_ | refine blk_alloc ?_ _)); exact BK276.out)) : gb290 ≠ gb276))
             clear HO_260000
             clear HO_277000
             clear HO284
             clear HO288
             clear BK259
             clear BK276
             clear HB
             have HO_260000 := n0_
             have HO_277000 := n1_
             have HO284 := n2_
             have HO288 := n3_
             have BK259 := n4_
             have BK276 := n5_
             have HB := n6_
             have BK290 := n7_
             have GW290 := n8_
             have GE290 := n9_
             have NB259_290 := n10_
             have NB290_259 := n11_
             have NB276_290 := n12_
             have NB290_276 := n13_
             clear n0_ n1_ n2_ n3_ n4_ n5_ n6_ n7_ n8_ n9_ n10_ n11_ n12_ n13_
             clear hb hbox hg
             refine hK.out _ _ ⟨(blk_cell BK259.out 0).trans rfl, (blk_cell BK259.out 1).trans rfl⟩ (fun hHeld => ?_)
             clear hK K
             refine norm_ (a' := ?_) ?_ ?_
             rotate_left
             ·show Act.put _ (some 18) _ = _
              simp only [Act.put, List.setIfInBounds_toArray, List.set_cons_zero, List.set_cons_succ, i64_w, i32_w]
              rfl
             exact norm_ (by simp only [putAll, Act.put, List.setIfInBounds_toArray, List.set_cons_zero, List.set_cons_succ]) (hCont (.slice Ao60 t282.length co60, v287, gb290) _ ⟨hHeld, (by (with_reducible repeat (first | apply Kd.R_alloc | apply Kd.R_drewN | apply Kd.R_drew)); exact Kd.R_mono HO284.out (fun _ hk => ⟨hk.2, ⟨hk.1.1.2, hk.1.2⟩⟩)), (by (with_reducible repeat (first | apply Kd.R_alloc | apply Kd.R_drewN | apply Kd.R_drew)); exact Kd.R_mono HO288.out (fun _ hk => ⟨hk.2, ⟨hk.1.1.2, hk.1.2⟩⟩)), (by (with_reducible repeat (first | apply Kd.R_alloc | apply Kd.R_drewN | apply Kd.R_drew)); exact Kd.R_mono HO_260000.out (fun _ hk => ⟨hk.1.2, ⟨hk.2, hk.1.1⟩⟩)), (by (with_reducible repeat (first | apply Kd.R_alloc | apply Kd.R_drewN | apply Kd.R_drew)); exact Kd.R_mono HO_277000.out (fun _ hk => ⟨hk.1.2, ⟨hk.2, hk.1.1⟩⟩)), (by (with_reducible repeat (first | refine blk_drewN ?_ _ | refine blk_drew ?_ | refine blk_alloc ?_ _)); exact BK259.out), (by (with_reducible repeat (first | refine blk_drewN ?_ _ | refine blk_drew ?_ | refine blk_alloc ?_ _)); exact BK276.out), (by (with_reducible repeat (first | refine blk_drewN ?_ _ | refine blk_drew ?_ | refine blk_alloc ?_ _)); exact BK290.out), GW290.out, GE290.out, NB259_290.out, NB290_259.out, NB276_290.out, NB290_276.out, (by repeat (first | (with_reducible first | exact HB.out | apply below_alloc | apply pw_below_drewN | apply below_drew1 | refine below_set ?_ GE259.out | refine below_set ?_ GE276.out | refine below_set ?_ GE290.out) | exact HB.out))⟩)
            ·skip
             refine box_step ?hg (N := 18) ?hd (cs := #[.slice none 0 0, .int .i64 0]) (t := 33) ?hr ?_; (case hd => rfl); (case hg => rfl); (case hr => first | (go_simp; done) | (go_simp; rfl))
             intro gb290 hg w60 hbox hb
             have n0_ := Aside0.mk (Kd.R_below (by (with_reducible repeat (first | apply Kd.R_alloc | apply Kd.R_drewN | apply Kd.R_drew)); exact HO_260000.out) hb)
             have n1_ := Aside0.mk (Kd.R_below (by (with_reducible repeat (first | apply Kd.R_alloc | apply Kd.R_drewN | apply Kd.R_drew)); exact HO_277000.out) hb)
             have n2_ := Aside0.mk (Kd.R_below (by (with_reducible repeat (first | apply Kd.R_alloc | apply Kd.R_drewN | apply Kd.R_drew)); exact HO284.out) hb)
             have n3_ := Aside0.mk (blk_below (g := gb259) (o := .cells #[.slice Ao16 t255.length co16, .int .i64 t258] 33 (0, 0)) (by (with_reducible repeat (first | refine blk_drewN ?_ _ | refine blk_drew ?_ | refine blk_alloc ?_ _)); exact BK259.out) hb)
             have n4_ := Aside0.mk (blk_below (g := gb276) (o := .cells #[.slice Ao38 t272.length co38, .int .i64 t275] 33 (0, 0)) (by (with_reducible repeat (first | refine blk_drewN ?_ _ | refine blk_drew ?_ | refine blk_alloc ?_ _)); exact BK276.out) hb)
             have n5_ := Aside0.mk (below_step (by repeat (first | (with_reducible first | exact HB.out | apply below_alloc | apply pw_below_drewN | apply below_drew1 | refine below_set ?_ GE259.out | refine below_set ?_ GE276.out) | exact HB.out)) hb)
             have n6_ := Aside0.mk (hbox)
             have n7_ := Aside0.mk ((by rw [hg]; exact (below_size (by repeat (first | (with_reducible first | exact HB.out | apply below_alloc | apply pw_below_drewN | apply below_drew1 | refine below_set ?_ GE259.out | refine below_set ?_ GE276.out) | exact HB.out))) : w.heap.size ≤ gb290))
             have n8_ := Aside0.mk ((by rw [hg]; exact (below_size (by repeat (first | (with_reducible first | exact HB.out | apply below_alloc | apply pw_below_drewN | apply below_drew1 | refine below_set ?_ GE259.out | refine below_set ?_ GE276.out) | exact HB.out))) : w.heap.size ≤ gb290))
             have n9_ := Aside0.mk ((by rw [hg]; exact Nat.ne_of_lt (blk_lt (g := gb259) (o := .cells #[.slice Ao16 t255.length co16, .int .i64 t258] 33 (0, 0)) (by (with_reducible repeat (first | refine blk_drewN ?_ _ | refine blk_drew ?_ | refine blk_alloc ?_ _)); exact BK259.out)) : gb259 ≠ gb290))
             have n10_ := Aside0.mk ((by rw [hg]; exact Nat.ne_of_gt (blk_lt (g := gb259) (o := .cells #[.slice Ao16 t255.length co16, .int .i64 t258] 33 (0, 0)) (by (with_reducible repeat (first | refine blk_drewN ?_ _ | refine blk_drew ?_ | refine blk_alloc ?_ _)); exact BK259.out)) : gb290 ≠ gb259))
             have n11_ := Aside0.mk ((by rw [hg]; exact Nat.ne_of_lt (blk_lt (g := gb276) (o := .cells #[.slice Ao38 t272.length co38, .int .i64 t275] 33 (0, 0)) (by (with_reducible repeat (first | refine blk_drewN ?_ _ | refine blk_drew ?_ | refine blk_alloc ?_ _)); exact BK276.out)) : gb276 ≠ gb290))
             have n12_ := Aside0.mk ((by rw [hg]; exact Nat.ne_of_gt (blk_lt (g := gb276) (o := .cells #[.slice Ao38 t272.length co38, .int .i64 t275] 33 (0, 0)) (by (with_reducible repeat (first | refine blk_drewN ?_ _ | refine blk_drew ?_ | refine blk_alloc ?_ _)); exact BK276.out)) : gb290 ≠ gb276))
             clear HO_260000
             clear HO_277000
             clear HO284
             clear BK259
             clear BK276
             clear HB
             have HO_260000 := n0_
             have HO_277000 := n1_
             have HO284 := n2_
             have BK259 := n3_
             have BK276 := n4_
             have HB := n5_
             have BK290 := n6_
             have GW290 := n7_
             have GE290 := n8_
             have NB259_290 := n9_
             have NB290_259 := n10_
             have NB276_290 := n11_
             have NB290_276 := n12_
             clear n0_ n1_ n2_ n3_ n4_ n5_ n6_ n7_ n8_ n9_ n10_ n11_ n12_
             clear hb hbox hg
             obtain ⟨Ao61, co61, eo61⟩ := Kd.R_slice HO284.out
             (first | subst eo61 | (injection eo61 with f1_ f2_ f3_; have f4_ := f1_.symm; have f5_ := f3_.symm; clear f1_ f2_ f3_; subst f4_; subst f5_))
             refine hK.out _ _ ⟨(blk_cell BK259.out 0).trans rfl, (blk_cell BK259.out 1).trans rfl⟩ (fun hHeld => ?_)
             clear hK K
             refine norm_ (a' := ?_) ?_ ?_
             rotate_left
             ·show Act.put _ (some 18) _ = _
              simp only [Act.put, List.setIfInBounds_toArray, List.set_cons_zero, List.set_cons_succ, i64_w, i32_w]
              rfl
             refine one_ (i := 11) (N := some 94) #[true, true, true, true, true, true, true, true, true, true, true, true, true, false] rfl rfl (one_of HT_.out (by kernel_rfl)) (by decide) (fun K hK => ?_)
             refine goes_ Try.func18 (by kernel_rfl) rfl #[.agg #[.slice Ao61 t282.length co61, .int .i64 t285], .agg #[.slice Ao16 t255.length co16, .int .i64 t258]] (by rfl) rfl rfl (by (try simp only [List.map_toArray, List.map_cons, List.map_nil]); first | done | rfl | (simp only [List.length_drop, List.length_take]; rfl)) ?_
             with_reducible refine (bits_Join.calls kj26 _ _ t282 t285 _ _ t255 t258 t286 t289 _ ?side1 ?side2 ?side3 ?side4 A54.out).mono ?_
             (case side1 => repeat (first | exact (Kd.R_reads' HO284.out).2.2 | (with_reducible refine Kd.C_alloc ?_ _) | (with_reducible refine Kd.C_drewN ?_ _) | (with_reducible refine Kd.C_drew ?_)))
             (case side2 => exact (Kd.R_reads' HO284.out).2.1)
             (case side3 => repeat (first | exact (Kd.R_reads' HO_260000.out).2.2 | (with_reducible refine Kd.C_alloc ?_ _) | (with_reducible refine Kd.C_drewN ?_ _) | (with_reducible refine Kd.C_drew ?_)))
             (case side4 => exact (Kd.R_reads' HO_260000.out).2.1)
             rintro e w62 ⟨v287, rfl, ho0, hb⟩
             refine ⟨_, rfl, ?_⟩
             have n0_ := Aside0.mk (Kd.R_elder' (by (with_reducible repeat (first | apply Kd.R_alloc | apply Kd.R_drewN | apply Kd.R_drew)); exact HO_260000.out) (Kd.R_base ho0) hb)
             have n1_ := Aside0.mk (Kd.R_elder' (by (with_reducible repeat (first | apply Kd.R_alloc | apply Kd.R_drewN | apply Kd.R_drew)); exact HO_277000.out) (Kd.R_base ho0) hb)
             have n2_ := Aside0.mk (Kd.R_elder' (by (with_reducible repeat (first | apply Kd.R_alloc | apply Kd.R_drewN | apply Kd.R_drew)); exact HO284.out) (Kd.R_base ho0) hb)
             have n3_ := Aside0.mk (Kd.R_lower (Kd.R_new' (Kd.R_new' (Kd.R_new' ho0 (Kd.R_lt (by (with_reducible repeat (first | apply Kd.R_alloc | apply Kd.R_drewN | apply Kd.R_drew)); exact HO_260000.out))) (Kd.R_lt (by (with_reducible repeat (first | apply Kd.R_alloc | apply Kd.R_drewN | apply Kd.R_drew)); exact HO_277000.out))) (Kd.R_lt (by (with_reducible repeat (first | apply Kd.R_alloc | apply Kd.R_drewN | apply Kd.R_drew)); exact HO284.out))) (below_size (by repeat (first | (with_reducible first | exact HB.out | apply below_alloc | apply pw_below_drewN | apply below_drew1 | refine below_set ?_ GE259.out | refine below_set ?_ GE276.out | refine below_set ?_ GE290.out) | exact HB.out))))
             have n4_ := Aside0.mk (blk_below (g := gb259) (o := .cells #[.slice Ao16 t255.length co16, .int .i64 t258] 33 (0, 0)) (by (with_reducible repeat (first | refine blk_drewN ?_ _ | refine blk_drew ?_ | refine blk_alloc ?_ _)); exact BK259.out) hb)
             have n5_ := Aside0.mk (blk_below (g := gb276) (o := .cells #[.slice Ao38 t272.length co38, .int .i64 t275] 33 (0, 0)) (by (with_reducible repeat (first | refine blk_drewN ?_ _ | refine blk_drew ?_ | refine blk_alloc ?_ _)); exact BK276.out) hb)
             have n6_ := Aside0.mk (blk_below (g := gb290) (o := .cells #[.slice none 0 0, .int .i64 0] 33 (0, 0)) (by (with_reducible repeat (first | refine blk_drewN ?_ _ | refine blk_drew ?_ | refine blk_alloc ?_ _)); exact BK290.out) hb)
             have n7_ := Aside0.mk (below_step (by repeat (first | (with_reducible first | exact HB.out | apply below_alloc | apply pw_below_drewN | apply below_drew1 | refine below_set ?_ GE259.out | refine below_set ?_ GE276.out | refine below_set ?_ GE290.out) | exact HB.out)) hb)
             clear HO_260000
             clear HO_277000
             clear HO284
             clear BK259
             clear BK276
             clear BK290
             clear HB
             have HO_260000 := n0_
             have HO_277000 := n1_
             have HO284 := n2_
             have HO288 := n3_
             have BK259 := n4_
             have BK276 := n5_
             have BK290 := n6_
             have HB := n7_
             clear n0_ n1_ n2_ n3_ n4_ n5_ n6_ n7_
             (try clear hb)
             (try clear hb2)
             (try clear hk)
             (try clear hi)
             (try clear ho0)
             refine hK.out _ _ ⟨(blk_cell BK259.out 0).trans rfl, (blk_cell BK259.out 1).trans rfl⟩ (fun hHeld => ?_)
             clear hK K
             refine norm_ (a' := ?_) ?_ ?_
             rotate_left
             ·show Act.put _ (some 94) _ = _
              simp only [Act.put, List.setIfInBounds_toArray, List.set_cons_zero, List.set_cons_succ, i64_w, i32_w]
              rfl
             exact norm_ (by simp only [putAll, Act.put, List.setIfInBounds_toArray, List.set_cons_zero, List.set_cons_succ]) (hCont (.slice Ao61 t282.length co61, v287, gb290) _ ⟨hHeld, (by (with_reducible repeat (first | apply Kd.R_alloc | apply Kd.R_drewN | apply Kd.R_drew)); exact Kd.R_mono HO284.out (fun _ hk => ⟨hk.2, ⟨hk.1.1.2, hk.1.2⟩⟩)), (by (with_reducible repeat (first | apply Kd.R_alloc | apply Kd.R_drewN | apply Kd.R_drew)); exact Kd.R_mono HO288.out (fun _ hk => ⟨hk.2, ⟨hk.1.1.2, hk.1.2⟩⟩)), (by (with_reducible repeat (first | apply Kd.R_alloc | apply Kd.R_drewN | apply Kd.R_drew)); exact Kd.R_mono HO_260000.out (fun _ hk => ⟨hk.1.2, ⟨hk.2, hk.1.1⟩⟩)), (by (with_reducible repeat (first | apply Kd.R_alloc | apply Kd.R_drewN | apply Kd.R_drew)); exact Kd.R_mono HO_277000.out (fun _ hk => ⟨hk.1.2, ⟨hk.2, hk.1.1⟩⟩)), (by (with_reducible repeat (first | refine blk_drewN ?_ _ | refine blk_drew ?_ | refine blk_alloc ?_ _)); exact BK259.out), (by (with_reducible repeat (first | refine blk_drewN ?_ _ | refine blk_drew ?_ | refine blk_alloc ?_ _)); exact BK276.out), (by (with_reducible repeat (first | refine blk_drewN ?_ _ | refine blk_drew ?_ | refine blk_alloc ?_ _)); exact BK290.out), GW290.out, GE290.out, NB259_290.out, NB290_259.out, NB276_290.out, NB290_276.out, (by repeat (first | (with_reducible first | exact HB.out | apply below_alloc | apply pw_below_drewN | apply below_drew1 | refine below_set ?_ GE259.out | refine below_set ?_ GE276.out | refine below_set ?_ GE290.out) | exact HB.out))⟩)
           ·skip
            refine box_step ?hg (N := 18) ?hd (cs := #[.slice none 0 0, .int .i64 0]) (t := 33) ?hr ?_; (case hd => rfl); (case hg => rfl); (case hr => first | (go_simp; done) | (go_simp; rfl))
            intro gb290 hg w59 hbox hb
            have n0_ := Aside0.mk (Kd.R_below (by (with_reducible repeat (first | apply Kd.R_alloc | apply Kd.R_drewN | apply Kd.R_drew)); exact HO_260000.out) hb)
            have n1_ := Aside0.mk (Kd.R_below (by (with_reducible repeat (first | apply Kd.R_alloc | apply Kd.R_drewN | apply Kd.R_drew)); exact HO_277000.out) hb)
            have n2_ := Aside0.mk (blk_below (g := gb259) (o := .cells #[.slice Ao16 t255.length co16, .int .i64 t258] 33 (0, 0)) (by (with_reducible repeat (first | refine blk_drewN ?_ _ | refine blk_drew ?_ | refine blk_alloc ?_ _)); exact BK259.out) hb)
            have n3_ := Aside0.mk (blk_below (g := gb276) (o := .cells #[.slice Ao38 t272.length co38, .int .i64 t275] 33 (0, 0)) (by (with_reducible repeat (first | refine blk_drewN ?_ _ | refine blk_drew ?_ | refine blk_alloc ?_ _)); exact BK276.out) hb)
            have n4_ := Aside0.mk (below_step (by repeat (first | (with_reducible first | exact HB.out | apply below_alloc | apply pw_below_drewN | apply below_drew1 | refine below_set ?_ GE259.out | refine below_set ?_ GE276.out) | exact HB.out)) hb)
            have n5_ := Aside0.mk (hbox)
            have n6_ := Aside0.mk ((by rw [hg]; exact (below_size (by repeat (first | (with_reducible first | exact HB.out | apply below_alloc | apply pw_below_drewN | apply below_drew1 | refine below_set ?_ GE259.out | refine below_set ?_ GE276.out) | exact HB.out))) : w.heap.size ≤ gb290))
            have n7_ := Aside0.mk ((by rw [hg]; exact (below_size (by repeat (first | (with_reducible first | exact HB.out | apply below_alloc | apply pw_below_drewN | apply below_drew1 | refine below_set ?_ GE259.out | refine below_set ?_ GE276.out) | exact HB.out))) : w.heap.size ≤ gb290))
            have n8_ := Aside0.mk ((by rw [hg]; exact Nat.ne_of_lt (blk_lt (g := gb259) (o := .cells #[.slice Ao16 t255.length co16, .int .i64 t258] 33 (0, 0)) (by (with_reducible repeat (first | refine blk_drewN ?_ _ | refine blk_drew ?_ | refine blk_alloc ?_ _)); exact BK259.out)) : gb259 ≠ gb290))
            have n9_ := Aside0.mk ((by rw [hg]; exact Nat.ne_of_gt (blk_lt (g := gb259) (o := .cells #[.slice Ao16 t255.length co16, .int .i64 t258] 33 (0, 0)) (by (with_reducible repeat (first | refine blk_drewN ?_ _ | refine blk_drew ?_ | refine blk_alloc ?_ _)); exact BK259.out)) : gb290 ≠ gb259))
            have n10_ := Aside0.mk ((by rw [hg]; exact Nat.ne_of_lt (blk_lt (g := gb276) (o := .cells #[.slice Ao38 t272.length co38, .int .i64 t275] 33 (0, 0)) (by (with_reducible repeat (first | refine blk_drewN ?_ _ | refine blk_drew ?_ | refine blk_alloc ?_ _)); exact BK276.out)) : gb276 ≠ gb290))
            have n11_ := Aside0.mk ((by rw [hg]; exact Nat.ne_of_gt (blk_lt (g := gb276) (o := .cells #[.slice Ao38 t272.length co38, .int .i64 t275] 33 (0, 0)) (by (with_reducible repeat (first | refine blk_drewN ?_ _ | refine blk_drew ?_ | refine blk_alloc ?_ _)); exact BK276.out)) : gb290 ≠ gb276))
            clear HO_260000
            clear HO_277000
            clear BK259
            clear BK276
            clear HB
            have HO_260000 := n0_
            have HO_277000 := n1_
            have BK259 := n2_
            have BK276 := n3_
            have HB := n4_
            have BK290 := n5_
            have GW290 := n6_
            have GE290 := n7_
            have NB259_290 := n8_
            have NB290_259 := n9_
            have NB276_290 := n10_
            have NB290_276 := n11_
            clear n0_ n1_ n2_ n3_ n4_ n5_ n6_ n7_ n8_ n9_ n10_ n11_
            clear hb hbox hg
            refine hK.out _ _ ⟨(blk_cell BK259.out 0).trans rfl, (blk_cell BK259.out 1).trans rfl⟩ (fun hHeld => ?_)
            clear hK K
            refine norm_ (a' := ?_) ?_ ?_
            rotate_left
            ·show Act.put _ (some 18) _ = _
             simp only [Act.put, List.setIfInBounds_toArray, List.set_cons_zero, List.set_cons_succ, i64_w, i32_w]
             rfl
            refine one_ (i := 5) (N := some 88) #[true, true, true, true, true, true, true, true, true, true, true, false, true, false] rfl rfl (one_of HT_.out (by kernel_rfl)) (by decide) (fun K hK => ?_)
            refine goes_ Try.func21 (by kernel_rfl) rfl #[.agg #[.slice none 0 0, .int .i64 0], .int .u64 0, .int .i64 (Int.tmod (wrap64 (64 - (Int.tmod t281 8))) 8)] (by rfl) rfl rfl (by (try simp only [List.map_toArray, List.map_cons, List.map_nil]); first | done | rfl | (simp only [List.length_drop, List.length_take]; rfl)) ?_
            refine (bits_Put.calls kj26 _ _ ([] : List Int) 0 0 (Int.tmod (wrap64 (64 - (Int.tmod t281 8))) 8) t282 t285 _ ?side1 ?side2 A53.out).mono ?_
            (case side1 => exact Kd.C_nil _ _)
            (case side2 => exact Nat.le_refl _)
            rintro e w60 ⟨v283, rfl, ho0, hb⟩
            refine ⟨_, rfl, ?_⟩
            have n0_ := Aside0.mk (Kd.R_elder' (by (with_reducible repeat (first | apply Kd.R_alloc | apply Kd.R_drewN | apply Kd.R_drew)); exact HO_260000.out) (Kd.R_base ho0) hb)
            have n1_ := Aside0.mk (Kd.R_elder' (by (with_reducible repeat (first | apply Kd.R_alloc | apply Kd.R_drewN | apply Kd.R_drew)); exact HO_277000.out) (Kd.R_base ho0) hb)
            have n2_ := Aside0.mk (Kd.R_lower (Kd.R_new' (Kd.R_new' ho0 (Kd.R_lt (by (with_reducible repeat (first | apply Kd.R_alloc | apply Kd.R_drewN | apply Kd.R_drew)); exact HO_260000.out))) (Kd.R_lt (by (with_reducible repeat (first | apply Kd.R_alloc | apply Kd.R_drewN | apply Kd.R_drew)); exact HO_277000.out))) (below_size (by repeat (first | (with_reducible first | exact HB.out | apply below_alloc | apply pw_below_drewN | apply below_drew1 | refine below_set ?_ GE259.out | refine below_set ?_ GE276.out | refine below_set ?_ GE290.out) | exact HB.out))))
            have n3_ := Aside0.mk (blk_below (g := gb259) (o := .cells #[.slice Ao16 t255.length co16, .int .i64 t258] 33 (0, 0)) (by (with_reducible repeat (first | refine blk_drewN ?_ _ | refine blk_drew ?_ | refine blk_alloc ?_ _)); exact BK259.out) hb)
            have n4_ := Aside0.mk (blk_below (g := gb276) (o := .cells #[.slice Ao38 t272.length co38, .int .i64 t275] 33 (0, 0)) (by (with_reducible repeat (first | refine blk_drewN ?_ _ | refine blk_drew ?_ | refine blk_alloc ?_ _)); exact BK276.out) hb)
            have n5_ := Aside0.mk (blk_below (g := gb290) (o := .cells #[.slice none 0 0, .int .i64 0] 33 (0, 0)) (by (with_reducible repeat (first | refine blk_drewN ?_ _ | refine blk_drew ?_ | refine blk_alloc ?_ _)); exact BK290.out) hb)
            have n6_ := Aside0.mk (below_step (by repeat (first | (with_reducible first | exact HB.out | apply below_alloc | apply pw_below_drewN | apply below_drew1 | refine below_set ?_ GE259.out | refine below_set ?_ GE276.out | refine below_set ?_ GE290.out) | exact HB.out)) hb)
            clear HO_260000
            clear HO_277000
            clear BK259
            clear BK276
            clear BK290
            clear HB
            have HO_260000 := n0_
            have HO_277000 := n1_
            have HO284 := n2_
            have BK259 := n3_
            have BK276 := n4_
            have BK290 := n5_
            have HB := n6_
            clear n0_ n1_ n2_ n3_ n4_ n5_ n6_
            (try clear hb)
            (try clear hb2)
            (try clear hk)
            (try clear hi)
            (try clear ho0)
            obtain ⟨Ao61, co61, eo61⟩ := Kd.R_slice HO284.out
            (first | subst eo61 | (injection eo61 with f1_ f2_ f3_; have f4_ := f1_.symm; have f5_ := f3_.symm; clear f1_ f2_ f3_; subst f4_; subst f5_))
            refine hK.out _ _ ⟨(blk_cell BK259.out 0).trans rfl, (blk_cell BK259.out 1).trans rfl⟩ (fun hHeld => ?_)
            clear hK K
            refine norm_ (a' := ?_) ?_ ?_
            rotate_left
            ·show Act.put _ (some 88) _ = _
             simp only [Act.put, List.setIfInBounds_toArray, List.set_cons_zero, List.set_cons_succ, i64_w, i32_w]
             rfl
            refine one_ (i := 11) (N := some 94) #[true, true, true, true, true, true, true, true, true, true, true, true, true, false] rfl rfl (one_of HT_.out (by kernel_rfl)) (by decide) (fun K hK => ?_)
            refine goes_ Try.func18 (by kernel_rfl) rfl #[.agg #[.slice Ao61 t282.length co61, .int .i64 t285], .agg #[.slice Ao16 t255.length co16, .int .i64 t258]] (by rfl) rfl rfl (by (try simp only [List.map_toArray, List.map_cons, List.map_nil]); first | done | rfl | (simp only [List.length_drop, List.length_take]; rfl)) ?_
            with_reducible refine (bits_Join.calls kj26 _ _ t282 t285 _ _ t255 t258 t286 t289 _ ?side1 ?side2 ?side3 ?side4 A54.out).mono ?_
            (case side1 => repeat (first | exact (Kd.R_reads' HO284.out).2.2 | (with_reducible refine Kd.C_alloc ?_ _) | (with_reducible refine Kd.C_drewN ?_ _) | (with_reducible refine Kd.C_drew ?_)))
            (case side2 => exact (Kd.R_reads' HO284.out).2.1)
            (case side3 => repeat (first | exact (Kd.R_reads' HO_260000.out).2.2 | (with_reducible refine Kd.C_alloc ?_ _) | (with_reducible refine Kd.C_drewN ?_ _) | (with_reducible refine Kd.C_drew ?_)))
            (case side4 => exact (Kd.R_reads' HO_260000.out).2.1)
            rintro e w62 ⟨v287, rfl, ho0, hb⟩
            refine ⟨_, rfl, ?_⟩
            have n0_ := Aside0.mk (Kd.R_elder' (by (with_reducible repeat (first | apply Kd.R_alloc | apply Kd.R_drewN | apply Kd.R_drew)); exact HO_260000.out) (Kd.R_base ho0) hb)
            have n1_ := Aside0.mk (Kd.R_elder' (by (with_reducible repeat (first | apply Kd.R_alloc | apply Kd.R_drewN | apply Kd.R_drew)); exact HO_277000.out) (Kd.R_base ho0) hb)
            have n2_ := Aside0.mk (Kd.R_elder' (by (with_reducible repeat (first | apply Kd.R_alloc | apply Kd.R_drewN | apply Kd.R_drew)); exact HO284.out) (Kd.R_base ho0) hb)
            have n3_ := Aside0.mk (Kd.R_lower (Kd.R_new' (Kd.R_new' (Kd.R_new' ho0 (Kd.R_lt (by (with_reducible repeat (first | apply Kd.R_alloc | apply Kd.R_drewN | apply Kd.R_drew)); exact HO_260000.out))) (Kd.R_lt (by (with_reducible repeat (first | apply Kd.R_alloc | apply Kd.R_drewN | apply Kd.R_drew)); exact HO_277000.out))) (Kd.R_lt (by (with_reducible repeat (first | apply Kd.R_alloc | apply Kd.R_drewN | apply Kd.R_drew)); exact HO284.out))) (below_size (by repeat (first | (with_reducible first | exact HB.out | apply below_alloc | apply pw_below_drewN | apply below_drew1 | refine below_set ?_ GE259.out | refine below_set ?_ GE276.out | refine below_set ?_ GE290.out) | exact HB.out))))
            have n4_ := Aside0.mk (blk_below (g := gb259) (o := .cells #[.slice Ao16 t255.length co16, .int .i64 t258] 33 (0, 0)) (by (with_reducible repeat (first | refine blk_drewN ?_ _ | refine blk_drew ?_ | refine blk_alloc ?_ _)); exact BK259.out) hb)
            have n5_ := Aside0.mk (blk_below (g := gb276) (o := .cells #[.slice Ao38 t272.length co38, .int .i64 t275] 33 (0, 0)) (by (with_reducible repeat (first | refine blk_drewN ?_ _ | refine blk_drew ?_ | refine blk_alloc ?_ _)); exact BK276.out) hb)
            have n6_ := Aside0.mk (blk_below (g := gb290) (o := .cells #[.slice none 0 0, .int .i64 0] 33 (0, 0)) (by (with_reducible repeat (first | refine blk_drewN ?_ _ | refine blk_drew ?_ | refine blk_alloc ?_ _)); exact BK290.out) hb)
            have n7_ := Aside0.mk (below_step (by repeat (first | (with_reducible first | exact HB.out | apply below_alloc | apply pw_below_drewN | apply below_drew1 | refine below_set ?_ GE259.out | refine below_set ?_ GE276.out | refine below_set ?_ GE290.out) | exact HB.out)) hb)
            clear HO_260000
            clear HO_277000
            clear HO284
            clear BK259
            clear BK276
            clear BK290
            clear HB
            have HO_260000 := n0_
            have HO_277000 := n1_
            have HO284 := n2_
            have HO288 := n3_
            have BK259 := n4_
            have BK276 := n5_
            have BK290 := n6_
            have HB := n7_
            clear n0_ n1_ n2_ n3_ n4_ n5_ n6_ n7_
            (try clear hb)
            (try clear hb2)
            (try clear hk)
            (try clear hi)
            (try clear ho0)
            refine hK.out _ _ ⟨(blk_cell BK259.out 0).trans rfl, (blk_cell BK259.out 1).trans rfl⟩ (fun hHeld => ?_)
            clear hK K
            refine norm_ (a' := ?_) ?_ ?_
            rotate_left
            ·show Act.put _ (some 94) _ = _
             simp only [Act.put, List.setIfInBounds_toArray, List.set_cons_zero, List.set_cons_succ, i64_w, i32_w]
             rfl
            exact norm_ (by simp only [putAll, Act.put, List.setIfInBounds_toArray, List.set_cons_zero, List.set_cons_succ]) (hCont (.slice Ao61 t282.length co61, v287, gb290) _ ⟨hHeld, (by (with_reducible repeat (first | apply Kd.R_alloc | apply Kd.R_drewN | apply Kd.R_drew)); exact Kd.R_mono HO284.out (fun _ hk => ⟨hk.2, ⟨hk.1.1.2, hk.1.2⟩⟩)), (by (with_reducible repeat (first | apply Kd.R_alloc | apply Kd.R_drewN | apply Kd.R_drew)); exact Kd.R_mono HO288.out (fun _ hk => ⟨hk.2, ⟨hk.1.1.2, hk.1.2⟩⟩)), (by (with_reducible repeat (first | apply Kd.R_alloc | apply Kd.R_drewN | apply Kd.R_drew)); exact Kd.R_mono HO_260000.out (fun _ hk => ⟨hk.1.2, ⟨hk.2, hk.1.1⟩⟩)), (by (with_reducible repeat (first | apply Kd.R_alloc | apply Kd.R_drewN | apply Kd.R_drew)); exact Kd.R_mono HO_277000.out (fun _ hk => ⟨hk.1.2, ⟨hk.2, hk.1.1⟩⟩)), (by (with_reducible repeat (first | refine blk_drewN ?_ _ | refine blk_drew ?_ | refine blk_alloc ?_ _)); exact BK259.out), (by (with_reducible repeat (first | refine blk_drewN ?_ _ | refine blk_drew ?_ | refine blk_alloc ?_ _)); exact BK276.out), (by (with_reducible repeat (first | refine blk_drewN ?_ _ | refine blk_drew ?_ | refine blk_alloc ?_ _)); exact BK290.out), GW290.out, GE290.out, NB259_290.out, NB290_259.out, NB276_290.out, NB290_276.out, (by repeat (first | (with_reducible first | exact HB.out | apply below_alloc | apply pw_below_drewN | apply below_drew1 | refine below_set ?_ GE259.out | refine below_set ?_ GE276.out | refine below_set ?_ GE290.out) | exact HB.out))⟩)
          rintro ⟨v283, v287, gb290⟩ w63 ⟨hS_, h0_, h1_, h2_, h3_, h4_, h5_, h6_, h7_, h8_, h9_, h10_, h11_, h12_, h13_⟩
          have n0_ : Aside0 (Kd.R (Kd.int .u8) 5 w63 w.heap.size (fun k_ => some k_ ≠ (v287 : Value).ownBlock ∧ some k_ ≠ (.slice Ao16 t255.length co16 : Value).ownBlock ∧ some k_ ≠ (.slice Ao38 t272.length co38 : Value).ownBlock) v283 t282) := ⟨h0_⟩
          have n1_ : Aside0 (Kd.R (Kd.int .u8) 5 w63 w.heap.size (fun k_ => some k_ ≠ (v283 : Value).ownBlock ∧ some k_ ≠ (.slice Ao16 t255.length co16 : Value).ownBlock ∧ some k_ ≠ (.slice Ao38 t272.length co38 : Value).ownBlock) v287 t286) := ⟨h1_⟩
          have n2_ : Aside0 (Kd.R (Kd.int .u8) 5 w63 w.heap.size (fun k_ => some k_ ≠ (v283 : Value).ownBlock ∧ some k_ ≠ (v287 : Value).ownBlock ∧ some k_ ≠ (.slice Ao38 t272.length co38 : Value).ownBlock) (.slice Ao16 t255.length co16) t255) := ⟨h2_⟩
          have n3_ : Aside0 (Kd.R (Kd.int .u8) 5 w63 w.heap.size (fun k_ => some k_ ≠ (v283 : Value).ownBlock ∧ some k_ ≠ (v287 : Value).ownBlock ∧ some k_ ≠ (.slice Ao16 t255.length co16 : Value).ownBlock) (.slice Ao38 t272.length co38) t272) := ⟨h3_⟩
          have n4_ : Aside0 (w63.heap[gb259]? = some (.cells #[.slice Ao16 t255.length co16, .int .i64 t258] 33 (0, 0))) := ⟨h4_⟩
          have n5_ : Aside0 (w63.heap[gb276]? = some (.cells #[.slice Ao38 t272.length co38, .int .i64 t275] 33 (0, 0))) := ⟨h5_⟩
          have n6_ : Aside0 (w63.heap[gb290]? = some (.cells #[.slice none 0 0, .int .i64 0] 33 (0, 0))) := ⟨h6_⟩
          have n7_ : Aside0 (w.heap.size ≤ gb290) := ⟨h7_⟩
          have n8_ : Aside0 (w.heap.size ≤ gb290) := ⟨h8_⟩
          have n9_ : Aside0 (gb259 ≠ gb290) := ⟨h9_⟩
          have n10_ : Aside0 (gb290 ≠ gb259) := ⟨h10_⟩
          have n11_ : Aside0 (gb276 ≠ gb290) := ⟨h11_⟩
          have n12_ : Aside0 (gb290 ≠ gb276) := ⟨h12_⟩
          have n13_ : Aside0 (Below w.heap.size w w63) := ⟨h13_⟩
          clear HO_260000
          clear HO_277000
          clear BK259
          clear BK276
          clear HB
          clear h0_ h1_ h2_ h3_ h4_ h5_ h6_ h7_ h8_ h9_ h10_ h11_ h12_ h13_
          have HO284 := n0_
          have HO288 := n1_
          have HO_260000 := n2_
          have HO_277000 := n3_
          have BK259 := n4_
          have BK276 := n5_
          have BK290 := n6_
          have GW290 := n7_
          have GE290 := n8_
          have NB259_290 := n9_
          have NB290_259 := n10_
          have NB276_290 := n11_
          have NB290_276 := n12_
          have HB := n13_
          clear n0_ n1_ n2_ n3_ n4_ n5_ n6_ n7_ n8_ n9_ n10_ n11_ n12_ n13_
          have hHeld : w63.cell? ⟨gb259, 0, none⟩ = some (.slice Ao16 t255.length co16) ∧ w63.cell? ⟨gb259, 1, none⟩ = some (.int .i64 t258) := hS_
          obtain ⟨Ao64, co64, eo64⟩ := Kd.R_slice HO288.out
          (first | subst eo64 | (injection eo64 with f1_ f2_ f3_; have f4_ := f1_.symm; have f5_ := f3_.symm; clear f1_ f2_ f3_; subst f4_; subst f5_))
          refine norm_ (a' := ?_) ?_ ?_
          rotate_left
          ·simp only [putAll, Act.put, List.setIfInBounds_toArray, List.set_cons_zero, List.set_cons_succ]
           rfl
          refine one_ (i := 13) (N := none) #[true, true, true, true, true, true, true, true, true, true, true, true, true, true] rfl rfl (one_of HT_.out (by kernel_rfl)) (by decide) (fun K hK => ?_)
          have hs65 : w63.cell? ⟨gb290, 0, none⟩ = some (.slice none 0 0) := (blk_cell BK290.out 0).trans rfl
          have hfs65 := blk_frozen BK290.out 0
          have hns65_0 := NB259_290.out
          have hns65_1 := NB276_290.out
          have hms65_0 := NB290_259.out
          have hms65_1 := NB290_276.out
          have hs66 : w63.cell? ⟨gb290, 1, none⟩ = some (.int .i64 0) := (blk_cell BK290.out 1).trans rfl
          have hfs66 := blk_frozen BK290.out 1
          have hns66_0 := NB259_290.out
          have hns66_1 := NB276_290.out
          have hms66_0 := NB290_259.out
          have hms66_1 := NB290_276.out
          refine skip_ (w1 := ?_) (by rfl) rfl ?_ ?_
          rotate_left
          ·go_simp
           rfl
          refine hK.out _ _ ⟨((cell_far (p := ⟨gb290, _, none⟩) NB259_290.out _).trans (((cell_far (p := ⟨gb290, _, none⟩) NB259_290.out _).trans (hHeld.1)))), ((cell_far (p := ⟨gb290, _, none⟩) NB259_290.out _).trans (((cell_far (p := ⟨gb290, _, none⟩) NB259_290.out _).trans (hHeld.2))))⟩ (fun hHeld => ?_)
          clear hK K
          refine done_ (done_of HT_.out (by kernel_rfl)) ?_
          go_upto_region 13 with (fail)
          go_cut [21] (fun v21 wc => ∃ (kq : Nat) (x21_54 : Option Int), v21 = errW x21_54 ∧ Aside0 (gaiterlaw05_DodBack.j3 kq l3 t254 x21_54 = some r) ∧ Aside0 (kq ≤ kj26) ∧ Aside0 (Kd.R (Kd.int .u8) 5 wc w.heap.size (fun k_ => some k_ ≠ ((.slice Ao38 t272.length co38) : Value).ownBlock ∧ some k_ ≠ ((.slice Ao64 t286.length co64) : Value).ownBlock) (.slice Ao16 t255.length co16) t255) ∧ Aside0 (Kd.R (Kd.int .u8) 5 wc w.heap.size (fun k_ => some k_ ≠ ((.slice Ao16 t255.length co16) : Value).ownBlock ∧ some k_ ≠ ((.slice Ao64 t286.length co64) : Value).ownBlock) (.slice Ao38 t272.length co38) t272) ∧ Aside0 (Kd.R (Kd.int .u8) 5 wc w.heap.size (fun k_ => some k_ ≠ ((.slice Ao16 t255.length co16) : Value).ownBlock ∧ some k_ ≠ ((.slice Ao38 t272.length co38) : Value).ownBlock) (.slice Ao64 t286.length co64) t286) ∧ Aside0 (wc.heap[gb259]? = some (.cells #[(.slice Ao16 t255.length co16), .int .i64 t258] 33 (0, 0))) ∧ Aside0 (wc.heap[gb276]? = some (.cells #[(.slice Ao38 t272.length co38), .int .i64 t275] 33 (0, 0))) ∧ Aside0 (wc.heap[gb290]? = some (.cells #[(.slice Ao64 t286.length co64), .int .i64 t289] 33 (0, 0))) ∧ Aside0 (Below w.heap.size w wc))
          case first =>
           have H := HC55.out
           clear HC55
           obtain ⟨ji67, hji67⟩ : ∃ j_ : Int, (mn (t286.length : Int) (wrap64 (Int.tdiv (wrap64 ((Int.tmod (wrap64 (64 - (Int.tmod t281 8))) 8) + t281)) 8))) = j_ := ⟨_, rfl⟩
           replace H : (if 0 ≤ (ji67) then (if (ji67) ≤ (t286.length : Int) then ((dod_Get.f kj26 (t286.take ((ji67) : Int).toNat) (Int.tmod (wrap64 (64 - (Int.tmod t281 8))) 8)).bind fun bt295 => (gaiterlaw05_DodBack.j3 kj26 l3 t254 bt295.2.2)) else (none)) else (none)) = some r := by first | (rw [hji67] at H; exact H) | (simp only [hji67] at H ⊢; exact H)
           have hji67_ : (if (wrap64 (Int.tdiv (wrap64 ((Int.tmod (wrap64 (64 - (Int.tmod t281 8))) 8) + t281)) 8)) < (t286.length : Int) then (wrap64 (Int.tdiv (wrap64 ((Int.tmod (wrap64 (64 - (Int.tmod t281 8))) 8) + t281)) 8)) else (t286.length : Int)) = ji67 := hji67
           (try (have hji67n := hji67_; simp only [Int.ofNat_lt] at hji67n))
           by_cases c68 : 0 ≤ (ji67)
           ·rw [if_pos c68] at H
            have c68b0 := eq_true c68
            have c68b1 : decide (0 ≤ (ji67)) = true := decide_eq_true c68
            clear c68
            by_cases c69 : (ji67) ≤ (t286.length : Int)
            ·rw [if_pos c69] at H
             have c69b0 := eq_true c69
             have c69b1 : decide ((ji67) ≤ (t286.length : Int)) = true := decide_eq_true c69
             clear c69
             obtain ⟨y291, hy291⟩ : ∃ y_ : List Int, y_ = (t286.take ((ji67) : Int).toNat) := ⟨_, rfl⟩
             replace H : ((dod_Get.f kj26 y291 (Int.tmod (wrap64 (64 - (Int.tmod t281 8))) 8)).bind fun bt295 => (gaiterlaw05_DodBack.j3 kj26 l3 t254 bt295.2.2)) = some r := by first | (rw [hy291]; with_reducible exact H) | (have H2_ := (Option.bind_some _ _).symm.trans H; rw [hy291]; with_reducible exact H2_) | (have H2_ := (Option.bind_some _ _).symm.trans H; with_reducible exact H2_) | with_reducible exact H | (rw [hy291]; exact H) | exact H
             have Ny291 := Aside0.mk hy291
             clear hy291
             replace H := Option.bind_eq_some_iff.mp H
             obtain ⟨⟨t295, t296, t297⟩, A700, H⟩ := H
             replace H : (gaiterlaw05_DodBack.j3 kj26 l3 t254 t297) = some r := H
             have A70 := Aside0.mk A700
             clear A700
             have H' := Aside0.mk H
             clear H
             have n0_ : Aside0 (Kd.R (Kd.int .u8) 5 ((w63.setCell ⟨gb290, 0, none⟩ (.slice Ao64 t286.length co64)).setCell ⟨gb290, 1, none⟩ (.int .i64 t289)) w.heap.size (fun k_ => some k_ ≠ (.slice Ao38 t272.length co38 : Value).ownBlock ∧ some k_ ≠ (v283 : Value).ownBlock ∧ some k_ ≠ (.slice Ao64 t286.length co64 : Value).ownBlock) (.slice Ao16 t255.length co16) t255) := ⟨by (with_reducible repeat (first | apply Kd.R_alloc | apply Kd.R_drewN | apply Kd.R_drew)); exact Kd.R_mono (Kd.R_far (p := ⟨gb290, 1, none⟩) (Kd.R_far (p := ⟨gb290, 0, none⟩) (Kd.R_types HO_260000.out BK290.out (by decide)) (fun _ hk => hk.2) (.slice Ao64 t286.length co64)) (fun _ hk => hk.2) (.int .i64 t289)) (fun _ hk => ⟨hk.1.2.2, ⟨hk.1.1, hk.1.2.1⟩⟩)⟩
             have n1_ : Aside0 (Kd.R (Kd.int .u8) 5 ((w63.setCell ⟨gb290, 0, none⟩ (.slice Ao64 t286.length co64)).setCell ⟨gb290, 1, none⟩ (.int .i64 t289)) w.heap.size (fun k_ => some k_ ≠ (.slice Ao16 t255.length co16 : Value).ownBlock ∧ some k_ ≠ (v283 : Value).ownBlock ∧ some k_ ≠ (.slice Ao64 t286.length co64 : Value).ownBlock) (.slice Ao38 t272.length co38) t272) := ⟨by (with_reducible repeat (first | apply Kd.R_alloc | apply Kd.R_drewN | apply Kd.R_drew)); exact Kd.R_mono (Kd.R_far (p := ⟨gb290, 1, none⟩) (Kd.R_far (p := ⟨gb290, 0, none⟩) (Kd.R_types HO_277000.out BK290.out (by decide)) (fun _ hk => hk.2) (.slice Ao64 t286.length co64)) (fun _ hk => hk.2) (.int .i64 t289)) (fun _ hk => ⟨hk.1.2.2, ⟨hk.1.1, hk.1.2.1⟩⟩)⟩
             have n2_ : Aside0 (Kd.R (Kd.int .u8) 5 ((w63.setCell ⟨gb290, 0, none⟩ (.slice Ao64 t286.length co64)).setCell ⟨gb290, 1, none⟩ (.int .i64 t289)) w.heap.size (fun k_ => some k_ ≠ (.slice Ao16 t255.length co16 : Value).ownBlock ∧ some k_ ≠ (.slice Ao38 t272.length co38 : Value).ownBlock ∧ some k_ ≠ (.slice Ao64 t286.length co64 : Value).ownBlock) v283 t282) := ⟨by (with_reducible repeat (first | apply Kd.R_alloc | apply Kd.R_drewN | apply Kd.R_drew)); exact Kd.R_mono (Kd.R_far (p := ⟨gb290, 1, none⟩) (Kd.R_far (p := ⟨gb290, 0, none⟩) (Kd.R_types HO284.out BK290.out (by decide)) (fun _ hk => hk.2) (.slice Ao64 t286.length co64)) (fun _ hk => hk.2) (.int .i64 t289)) (fun _ hk => ⟨hk.1.2.1, ⟨hk.1.2.2, hk.1.1⟩⟩)⟩
             have n3_ : Aside0 (Kd.R (Kd.int .u8) 5 ((w63.setCell ⟨gb290, 0, none⟩ (.slice Ao64 t286.length co64)).setCell ⟨gb290, 1, none⟩ (.int .i64 t289)) w.heap.size (fun k_ => some k_ ≠ (.slice Ao16 t255.length co16 : Value).ownBlock ∧ some k_ ≠ (.slice Ao38 t272.length co38 : Value).ownBlock ∧ some k_ ≠ (v283 : Value).ownBlock) (.slice Ao64 t286.length co64) t286) := ⟨by (with_reducible repeat (first | apply Kd.R_alloc | apply Kd.R_drewN | apply Kd.R_drew)); exact Kd.R_mono (Kd.R_far (p := ⟨gb290, 1, none⟩) (Kd.R_far (p := ⟨gb290, 0, none⟩) (Kd.R_types HO288.out BK290.out (by decide)) (fun _ hk => hk.2) (.slice Ao64 t286.length co64)) (fun _ hk => hk.2) (.int .i64 t289)) (fun _ hk => ⟨hk.1.2.1, ⟨hk.1.2.2, hk.1.1⟩⟩)⟩
             have n4_ : Aside0 (((w63.setCell ⟨gb290, 0, none⟩ (.slice Ao64 t286.length co64)).setCell ⟨gb290, 1, none⟩ (.int .i64 t289)).heap[gb259]? = some (.cells #[.slice Ao16 t255.length co16, .int .i64 t258] 33 (0, 0))) := ⟨by (with_reducible repeat (first | refine blk_drewN ?_ _ | refine blk_drew ?_ | refine blk_alloc ?_ _)); refine blk_far ?_ NB259_290.out _; (with_reducible repeat (first | refine blk_drewN ?_ _ | refine blk_drew ?_ | refine blk_alloc ?_ _)); refine blk_far ?_ NB259_290.out _; (with_reducible repeat (first | refine blk_drewN ?_ _ | refine blk_drew ?_ | refine blk_alloc ?_ _)); exact BK259.out⟩
             have n5_ : Aside0 (((w63.setCell ⟨gb290, 0, none⟩ (.slice Ao64 t286.length co64)).setCell ⟨gb290, 1, none⟩ (.int .i64 t289)).heap[gb276]? = some (.cells #[.slice Ao38 t272.length co38, .int .i64 t275] 33 (0, 0))) := ⟨by (with_reducible repeat (first | refine blk_drewN ?_ _ | refine blk_drew ?_ | refine blk_alloc ?_ _)); refine blk_far ?_ NB276_290.out _; (with_reducible repeat (first | refine blk_drewN ?_ _ | refine blk_drew ?_ | refine blk_alloc ?_ _)); refine blk_far ?_ NB276_290.out _; (with_reducible repeat (first | refine blk_drewN ?_ _ | refine blk_drew ?_ | refine blk_alloc ?_ _)); exact BK276.out⟩
             have n6_ : Aside0 (((w63.setCell ⟨gb290, 0, none⟩ (.slice Ao64 t286.length co64)).setCell ⟨gb290, 1, none⟩ (.int .i64 t289)).heap[gb290]? = some (.cells #[.slice Ao64 t286.length co64, .int .i64 t289] 33 (0, 0))) := ⟨by (with_reducible repeat (first | refine blk_drewN ?_ _ | refine blk_drew ?_ | refine blk_alloc ?_ _)); refine blk_put (cs := #[.slice Ao64 t286.length co64, .int .i64 0]) ?_ 1 _ rfl; (with_reducible repeat (first | refine blk_drewN ?_ _ | refine blk_drew ?_ | refine blk_alloc ?_ _)); refine blk_put (cs := #[.slice none 0 0, .int .i64 0]) ?_ 0 _ rfl; (with_reducible repeat (first | refine blk_drewN ?_ _ | refine blk_drew ?_ | refine blk_alloc ?_ _)); exact BK290.out⟩
             have n7_ : Aside0 (Below w.heap.size w ((w63.setCell ⟨gb290, 0, none⟩ (.slice Ao64 t286.length co64)).setCell ⟨gb290, 1, none⟩ (.int .i64 t289))) := ⟨by repeat (first | (with_reducible first | exact HB.out | apply below_alloc | apply pw_below_drewN | apply below_drew1 | refine below_set ?_ GE259.out | refine below_set ?_ GE276.out | refine below_set ?_ GE290.out) | exact HB.out)⟩
             (try clear HO_260000)
             (try clear HO_277000)
             (try clear HO284)
             (try clear HO288)
             (try clear BK259)
             (try clear BK276)
             (try clear BK290)
             (try clear HB)
             generalize ((w63.setCell ⟨gb290, 0, none⟩ (.slice Ao64 t286.length co64)).setCell ⟨gb290, 1, none⟩ (.int .i64 t289)) = w71 at n0_ n1_ n2_ n3_ n4_ n5_ n6_ n7_ ⊢
             have HO_260000 := n0_
             have HO_277000 := n1_
             have HO284 := n2_
             have HO288 := n3_
             have BK259 := n4_
             have BK276 := n5_
             have BK290 := n6_
             have HB := n7_
             clear n0_ n1_ n2_ n3_ n4_ n5_ n6_ n7_
             have hnb72 := NB290_259.out
             have hnc72 := NB259_290.out
             have hnb73 := NB290_276.out
             have hnc73 := NB276_290.out
             have hcz74_0 : w71.cell? ⟨gb290, 0, none⟩ = some (.slice Ao64 t286.length co64) := (blk_cell BK290.out 0).trans rfl
             have hcz74_1 : w71.cell? ⟨gb290, 1, none⟩ = some (.int .i64 t289) := (blk_cell BK290.out 1).trans rfl
             have hfz74_0 := blk_frozen BK290.out 0
             have hfz74_1 := blk_frozen BK290.out 1
             have q75 : ((ji67) : Int) ≤ ((t286.length : Int) : Int) := of_decide_eq_true (by first | (with_reducible assumption) | assumption)
             obtain ⟨i075, hi075, _, hsz75, _⟩ := info_parts info5
             have hroom75 : t286.length ≤ co64 := (Kd.R_reads' HO288.out).2.1
             have hC75 : Kd.C (Kd.int .u8) _ Ao64 t286.length t286 := (Kd.R_reads' HO288.out).2.2
             have hcut75 := cut_to (P := Try.prog) 22 5 .i64 Try.underlying22 hi075 Ao64 t286.length co64 (ji67) (of_decide_eq_true (by first | (with_reducible assumption) | assumption)) q75 hroom75
             have hr75 := Kd.C_take (m := ((ji67) : Int).toNat) hC75 (by omega)
             have hy75 : y291.length = ((ji67) : Int).toNat := (by rw [Ny291.out, List.length_take]; omega)
             rw [← Ny291.out] at hr75
             rw [← hy75] at hcut75
             have HR294 := Aside0.mk hr75
             have HC294 := Aside0.mk (show y291.length ≤ co64 from by omega)
             clear hr75 hC75 hroom75 hi075 hsz75
             have KY75 := Aside0.mk hy75
             clear hy75
             have KL75 := Aside0.mk (show ((ji67) : Int).toNat ≤ t286.length from by omega)
             (try (have q75s := q75; simp only [List.length_drop, List.length_take] at q75s; replace q75s := eq_true q75s)); replace q75 := eq_true q75
             go_wp2_with (first | ((with_reducible refine gate_callee (f := 11) rfl ?_); refine goesL_ (some 114) rfl rfl Try.func11 (by kernel_rfl) rfl #[.slice Ao64 y291.length co64, .int .i64 (Int.tmod (wrap64 (64 - (Int.tmod t281 8))) 8)] rfl (by (try simp only [List.map_toArray, List.map_cons, List.map_nil]); first | done | rfl | (simp only [List.length_drop, List.length_take]; rfl)) ?_; (with_reducible refine (dod_Get.calls kj26 _ _ y291 (Int.tmod (wrap64 (64 - (Int.tmod t281 8))) 8) t295 t296 t297 _ ?side1 ?side2 A70.out).mono ?_); (case side1 => repeat (first | exact (by repeat (first | (with_reducible exact HR294.out) | (with_reducible refine Kd.C_alloc ?_ _) | (with_reducible refine Kd.C_drewN ?_ _) | (with_reducible refine Kd.C_drew ?_) | exact HR294.out)) | (with_reducible refine Kd.C_alloc ?_ _) | (with_reducible refine Kd.C_drewN ?_ _) | (with_reducible refine Kd.C_drew ?_))); (case side2 => exact HC294.out); rintro e w' ⟨rfl, ⟨nd, rfl⟩⟩; refine ⟨_, rfl, ?_⟩; (try simp only [errW_none, errW_some])))
             go_meet
             case rel => exact ⟨_, (t297), (by first | rfl | (simp; done) | (simp [*]; done)), H', ⟨by have := HJ6.out; have := HJ12.out; have := HJ26.out; first | omega | exact Nat.le_refl _⟩, ⟨by (with_reducible repeat (first | apply Kd.R_alloc | apply Kd.R_drewN | apply Kd.R_drew)); exact Kd.R_mono HO_260000.out (fun _ hk => ⟨hk.1, hk.2.2⟩)⟩, ⟨by (with_reducible repeat (first | apply Kd.R_alloc | apply Kd.R_drewN | apply Kd.R_drew)); exact Kd.R_mono HO_277000.out (fun _ hk => ⟨hk.1, hk.2.2⟩)⟩, ⟨by (with_reducible repeat (first | apply Kd.R_alloc | apply Kd.R_drewN | apply Kd.R_drew)); exact Kd.R_mono HO288.out (fun _ hk => ⟨hk.1, hk.2.1⟩)⟩, ⟨by (with_reducible repeat (first | refine blk_drewN ?_ _ | refine blk_drew ?_ | refine blk_alloc ?_ _)); exact BK259.out⟩, ⟨by (with_reducible repeat (first | refine blk_drewN ?_ _ | refine blk_drew ?_ | refine blk_alloc ?_ _)); exact BK276.out⟩, ⟨by (with_reducible repeat (first | refine blk_drewN ?_ _ | refine blk_drew ?_ | refine blk_alloc ?_ _)); exact BK290.out⟩, ⟨by repeat (first | (with_reducible first | exact HB.out | apply below_alloc | apply pw_below_drewN | apply below_drew1 | refine below_set ?_ GE259.out | refine below_set ?_ GE276.out | refine below_set ?_ GE290.out) | exact HB.out)⟩⟩
            ·rw [if_neg c69] at H
             exact absurd H (by simp)
           ·rw [if_neg c68] at H
            exact absurd H (by simp)
          case rest =>
           clear HC55
           try clear c1
           try clear c2
           try clear p2
           try clear c6
           try clear p6
           try clear c7
           try clear q7
           try clear c11
           try clear c18
           try clear c21
           try clear p64
           try clear c68
           try clear c68b0
           try clear c68b1
           try clear c69
           try clear c69b0
           try clear c69b1
           try clear c72
           try clear c73
           try clear q75
           try clear hcz74_0
           try clear hcz74_1
           try clear hfz74_0
           try clear hfz74_1
           try clear q75
           obtain ⟨kq, x21_54, rfl, HA, HJ54, HO_260000, HO_277000, HO_291000, BK259, BK276, BK290, HB⟩ := hcut
           cases kq with
           | zero => exact absurd HA.out (by simp [gaiterlaw05_DodBack.j3])
           | succ kj54 =>
            have H := HA.out
            clear HA
            simp only [gaiterlaw05_DodBack.j3] at H
            replace H := Option.bind_eq_some_iff.mp H
            obtain ⟨t298, A760, H⟩ := H
            replace H : (if t298 = 2 then ((dod_Get.f kj54 l3 0).bind fun bt299 => (if bt299.2.2.isNone = true then (if bt299.2.1 < 0 then (gaiterlaw05_DodBack.j4 kj54 l3 t254 bt299.1 bt299.2.1 true) else (gaiterlaw05_DodBack.j4 kj54 l3 t254 bt299.1 bt299.2.1 (decide (bt299.2.1 > (wrap64 (8 * (l3.length : Int))))))) else (some t254))) else (some false)) = some r := H
            have A76 := Aside0.mk A760
            clear A760
            by_cases c77 : t298 = 2
            ·rw [if_pos c77] at H
             have c77b0 : (t298 == 2) = true := beq_iff_eq.mpr c77
             have c77b1 : (t298 != 2) = false := bne_eq_false_iff_eq.mpr c77
             clear c77
             replace H := Option.bind_eq_some_iff.mp H
             obtain ⟨⟨t299, t300, t301⟩, A780, H⟩ := H
             replace H : (if t301.isNone = true then (if t300 < 0 then (gaiterlaw05_DodBack.j4 kj54 l3 t254 t299 t300 true) else (gaiterlaw05_DodBack.j4 kj54 l3 t254 t299 t300 (decide (t300 > (wrap64 (8 * (l3.length : Int))))))) else (some t254)) = some r := H
             have A78 := Aside0.mk A780
             clear A780
             rcases t301 with _ | q302
             ·have H1 : (if t300 < 0 then (gaiterlaw05_DodBack.j4 kj54 l3 t254 t299 t300 true) else (gaiterlaw05_DodBack.j4 kj54 l3 t254 t299 t300 (decide (t300 > (wrap64 (8 * (l3.length : Int))))))) = some r := by rw [if_pos (show (none : Option Int).isNone = true by rfl)] at H; exact H
              clear H
              have H := H1
              clear H1
              try simp only [errW_none, errW_some]
              have HC79 := Aside0.mk H
              clear H
              have CA76 := fun W => gaiterlaw00_Code.calls x21_54 t298 W A76.out
              try simp only [errW_none, errW_some] at CA76
              go_upto_region 19 with (first | (go_at_call 17; (with_reducible refine (CA76 _).mono ?_); rintro e w' ⟨rfl, ⟨nd, rfl⟩⟩) | ((with_reducible refine gate_callee (f := 11) rfl ?_); refine goesL_ (some 123) rfl rfl Try.func11 (by kernel_rfl) rfl #[.slice A3 l3.length c3, .int .i64 0] rfl (by (try simp only [List.map_toArray, List.map_cons, List.map_nil]); first | done | rfl | (simp only [List.length_drop, List.length_take]; rfl)) ?_; (with_reducible refine (dod_Get.calls kj54 _ _ l3 0 t299 t300 none _ ?side1 ?side2 A78.out).mono ?_); (case side1 => repeat (first | exact (Kd.C_below HR3.out (by repeat (first | (with_reducible first | exact HB.out | apply below_alloc | apply pw_below_drewN | apply below_drew1 | refine below_set ?_ GE259.out | refine below_set ?_ GE276.out | refine below_set ?_ GE290.out) | exact HB.out))) | (with_reducible refine Kd.C_alloc ?_ _) | (with_reducible refine Kd.C_drewN ?_ _) | (with_reducible refine Kd.C_drew ?_))); (case side2 => exact HC3.out); rintro e w' ⟨rfl, ⟨nd, rfl⟩⟩; refine ⟨_, rfl, ?_⟩; (try simp only [errW_none, errW_some])))
              (try simp only [Act.put, List.setIfInBounds_toArray, List.set_cons_zero, List.set_cons_succ])
              go_cut [138] (fun v138 wc => ∃ (kq : Nat) (x138_78 : Bool), v138 = .bool x138_78 ∧ Aside0 (gaiterlaw05_DodBack.j4 kq l3 t254 t299 t300 x138_78 = some r) ∧ Aside0 (kq ≤ kj54) ∧ Aside0 (Kd.R (Kd.int .u8) 5 wc w.heap.size (fun k_ => some k_ ≠ ((.slice Ao38 t272.length co38) : Value).ownBlock ∧ some k_ ≠ ((.slice Ao64 t286.length co64) : Value).ownBlock) (.slice Ao16 t255.length co16) t255) ∧ Aside0 (Kd.R (Kd.int .u8) 5 wc w.heap.size (fun k_ => some k_ ≠ ((.slice Ao16 t255.length co16) : Value).ownBlock ∧ some k_ ≠ ((.slice Ao64 t286.length co64) : Value).ownBlock) (.slice Ao38 t272.length co38) t272) ∧ Aside0 (Kd.R (Kd.int .u8) 5 wc w.heap.size (fun k_ => some k_ ≠ ((.slice Ao16 t255.length co16) : Value).ownBlock ∧ some k_ ≠ ((.slice Ao38 t272.length co38) : Value).ownBlock) (.slice Ao64 t286.length co64) t286) ∧ Aside0 (wc.heap[gb259]? = some (.cells #[(.slice Ao16 t255.length co16), .int .i64 t258] 33 (0, 0))) ∧ Aside0 (wc.heap[gb276]? = some (.cells #[(.slice Ao38 t272.length co38), .int .i64 t275] 33 (0, 0))) ∧ Aside0 (wc.heap[gb290]? = some (.cells #[(.slice Ao64 t286.length co64), .int .i64 t289] 33 (0, 0))) ∧ Aside0 (Below w.heap.size w wc))
              case first =>
               have H := HC79.out
               clear HC79
               by_cases c80 : t300 < 0
               ·rw [if_pos c80] at H
                have c80b0 : decide (t300 < 0) = true := decide_eq_true c80
                clear c80
                (first | rw [c80b0] | (simp only [i64_w, i32_w]; rw [c80b0]) | skip)
                have H' := Aside0.mk H
                clear H
                go_wp2
                go_meet
                case rel => exact ⟨_, (true), (by first | rfl | (simp; done) | (simp [*]; done)), H', ⟨by have := HJ6.out; have := HJ12.out; have := HJ26.out; have := HJ54.out; first | omega | exact Nat.le_refl _⟩, ⟨by (with_reducible repeat (first | apply Kd.R_alloc | apply Kd.R_drewN | apply Kd.R_drew)); exact HO_260000.out⟩, ⟨by (with_reducible repeat (first | apply Kd.R_alloc | apply Kd.R_drewN | apply Kd.R_drew)); exact HO_277000.out⟩, ⟨by (with_reducible repeat (first | apply Kd.R_alloc | apply Kd.R_drewN | apply Kd.R_drew)); exact HO_291000.out⟩, ⟨by (with_reducible repeat (first | refine blk_drewN ?_ _ | refine blk_drew ?_ | refine blk_alloc ?_ _)); exact BK259.out⟩, ⟨by (with_reducible repeat (first | refine blk_drewN ?_ _ | refine blk_drew ?_ | refine blk_alloc ?_ _)); exact BK276.out⟩, ⟨by (with_reducible repeat (first | refine blk_drewN ?_ _ | refine blk_drew ?_ | refine blk_alloc ?_ _)); exact BK290.out⟩, ⟨by repeat (first | (with_reducible first | exact HB.out | apply below_alloc | apply pw_below_drewN | apply below_drew1 | refine below_set ?_ GE259.out | refine below_set ?_ GE276.out | refine below_set ?_ GE290.out) | exact HB.out)⟩⟩
               ·rw [if_neg c80] at H
                have c80b0 : decide (t300 < 0) = false := decide_eq_false c80
                clear c80
                (first | rw [c80b0] | (simp only [i64_w, i32_w]; rw [c80b0]) | skip)
                have H' := Aside0.mk H
                clear H
                go_wp2
                go_meet
                case rel => exact ⟨_, (decide (t300 > (wrap64 (8 * (l3.length : Int))))), (by first | rfl | (simp; done) | (simp [*]; done)), H', ⟨by have := HJ6.out; have := HJ12.out; have := HJ26.out; have := HJ54.out; first | omega | exact Nat.le_refl _⟩, ⟨by (with_reducible repeat (first | apply Kd.R_alloc | apply Kd.R_drewN | apply Kd.R_drew)); exact HO_260000.out⟩, ⟨by (with_reducible repeat (first | apply Kd.R_alloc | apply Kd.R_drewN | apply Kd.R_drew)); exact HO_277000.out⟩, ⟨by (with_reducible repeat (first | apply Kd.R_alloc | apply Kd.R_drewN | apply Kd.R_drew)); exact HO_291000.out⟩, ⟨by (with_reducible repeat (first | refine blk_drewN ?_ _ | refine blk_drew ?_ | refine blk_alloc ?_ _)); exact BK259.out⟩, ⟨by (with_reducible repeat (first | refine blk_drewN ?_ _ | refine blk_drew ?_ | refine blk_alloc ?_ _)); exact BK276.out⟩, ⟨by (with_reducible repeat (first | refine blk_drewN ?_ _ | refine blk_drew ?_ | refine blk_alloc ?_ _)); exact BK290.out⟩, ⟨by repeat (first | (with_reducible first | exact HB.out | apply below_alloc | apply pw_below_drewN | apply below_drew1 | refine below_set ?_ GE259.out | refine below_set ?_ GE276.out | refine below_set ?_ GE290.out) | exact HB.out)⟩⟩
              case rest =>
               clear HC79
               try clear c1
               try clear c2
               try clear p2
               try clear c3
               try clear q3
               try clear c6
               try clear p6
               try clear c7
               try clear q7
               try clear c8
               try clear c11
               try clear c18
               try clear c21
               try clear q30
               try clear p64
               try clear c68
               try clear c68b0
               try clear c68b1
               try clear c69
               try clear c69b0
               try clear c69b1
               try clear c72
               try clear c73
               try clear q75
               try clear c77
               try clear c77b0
               try clear c77b1
               try clear c80
               try clear c80b0
               try clear hcz74_0
               try clear hcz74_1
               try clear hfz74_0
               try clear hfz74_1
               try clear p2
               try clear p6
               try clear p64
               try clear q302
               try clear q7
               try clear q75
               obtain ⟨kq, x138_78, rfl, HA, HJ78, HO_260000, HO_277000, HO_291000, BK259, BK276, BK290, HB⟩ := hcut
               cases kq with
               | zero => exact absurd HA.out (by simp [gaiterlaw05_DodBack.j4])
               | succ kj78 =>
                have H := HA.out
                clear HA
                simp only [gaiterlaw05_DodBack.j4] at H
                by_cases c81 : x138_78 = true
                ·subst c81
                 have H1 : (some false) = some r := by rw [if_pos rfl] at H; exact H
                 clear H
                 have H := H1
                 clear H1
                 obtain rfl := Option.some.inj H
                 go_wp2
                 go_ret
                 exact ⟨by first | rfl | (simp [errW_none, errW_some] <;> rfl) | (simp [*, errW_none, errW_some] <;> rfl), by repeat (first | (with_reducible first | exact HB.out | apply below_alloc | apply pw_below_drewN | apply below_drew1 | refine below_set ?_ GE259.out | refine below_set ?_ GE276.out | refine below_set ?_ GE290.out) | exact HB.out)⟩
                ·replace c81 := Bool.eq_false_iff.mpr c81
                 subst c81
                 have H1 : (if t254 = true then ((dod_Code.f kj78 t299).bind fun bt303 => ((gaiterref01_Flat.f kj78 l3).bind fun t307 => (if 0 ≤ t300 then (if t300 ≤ (t307.length : Int) then ((gaiterlaw00_Is.f kj78 bt303.1 bt303.2 (t307.take (t300 : Int).toNat)).bind fun t314 => (some (t314 == 1))) else (none)) else (none)))) else (some false)) = some r := by rw [if_neg (show ¬ (false = true) by decide)] at H; exact H
                 clear H
                 have H := H1
                 clear H1
                 by_cases c82 : t254 = true
                 ·subst c82
                  have H1 : ((dod_Code.f kj78 t299).bind fun bt303 => ((gaiterref01_Flat.f kj78 l3).bind fun t307 => (if 0 ≤ t300 then (if t300 ≤ (t307.length : Int) then ((gaiterlaw00_Is.f kj78 bt303.1 bt303.2 (t307.take (t300 : Int).toNat)).bind fun t314 => (some (t314 == 1))) else (none)) else (none)))) = some r := by rw [if_pos rfl] at H; exact H
                  clear H
                  have H := H1
                  clear H1
                  replace H := Option.bind_eq_some_iff.mp H
                  obtain ⟨⟨t303, t306⟩, A830, H⟩ := H
                  replace H : ((gaiterref01_Flat.f kj78 l3).bind fun t307 => (if 0 ≤ t300 then (if t300 ≤ (t307.length : Int) then ((gaiterlaw00_Is.f kj78 t303 t306 (t307.take (t300 : Int).toNat)).bind fun t314 => (some (t314 == 1))) else (none)) else (none))) = some r := H
                  have A83 := Aside0.mk A830
                  clear A830
                  replace H := Option.bind_eq_some_iff.mp H
                  obtain ⟨t307, A840, H⟩ := H
                  replace H : (if 0 ≤ t300 then (if t300 ≤ (t307.length : Int) then ((gaiterlaw00_Is.f kj78 t303 t306 (t307.take (t300 : Int).toNat)).bind fun t314 => (some (t314 == 1))) else (none)) else (none)) = some r := H
                  have A84 := Aside0.mk A840
                  clear A840
                  by_cases c85 : 0 ≤ t300
                  ·rw [if_pos c85] at H
                   have c85b0 := eq_true c85
                   have c85b1 : decide (0 ≤ t300) = true := decide_eq_true c85
                   clear c85
                   by_cases c86 : t300 ≤ (t307.length : Int)
                   ·rw [if_pos c86] at H
                    have c86b0 := eq_true c86
                    have c86b1 : decide (t300 ≤ (t307.length : Int)) = true := decide_eq_true c86
                    clear c86
                    obtain ⟨y310, hy310⟩ : ∃ y_ : List Int, y_ = (t307.take (t300 : Int).toNat) := ⟨_, rfl⟩
                    replace H : ((gaiterlaw00_Is.f kj78 t303 t306 y310).bind fun t314 => (some (t314 == 1))) = some r := by first | (rw [hy310]; with_reducible exact H) | (have H2_ := (Option.bind_some _ _).symm.trans H; rw [hy310]; with_reducible exact H2_) | (have H2_ := (Option.bind_some _ _).symm.trans H; with_reducible exact H2_) | with_reducible exact H | (rw [hy310]; exact H) | exact H
                    have Ny310 := Aside0.mk hy310
                    clear hy310
                    replace H := Option.bind_eq_some_iff.mp H
                    obtain ⟨t314, A870, H⟩ := H
                    replace H : (some (t314 == 1)) = some r := H
                    have A87 := Aside0.mk A870
                    clear A870
                    obtain rfl := Option.some.inj H
                    go_wp2_with (first | (go_at_call 15; (with_reducible refine (dod_Code.calls kj78 t299 t303 t306 _ A83.out).mono ?_); rintro e w88 ⟨v304, rfl, ho0, hb⟩; have n0_ := Aside0.mk (Kd.R_elder' (by (with_reducible repeat (first | apply Kd.R_alloc | apply Kd.R_drewN | apply Kd.R_drew)); exact HO_260000.out) (Kd.R_base ho0) hb); have n1_ := Aside0.mk (Kd.R_elder' (by (with_reducible repeat (first | apply Kd.R_alloc | apply Kd.R_drewN | apply Kd.R_drew)); exact HO_277000.out) (Kd.R_base ho0) hb); have n2_ := Aside0.mk (Kd.R_elder' (by (with_reducible repeat (first | apply Kd.R_alloc | apply Kd.R_drewN | apply Kd.R_drew)); exact HO_291000.out) (Kd.R_base ho0) hb); have n3_ := Aside0.mk (Kd.R_lower (Kd.R_new' (Kd.R_new' (Kd.R_new' ho0 (Kd.R_lt (by (with_reducible repeat (first | apply Kd.R_alloc | apply Kd.R_drewN | apply Kd.R_drew)); exact HO_260000.out))) (Kd.R_lt (by (with_reducible repeat (first | apply Kd.R_alloc | apply Kd.R_drewN | apply Kd.R_drew)); exact HO_277000.out))) (Kd.R_lt (by (with_reducible repeat (first | apply Kd.R_alloc | apply Kd.R_drewN | apply Kd.R_drew)); exact HO_291000.out))) (below_size (by repeat (first | (with_reducible first | exact HB.out | apply below_alloc | apply pw_below_drewN | apply below_drew1 | refine below_set ?_ GE259.out | refine below_set ?_ GE276.out | refine below_set ?_ GE290.out) | exact HB.out)))); have n4_ := Aside0.mk (blk_below (g := gb259) (o := .cells #[.slice Ao16 t255.length co16, .int .i64 t258] 33 (0, 0)) (by (with_reducible repeat (first | refine blk_drewN ?_ _ | refine blk_drew ?_ | refine blk_alloc ?_ _)); exact BK259.out) hb); have n5_ := Aside0.mk (blk_below (g := gb276) (o := .cells #[.slice Ao38 t272.length co38, .int .i64 t275] 33 (0, 0)) (by (with_reducible repeat (first | refine blk_drewN ?_ _ | refine blk_drew ?_ | refine blk_alloc ?_ _)); exact BK276.out) hb); have n6_ := Aside0.mk (blk_below (g := gb290) (o := .cells #[.slice Ao64 t286.length co64, .int .i64 t289] 33 (0, 0)) (by (with_reducible repeat (first | refine blk_drewN ?_ _ | refine blk_drew ?_ | refine blk_alloc ?_ _)); exact BK290.out) hb); have n7_ := Aside0.mk (below_step (by repeat (first | (with_reducible first | exact HB.out | apply below_alloc | apply pw_below_drewN | apply below_drew1 | refine below_set ?_ GE259.out | refine below_set ?_ GE276.out | refine below_set ?_ GE290.out) | exact HB.out)) hb); clear HO_260000; clear HO_277000; clear HO_291000; clear BK259; clear BK276; clear BK290; clear HB; have HO_260000 := n0_; have HO_277000 := n1_; have HO_291000 := n2_; have HO305 := n3_; have BK259 := n4_; have BK276 := n5_; have BK290 := n6_; have HB := n7_; clear n0_ n1_ n2_ n3_ n4_ n5_ n6_ n7_; (try clear hb); (try clear hb2); (try clear hk); (try clear hi); (try clear ho0)) | (go_at_call 22; (with_reducible refine (gaiterref01_Flat.calls kj78 _ _ l3 t307 _ ?side1 ?side2 A84.out).mono ?_); (case side1 => repeat (first | exact (Kd.C_below HR3.out HB.out) | (with_reducible refine Kd.C_alloc ?_ _) | (with_reducible refine Kd.C_drewN ?_ _) | (with_reducible refine Kd.C_drew ?_))); (case side2 => exact HC3.out); rintro e w89 ⟨v308, rfl, ho0, hb⟩; have n0_ := Aside0.mk (Kd.R_elder' (by (with_reducible repeat (first | apply Kd.R_alloc | apply Kd.R_drewN | apply Kd.R_drew)); exact HO_260000.out) (Kd.R_base ho0) hb); have n1_ := Aside0.mk (Kd.R_elder' (by (with_reducible repeat (first | apply Kd.R_alloc | apply Kd.R_drewN | apply Kd.R_drew)); exact HO_277000.out) (Kd.R_base ho0) hb); have n2_ := Aside0.mk (Kd.R_elder' (by (with_reducible repeat (first | apply Kd.R_alloc | apply Kd.R_drewN | apply Kd.R_drew)); exact HO_291000.out) (Kd.R_base ho0) hb); have n3_ := Aside0.mk (Kd.R_elder' (by (with_reducible repeat (first | apply Kd.R_alloc | apply Kd.R_drewN | apply Kd.R_drew)); exact HO305.out) (Kd.R_base ho0) hb); have n4_ := Aside0.mk (Kd.R_lower (Kd.R_new' (Kd.R_new' (Kd.R_new' (Kd.R_new' ho0 (Kd.R_lt (by (with_reducible repeat (first | apply Kd.R_alloc | apply Kd.R_drewN | apply Kd.R_drew)); exact HO_260000.out))) (Kd.R_lt (by (with_reducible repeat (first | apply Kd.R_alloc | apply Kd.R_drewN | apply Kd.R_drew)); exact HO_277000.out))) (Kd.R_lt (by (with_reducible repeat (first | apply Kd.R_alloc | apply Kd.R_drewN | apply Kd.R_drew)); exact HO_291000.out))) (Kd.R_lt (by (with_reducible repeat (first | apply Kd.R_alloc | apply Kd.R_drewN | apply Kd.R_drew)); exact HO305.out))) (below_size (by repeat (first | (with_reducible first | exact HB.out | apply below_alloc | apply pw_below_drewN | apply below_drew1 | refine below_set ?_ GE259.out | refine below_set ?_ GE276.out | refine below_set ?_ GE290.out) | exact HB.out)))); have n5_ := Aside0.mk (blk_below (g := gb259) (o := .cells #[.slice Ao16 t255.length co16, .int .i64 t258] 33 (0, 0)) (by (with_reducible repeat (first | refine blk_drewN ?_ _ | refine blk_drew ?_ | refine blk_alloc ?_ _)); exact BK259.out) hb); have n6_ := Aside0.mk (blk_below (g := gb276) (o := .cells #[.slice Ao38 t272.length co38, .int .i64 t275] 33 (0, 0)) (by (with_reducible repeat (first | refine blk_drewN ?_ _ | refine blk_drew ?_ | refine blk_alloc ?_ _)); exact BK276.out) hb); have n7_ := Aside0.mk (blk_below (g := gb290) (o := .cells #[.slice Ao64 t286.length co64, .int .i64 t289] 33 (0, 0)) (by (with_reducible repeat (first | refine blk_drewN ?_ _ | refine blk_drew ?_ | refine blk_alloc ?_ _)); exact BK290.out) hb); have n8_ := Aside0.mk (below_step (by repeat (first | (with_reducible first | exact HB.out | apply below_alloc | apply pw_below_drewN | apply below_drew1 | refine below_set ?_ GE259.out | refine below_set ?_ GE276.out | refine below_set ?_ GE290.out) | exact HB.out)) hb); clear HO_260000; clear HO_277000; clear HO_291000; clear HO305; clear BK259; clear BK276; clear BK290; clear HB; have HO_260000 := n0_; have HO_277000 := n1_; have HO_291000 := n2_; have HO305 := n3_; have HO309 := n4_; have BK259 := n5_; have BK276 := n6_; have BK290 := n7_; have HB := n8_; clear n0_ n1_ n2_ n3_ n4_ n5_ n6_ n7_ n8_; (try clear hb); (try clear hb2); (try clear hk); (try clear hi); (try clear ho0); obtain ⟨Ao91, co91, eo91⟩ := Kd.R_slice HO309.out; subst eo91; have q90 : (t300 : Int) ≤ ((t307.length : Int) : Int) := of_decide_eq_true (by first | (with_reducible assumption) | assumption); obtain ⟨i090, hi090, _, hsz90, _⟩ := info_parts info5; have hroom90 : t307.length ≤ co91 := (Kd.R_reads' HO309.out).2.1; have hC90 : Kd.C (Kd.int .u8) _ Ao91 t307.length t307 := (Kd.R_reads' HO309.out).2.2; have hcut90 := cut_to (P := Try.prog) 22 5 .i64 Try.underlying22 hi090 Ao91 t307.length co91 t300 (of_decide_eq_true (by first | (with_reducible assumption) | assumption)) q90 hroom90; have hr90 := Kd.C_take (m := (t300 : Int).toNat) hC90 (by omega); have hy90 : y310.length = (t300 : Int).toNat := (by rw [Ny310.out, List.length_take]; omega); rw [← Ny310.out] at hr90; rw [← hy90] at hcut90; have HR313 := Aside0.mk hr90; have HC313 := Aside0.mk (show y310.length ≤ co91 from by omega); clear hr90 hC90 hroom90 hi090 hsz90; have KY90 := Aside0.mk hy90; clear hy90; have KL90 := Aside0.mk (show (t300 : Int).toNat ≤ t307.length from by omega); (try (have q90s := q90; simp only [List.length_drop, List.length_take] at q90s; replace q90s := eq_true q90s)); replace q90 := eq_true q90; obtain ⟨Ao92, co92, eo92⟩ := Kd.R_slice HO305.out; subst eo92) | (go_at_call 14; (with_reducible refine (gaiterlaw00_Is.calls kj78 _ _ t303 t306 _ _ y310 t314 _ ?side1 ?side2 ?side3 ?side4 A87.out).mono ?_); (case side1 => repeat (first | exact (Kd.R_reads' HO305.out).2.2 | (with_reducible refine Kd.C_alloc ?_ _) | (with_reducible refine Kd.C_drewN ?_ _) | (with_reducible refine Kd.C_drew ?_))); (case side2 => exact (Kd.R_reads' HO305.out).2.1); (case side3 => repeat (first | exact (by repeat (first | (with_reducible exact HR313.out) | (with_reducible refine Kd.C_alloc ?_ _) | (with_reducible refine Kd.C_drewN ?_ _) | (with_reducible refine Kd.C_drew ?_) | exact HR313.out)) | (with_reducible refine Kd.C_alloc ?_ _) | (with_reducible refine Kd.C_drewN ?_ _) | (with_reducible refine Kd.C_drew ?_))); (case side4 => exact HC313.out); rintro e w93 ⟨rfl, hb⟩; have n0_ := Aside0.mk (Kd.R_below (by (with_reducible repeat (first | apply Kd.R_alloc | apply Kd.R_drewN | apply Kd.R_drew)); exact HO_260000.out) hb); have n1_ := Aside0.mk (Kd.R_below (by (with_reducible repeat (first | apply Kd.R_alloc | apply Kd.R_drewN | apply Kd.R_drew)); exact HO_277000.out) hb); have n2_ := Aside0.mk (Kd.R_below (by (with_reducible repeat (first | apply Kd.R_alloc | apply Kd.R_drewN | apply Kd.R_drew)); exact HO_291000.out) hb); have n3_ := Aside0.mk (Kd.R_below (by (with_reducible repeat (first | apply Kd.R_alloc | apply Kd.R_drewN | apply Kd.R_drew)); exact HO305.out) hb); have n4_ := Aside0.mk (Kd.R_below (by (with_reducible repeat (first | apply Kd.R_alloc | apply Kd.R_drewN | apply Kd.R_drew)); exact HO309.out) hb); have n5_ := Aside0.mk (blk_below (g := gb259) (o := .cells #[.slice Ao16 t255.length co16, .int .i64 t258] 33 (0, 0)) (by (with_reducible repeat (first | refine blk_drewN ?_ _ | refine blk_drew ?_ | refine blk_alloc ?_ _)); exact BK259.out) hb); have n6_ := Aside0.mk (blk_below (g := gb276) (o := .cells #[.slice Ao38 t272.length co38, .int .i64 t275] 33 (0, 0)) (by (with_reducible repeat (first | refine blk_drewN ?_ _ | refine blk_drew ?_ | refine blk_alloc ?_ _)); exact BK276.out) hb); have n7_ := Aside0.mk (blk_below (g := gb290) (o := .cells #[.slice Ao64 t286.length co64, .int .i64 t289] 33 (0, 0)) (by (with_reducible repeat (first | refine blk_drewN ?_ _ | refine blk_drew ?_ | refine blk_alloc ?_ _)); exact BK290.out) hb); have n8_ := Aside0.mk (Kd.C_below (by repeat (first | (with_reducible exact HR313.out) | (with_reducible refine Kd.C_alloc ?_ _) | (with_reducible refine Kd.C_drewN ?_ _) | (with_reducible refine Kd.C_drew ?_) | exact HR313.out)) hb); have n9_ := Aside0.mk (below_step (by repeat (first | (with_reducible first | exact HB.out | apply below_alloc | apply pw_below_drewN | apply below_drew1 | refine below_set ?_ GE259.out | refine below_set ?_ GE276.out | refine below_set ?_ GE290.out) | exact HB.out)) hb); clear HO_260000; clear HO_277000; clear HO_291000; clear HO305; clear HO309; clear BK259; clear BK276; clear BK290; clear HR313; clear HB; have HO_260000 := n0_; have HO_277000 := n1_; have HO_291000 := n2_; have HO305 := n3_; have HO309 := n4_; have BK259 := n5_; have BK276 := n6_; have BK290 := n7_; have HR313 := n8_; have HB := n9_; clear n0_ n1_ n2_ n3_ n4_ n5_ n6_ n7_ n8_ n9_; (try clear hb); (try clear hb2); (try clear hk); (try clear hi)))
                    go_ret
                    exact ⟨by first | rfl | (simp [errW_none, errW_some] <;> rfl) | (simp [*, errW_none, errW_some] <;> rfl), by repeat (first | (with_reducible first | exact HB.out | apply below_alloc | apply pw_below_drewN | apply below_drew1 | refine below_set ?_ GE259.out | refine below_set ?_ GE276.out | refine below_set ?_ GE290.out) | exact HB.out)⟩
                   ·rw [if_neg c86] at H
                    exact absurd H (by simp)
                  ·rw [if_neg c85] at H
                   exact absurd H (by simp)
                 ·replace c82 := Bool.eq_false_iff.mpr c82
                  subst c82
                  have H1 : (some false) = some r := by rw [if_neg (show ¬ (false = true) by decide)] at H; exact H
                  clear H
                  have H := H1
                  clear H1
                  obtain rfl := Option.some.inj H
                  go_wp2
                  go_ret
                  exact ⟨by first | rfl | (simp [errW_none, errW_some] <;> rfl) | (simp [*, errW_none, errW_some] <;> rfl), by repeat (first | (with_reducible first | exact HB.out | apply below_alloc | apply pw_below_drewN | apply below_drew1 | refine below_set ?_ GE259.out | refine below_set ?_ GE276.out | refine below_set ?_ GE290.out) | exact HB.out)⟩
             ·have H1 : (some t254) = some r := by rw [if_neg (show ¬ (some q302).isNone = true by simp)] at H; exact H
              clear H
              have H := H1
              clear H1
              try simp only [errW_none, errW_some]
              obtain rfl := Option.some.inj H
              have CA76 := fun W => gaiterlaw00_Code.calls x21_54 t298 W A76.out
              try simp only [errW_none, errW_some] at CA76
              go_wp2_with (first | (go_at_call 17; (with_reducible refine (CA76 _).mono ?_); rintro e w' ⟨rfl, ⟨nd, rfl⟩⟩) | ((with_reducible refine gate_callee (f := 11) rfl ?_); refine goesL_ (some 123) rfl rfl Try.func11 (by kernel_rfl) rfl #[.slice A3 l3.length c3, .int .i64 0] rfl (by (try simp only [List.map_toArray, List.map_cons, List.map_nil]); first | done | rfl | (simp only [List.length_drop, List.length_take]; rfl)) ?_; (with_reducible refine (dod_Get.calls kj54 _ _ l3 0 t299 t300 (some q302) _ ?side1 ?side2 A78.out).mono ?_); (case side1 => repeat (first | exact (Kd.C_below HR3.out (by repeat (first | (with_reducible first | exact HB.out | apply below_alloc | apply pw_below_drewN | apply below_drew1 | refine below_set ?_ GE259.out | refine below_set ?_ GE276.out | refine below_set ?_ GE290.out) | exact HB.out))) | (with_reducible refine Kd.C_alloc ?_ _) | (with_reducible refine Kd.C_drewN ?_ _) | (with_reducible refine Kd.C_drew ?_))); (case side2 => exact HC3.out); rintro e w' ⟨rfl, ⟨nd, rfl⟩⟩; refine ⟨_, rfl, ?_⟩; (try simp only [errW_none, errW_some])))
              go_ret
              exact ⟨by first | rfl | (simp [errW_none, errW_some] <;> rfl) | (simp [*, errW_none, errW_some] <;> rfl), by repeat (first | (with_reducible first | exact HB.out | apply below_alloc | apply pw_below_drewN | apply below_drew1 | refine below_set ?_ GE259.out | refine below_set ?_ GE276.out | refine below_set ?_ GE290.out) | exact HB.out)⟩
            ·rw [if_neg c77] at H
             have c77b0 : (t298 == 2) = false := beq_eq_false_iff_ne.mpr c77
             have c77b1 : (t298 != 2) = true := bne_iff_ne.mpr c77
             obtain rfl := Option.some.inj H
             have CA76 := fun W => gaiterlaw00_Code.calls x21_54 t298 W A76.out
             try simp only [errW_none, errW_some] at CA76
             go_wp2_with (first | (go_at_call 17; (with_reducible refine (CA76 _).mono ?_); rintro e w' ⟨rfl, ⟨nd, rfl⟩⟩))
             go_ret
             exact ⟨by first | rfl | (simp [errW_none, errW_some] <;> rfl) | (simp [*, errW_none, errW_some] <;> rfl), by repeat (first | (with_reducible first | exact HB.out | apply below_alloc | apply pw_below_drewN | apply below_drew1 | refine below_set ?_ GE259.out | refine below_set ?_ GE276.out | refine below_set ?_ GE290.out) | exact HB.out)⟩

/-- THE ONE PURE STATEMENT of gaiterlaw05_DodBack: yours. -/
def gaiterlaw05_DodBack.Pure : Prop := ∀ (l0 : List Int) (a1 : Int) (l2 : List Int) (l3 : List Int) (a4 : Int), l0.length ≤ maxLen → l0.length * 1 ≤ 140737488351232 → (∀ x ∈ l0, (Lit.int .u8 x).wf = true) → (Lit.int .i64 a1).wf = true → l2.length ≤ maxLen → l2.length * 1 ≤ 140737488351232 → (∀ x ∈ l2, (Lit.int .u8 x).wf = true) → l3.length ≤ maxLen → l3.length * 1 ≤ 140737488351232 → (∀ x ∈ l3, (Lit.int .u8 x).wf = true) → (Lit.int .i64 a4).wf = true → ∃ k, gaiterlaw05_DodBack.f k l0 a1 l2 l3 a4 = some true
theorem gaiterlaw05_DodBack.walk (P : gaiterlaw05_DodBack.Pure) (a0 : Option Addr) (len0 cap0 : Nat) (z0 : List Int) (a1 : Int) (a2 : Option Addr) (len2 cap2 : Nat) (z2 : List Int) (a3 : Option Addr) (len3 cap3 : Nat) (z3 : List Int) (a4 : Int) (w : World) (w0 : (a0 = none ∧ len0 = 0 ∧ cap0 = 0 ∧ z0 = []) ∨ ∃ x, a0 = some x ∧ len0 ≤ cap0 ∧ cap0 ≤ maxLen ∧ z0.length = cap0 ∧ (∀ i, i < z0.length → w.cell? (x.add i) = some (.int .u8 (z0.getD i 0))) ∧ ∀ n ∈ z0, (Lit.int .u8 n).wf = true) (y0 : len0 * 1 ≤ 140737488351232) (w1 : (Lit.int .i64 a1).wf = true) (w2 : (a2 = none ∧ len2 = 0 ∧ cap2 = 0 ∧ z2 = []) ∨ ∃ x, a2 = some x ∧ len2 ≤ cap2 ∧ cap2 ≤ maxLen ∧ z2.length = cap2 ∧ (∀ i, i < z2.length → w.cell? (x.add i) = some (.int .u8 (z2.getD i 0))) ∧ ∀ n ∈ z2, (Lit.int .u8 n).wf = true) (y2 : len2 * 1 ≤ 140737488351232) (w3 : (a3 = none ∧ len3 = 0 ∧ cap3 = 0 ∧ z3 = []) ∨ ∃ x, a3 = some x ∧ len3 ≤ cap3 ∧ cap3 ≤ maxLen ∧ z3.length = cap3 ∧ (∀ i, i < z3.length → w.cell? (x.add i) = some (.int .u8 (z3.getD i 0))) ∧ ∀ n ∈ z3, (Lit.int .u8 n).wf = true) (y3 : len3 * 1 ≤ 140737488351232) (w4 : (Lit.int .i64 a4).wf = true) :
  Calls Try.prog 4 #[.slice a0 len0 cap0, .int .i64 a1, .slice a2 len2 cap2, .slice a3 len3 cap3, .int .i64 a4] w fun e w' => e = .returned (.bool true) ∧ Below w.heap.size w w' := by
 obtain ⟨l0, rfl, hr0, hm0, hw0, hc0⟩ := ReadsInt.ofRowC w0
 obtain ⟨l2, rfl, hr2, hm2, hw2, hc2⟩ := ReadsInt.ofRowC w2
 obtain ⟨l3, rfl, hr3, hm3, hw3, hc3⟩ := ReadsInt.ofRowC w3
 obtain ⟨k, h⟩ := P l0 a1 l2 l3 a4 hm0 y0 hw0 w1 hm2 y2 hw2 hm3 y3 hw3 w4
 refine (gaiterlaw05_DodBack.calls k _ _ l0 a1 _ _ l2 _ _ l3 a4 true w (Kd.C_of_reads (d := (0 : Int)) (h1 := fun _ => rfl) hr0) hc0 (Kd.C_of_reads (d := (0 : Int)) (h1 := fun _ => rfl) hr2) hc2 (Kd.C_of_reads (d := (0 : Int)) (h1 := fun _ => rfl) hr3) hc3 h).mono ?_
 rintro e w' ⟨rfl, hd⟩
 exact ⟨rfl, hd⟩

end Go.Proofs.Ytfpcbnkipdjlhab.All
