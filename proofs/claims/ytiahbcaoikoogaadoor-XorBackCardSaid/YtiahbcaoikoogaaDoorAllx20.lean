-- written by a program of the session out of the translation; Lean checks it
import Derived.Test.YtiahbcaoikoogaaDoorAllx0
import Derived.Test.YtiahbcaoikoogaaDoorAllx1
import Derived.Test.YtiahbcaoikoogaaDoorAllx8
import Derived.Test.YtiahbcaoikoogaaDoorAllx11
import Derived.Test.YtiahbcaoikoogaaDoorAllx12
import Derived.Test.YtiahbcaoikoogaaDoorAllx13
import Derived.Test.YtiahbcaoikoogaaDoorAllx18
import Derived.Test.YtiahbcaoikoogaaDoorIs
import Derived.Test.YtiahbcaoikoogaaDoorM4
namespace Go.Proofs.YtiahbcaoikoogaaDoor.All
open Go.RowKit Go.Proofs.YtiahbcaoikoogaaDoorW.PrintWords Go.Proofs.YtiahbcaoikoogaaDoorW.PrintLast Go.Proofs.YtiahbcaoikoogaaDoorW.PrintMore
attribute [local go_sem] max2_int min2_int max_two min_two max_three min_three max_four min_four   -- for this text's walks alone
set_option linter.unusedVariables false
set_option linter.unusedSimpArgs false

attribute [local go_sem high] eqA24
/-! ### gaiterlaw07_XorBack: function 4 -/
mutual
def gaiterlaw07_XorBack.j0 : Nat → List Int → List Int → List Int → List Int → Bool → Bool → Option (Bool)
 | 0, _, _, _, _, _, _ => none
 | k + 1, x0, x1, x2, x3, x9, x47 => if x47 = true then (some x9) else ((gaiterlaw00_Bits.f k x0).bind fun bt402 => (gaiterlaw07_XorBack.l0 k x0 x1 x2 x3 x9 0 bt402.1 bt402.2 0 0 0))
def gaiterlaw07_XorBack.l0 : Nat → List Int → List Int → List Int → List Int → Bool → Int → List Int → Int → Int → Int → Int → Option (Bool)
 | 0, _, _, _, _, _, _, _, _, _, _, _ => none
 | k + 1, x0, x1, x2, x3, x9, x12, x407000, x407001, x408000, x408001, x408002 => if x12 < (x1.length : Int) then (if 0 ≤ x12 then ((xor_Code.f k x408000 x408001 x408002 (rd x1 x12)).bind fun bt409 => ((bits_Join.f k x407000 x407001 bt409.1 bt409.2.1).bind fun bt418 => (gaiterlaw07_XorBack.l0 k x0 x1 x2 x3 x9 (wrap64 (x12 + 1)) bt418.1 bt418.2 bt409.2.2.1 bt409.2.2.2.1 bt409.2.2.2.2))) else (none)) else ((gaiterlaw00_Bits.f k x2).bind fun bt422 => ((bits_Join.f k x407000 x407001 bt422.1 bt422.2).bind fun bt426 => (gaiterlaw07_XorBack.l1 k x1 x3 x9 (x0.length : Int) 0 bt426.1 bt426.2 0 0 0)))
def gaiterlaw07_XorBack.l1 : Nat → List Int → List Int → Bool → Int → Int → List Int → Int → Int → Int → Int → Option (Bool)
 | 0, _, _, _, _, _, _, _, _, _, _ => none
 | k + 1, x1, x3, x9, x15, x16, x407000, x407001, x408000, x408001, x408002 => if x16 < (x1.length : Int) then (if 0 ≤ x16 then ((xor_Code.f k x408000 x408001 x408002 (rd x1 x16)).bind fun bt431 => ((xor_Get.f k x408000 x408001 x408002 x407000 x15).bind fun bt440 => (if bt440.2.2.2.2.2.isNone = true then (if bt440.1 = (rd x1 x16) then (if (!(bt440.2.1 == bt431.2.2.1) || (!(bt440.2.2.1 == bt431.2.2.2.1) || (!(bt440.2.2.2.1 == bt431.2.2.2.2)))) = true then (none) else (if bt440.2.2.2.2.1 = bt431.2.1 then (if bt440.2.1 = bt440.1 then (gaiterlaw07_XorBack.l1 k x1 x3 x9 (wrap64 (x15 + bt440.2.2.2.2.1)) (wrap64 (x16 + 1)) x407000 x407001 bt431.2.2.1 bt431.2.2.2.1 bt431.2.2.2.2) else (none)) else (none))) else (none)) else (none)))) else (none)) else ((xor_Get.f k x408000 x408001 x408002 x3 0).bind fun bt449 => (if bt449.2.2.2.2.2.isNone = true then (if bt449.2.2.2.2.1 < 1 then (gaiterlaw07_XorBack.j3 k x3 x9 bt449.1 bt449.2.2.2.2.1 true x408000 x408001 x408002 bt449.2.1 bt449.2.2.1 bt449.2.2.2.1) else (gaiterlaw07_XorBack.j3 k x3 x9 bt449.1 bt449.2.2.2.2.1 (decide (bt449.2.2.2.2.1 > (wrap64 (8 * (x3.length : Int))))) x408000 x408001 x408002 bt449.2.1 bt449.2.2.1 bt449.2.2.2.1)) else (some x9)))
def gaiterlaw07_XorBack.j3 : Nat → List Int → Bool → Int → Int → Bool → Int → Int → Int → Int → Int → Int → Option (Bool)
 | 0, _, _, _, _, _, _, _, _, _, _, _ => none
 | k + 1, x3, x9, x23, x25, x152, x408000, x408001, x408002, x456000, x456001, x456002 => if x152 = true then (none) else ((xor_Code.f k x408000 x408001 x408002 x23).bind fun bt457 => (if x9 = true then (if (x456000 == bt457.2.2.1 && (x456001 == bt457.2.2.2.1 && (x456002 == bt457.2.2.2.2))) = true then ((gaiterref01_Flat.f k x3).bind fun t466 => (if 0 ≤ x25 then (if x25 ≤ (t466.length : Int) then ((gaiterlaw00_Is.f k bt457.1 bt457.2.1 (t466.take (x25 : Int).toNat)).bind fun t473 => (some (t473 == 1))) else (none)) else (none))) else (none)) else (none)))
end
def gaiterlaw07_XorBack.f (k : Nat) (l0 : List Int) (l1 : List Int) (l2 : List Int) (l3 : List Int) : Option (Bool) := (gaiterlaw07_up.f k).bind fun t401 => (if (l0.length : Int) > 300 then (gaiterlaw07_XorBack.j0 k l0 l1 l2 l3 t401 true) else (if (l1.length : Int) > 50 then (gaiterlaw07_XorBack.j0 k l0 l1 l2 l3 t401 true) else (if (l2.length : Int) > 300 then (gaiterlaw07_XorBack.j0 k l0 l1 l2 l3 t401 true) else (gaiterlaw07_XorBack.j0 k l0 l1 l2 l3 t401 (decide ((l3.length : Int) > 300))))))
theorem gaiterlaw07_XorBack.mono_l : ∀ k, (∀ y0 y1 y2 y3 y4 y5, LeO (gaiterlaw07_XorBack.j0 k y0 y1 y2 y3 y4 y5) (gaiterlaw07_XorBack.j0 (k + 1) y0 y1 y2 y3 y4 y5)) ∧ (∀ y0 y1 y2 y3 y4 y5 y6 y7 y8 y9 y10, LeO (gaiterlaw07_XorBack.l0 k y0 y1 y2 y3 y4 y5 y6 y7 y8 y9 y10) (gaiterlaw07_XorBack.l0 (k + 1) y0 y1 y2 y3 y4 y5 y6 y7 y8 y9 y10)) ∧ (∀ y0 y1 y2 y3 y4 y5 y6 y7 y8 y9, LeO (gaiterlaw07_XorBack.l1 k y0 y1 y2 y3 y4 y5 y6 y7 y8 y9) (gaiterlaw07_XorBack.l1 (k + 1) y0 y1 y2 y3 y4 y5 y6 y7 y8 y9)) ∧ (∀ y0 y1 y2 y3 y4 y5 y6 y7 y8 y9 y10, LeO (gaiterlaw07_XorBack.j3 k y0 y1 y2 y3 y4 y5 y6 y7 y8 y9 y10) (gaiterlaw07_XorBack.j3 (k + 1) y0 y1 y2 y3 y4 y5 y6 y7 y8 y9 y10))
 | 0 => ⟨fun _ _ _ _ _ _ r h => by simp [gaiterlaw07_XorBack.j0] at h, fun _ _ _ _ _ _ _ _ _ _ _ r h => by simp [gaiterlaw07_XorBack.l0] at h, fun _ _ _ _ _ _ _ _ _ _ r h => by simp [gaiterlaw07_XorBack.l1] at h, fun _ _ _ _ _ _ _ _ _ _ _ r h => by simp [gaiterlaw07_XorBack.j3] at h⟩
 | k + 1 => by
  obtain ⟨ih0, ih1, ih2, ih3⟩ := gaiterlaw07_XorBack.mono_l k
  refine ⟨?_, ?_, ?_, ?_⟩
  ·intro y0 y1 y2 y3 y4 y5
   unfold gaiterlaw07_XorBack.j0
   repeat' first
   | (with_reducible exact ih0 _ _ _ _ _ _)
   | (with_reducible exact ih1 _ _ _ _ _ _ _ _ _ _ _)
   | (with_reducible exact ih2 _ _ _ _ _ _ _ _ _ _)
   | (with_reducible exact ih3 _ _ _ _ _ _ _ _ _ _ _)
   | (with_reducible exact bits_Join.mono _ _ _ _ _)
   | (with_reducible exact gaiterlaw00_Bits.mono _ _)
   | (with_reducible exact gaiterlaw00_Is.mono _ _ _ _)
   | (with_reducible exact gaiterlaw07_up.mono _)
   | (with_reducible exact gaiterref01_Flat.mono _ _)
   | (with_reducible exact xor_Code.mono _ _ _ _ _)
   | (with_reducible exact xor_Get.mono _ _ _ _ _ _)
   | (with_reducible exact LeO.refl _)
   | (with_reducible exact LeO.none _)
   | (with_reducible refine LeO.ite ?_ ?_)
   | (with_reducible refine LeO.bind ?_ (fun _ => ?_))
   | exact ih0 _ _ _ _ _ _
   | exact ih1 _ _ _ _ _ _ _ _ _ _ _
   | exact ih2 _ _ _ _ _ _ _ _ _ _
   | exact ih3 _ _ _ _ _ _ _ _ _ _ _
   | exact bits_Join.mono _ _ _ _ _
   | exact gaiterlaw00_Bits.mono _ _
   | exact gaiterlaw00_Is.mono _ _ _ _
   | exact gaiterlaw07_up.mono _
   | exact gaiterref01_Flat.mono _ _
   | exact xor_Code.mono _ _ _ _ _
   | exact xor_Get.mono _ _ _ _ _ _
   | exact LeO.none _
   | refine LeO.ite ?_ ?_
   | refine LeO.bind ?_ (fun _ => ?_)
  ·intro y0 y1 y2 y3 y4 y5 y6 y7 y8 y9 y10
   unfold gaiterlaw07_XorBack.l0
   repeat' first
   | (with_reducible exact ih0 _ _ _ _ _ _)
   | (with_reducible exact ih1 _ _ _ _ _ _ _ _ _ _ _)
   | (with_reducible exact ih2 _ _ _ _ _ _ _ _ _ _)
   | (with_reducible exact ih3 _ _ _ _ _ _ _ _ _ _ _)
   | (with_reducible exact bits_Join.mono _ _ _ _ _)
   | (with_reducible exact gaiterlaw00_Bits.mono _ _)
   | (with_reducible exact gaiterlaw00_Is.mono _ _ _ _)
   | (with_reducible exact gaiterlaw07_up.mono _)
   | (with_reducible exact gaiterref01_Flat.mono _ _)
   | (with_reducible exact xor_Code.mono _ _ _ _ _)
   | (with_reducible exact xor_Get.mono _ _ _ _ _ _)
   | (with_reducible exact LeO.refl _)
   | (with_reducible exact LeO.none _)
   | (with_reducible refine LeO.ite ?_ ?_)
   | (with_reducible refine LeO.bind ?_ (fun _ => ?_))
   | exact ih0 _ _ _ _ _ _
   | exact ih1 _ _ _ _ _ _ _ _ _ _ _
   | exact ih2 _ _ _ _ _ _ _ _ _ _
   | exact ih3 _ _ _ _ _ _ _ _ _ _ _
   | exact bits_Join.mono _ _ _ _ _
   | exact gaiterlaw00_Bits.mono _ _
   | exact gaiterlaw00_Is.mono _ _ _ _
   | exact gaiterlaw07_up.mono _
   | exact gaiterref01_Flat.mono _ _
   | exact xor_Code.mono _ _ _ _ _
   | exact xor_Get.mono _ _ _ _ _ _
   | exact LeO.none _
   | refine LeO.ite ?_ ?_
   | refine LeO.bind ?_ (fun _ => ?_)
  ·intro y0 y1 y2 y3 y4 y5 y6 y7 y8 y9
   unfold gaiterlaw07_XorBack.l1
   repeat' first
   | (with_reducible exact ih0 _ _ _ _ _ _)
   | (with_reducible exact ih1 _ _ _ _ _ _ _ _ _ _ _)
   | (with_reducible exact ih2 _ _ _ _ _ _ _ _ _ _)
   | (with_reducible exact ih3 _ _ _ _ _ _ _ _ _ _ _)
   | (with_reducible exact bits_Join.mono _ _ _ _ _)
   | (with_reducible exact gaiterlaw00_Bits.mono _ _)
   | (with_reducible exact gaiterlaw00_Is.mono _ _ _ _)
   | (with_reducible exact gaiterlaw07_up.mono _)
   | (with_reducible exact gaiterref01_Flat.mono _ _)
   | (with_reducible exact xor_Code.mono _ _ _ _ _)
   | (with_reducible exact xor_Get.mono _ _ _ _ _ _)
   | (with_reducible exact LeO.refl _)
   | (with_reducible exact LeO.none _)
   | (with_reducible refine LeO.ite ?_ ?_)
   | (with_reducible refine LeO.bind ?_ (fun _ => ?_))
   | exact ih0 _ _ _ _ _ _
   | exact ih1 _ _ _ _ _ _ _ _ _ _ _
   | exact ih2 _ _ _ _ _ _ _ _ _ _
   | exact ih3 _ _ _ _ _ _ _ _ _ _ _
   | exact bits_Join.mono _ _ _ _ _
   | exact gaiterlaw00_Bits.mono _ _
   | exact gaiterlaw00_Is.mono _ _ _ _
   | exact gaiterlaw07_up.mono _
   | exact gaiterref01_Flat.mono _ _
   | exact xor_Code.mono _ _ _ _ _
   | exact xor_Get.mono _ _ _ _ _ _
   | exact LeO.none _
   | refine LeO.ite ?_ ?_
   | refine LeO.bind ?_ (fun _ => ?_)
  ·intro y0 y1 y2 y3 y4 y5 y6 y7 y8 y9 y10
   unfold gaiterlaw07_XorBack.j3
   repeat' first
   | (with_reducible exact ih0 _ _ _ _ _ _)
   | (with_reducible exact ih1 _ _ _ _ _ _ _ _ _ _ _)
   | (with_reducible exact ih2 _ _ _ _ _ _ _ _ _ _)
   | (with_reducible exact ih3 _ _ _ _ _ _ _ _ _ _ _)
   | (with_reducible exact bits_Join.mono _ _ _ _ _)
   | (with_reducible exact gaiterlaw00_Bits.mono _ _)
   | (with_reducible exact gaiterlaw00_Is.mono _ _ _ _)
   | (with_reducible exact gaiterlaw07_up.mono _)
   | (with_reducible exact gaiterref01_Flat.mono _ _)
   | (with_reducible exact xor_Code.mono _ _ _ _ _)
   | (with_reducible exact xor_Get.mono _ _ _ _ _ _)
   | (with_reducible exact LeO.refl _)
   | (with_reducible exact LeO.none _)
   | (with_reducible refine LeO.ite ?_ ?_)
   | (with_reducible refine LeO.bind ?_ (fun _ => ?_))
   | exact ih0 _ _ _ _ _ _
   | exact ih1 _ _ _ _ _ _ _ _ _ _ _
   | exact ih2 _ _ _ _ _ _ _ _ _ _
   | exact ih3 _ _ _ _ _ _ _ _ _ _ _
   | exact bits_Join.mono _ _ _ _ _
   | exact gaiterlaw00_Bits.mono _ _
   | exact gaiterlaw00_Is.mono _ _ _ _
   | exact gaiterlaw07_up.mono _
   | exact gaiterref01_Flat.mono _ _
   | exact xor_Code.mono _ _ _ _ _
   | exact xor_Get.mono _ _ _ _ _ _
   | exact LeO.none _
   | refine LeO.ite ?_ ?_
   | refine LeO.bind ?_ (fun _ => ?_)
theorem gaiterlaw07_XorBack.mono : ∀ a0 a1 a2 a3 k, LeO (gaiterlaw07_XorBack.f k a0 a1 a2 a3) (gaiterlaw07_XorBack.f (k + 1) a0 a1 a2 a3) := by
 intro a0 a1 a2 a3 k
 obtain ⟨ih0, ih1, ih2, ih3⟩ := gaiterlaw07_XorBack.mono_l k
 unfold gaiterlaw07_XorBack.f
 repeat' first
   | (with_reducible exact ih0 _ _ _ _ _ _)
   | (with_reducible exact ih1 _ _ _ _ _ _ _ _ _ _ _)
   | (with_reducible exact ih2 _ _ _ _ _ _ _ _ _ _)
   | (with_reducible exact ih3 _ _ _ _ _ _ _ _ _ _ _)
   | (with_reducible exact bits_Join.mono _ _ _ _ _)
   | (with_reducible exact gaiterlaw00_Bits.mono _ _)
   | (with_reducible exact gaiterlaw00_Is.mono _ _ _ _)
   | (with_reducible exact gaiterlaw07_up.mono _)
   | (with_reducible exact gaiterref01_Flat.mono _ _)
   | (with_reducible exact xor_Code.mono _ _ _ _ _)
   | (with_reducible exact xor_Get.mono _ _ _ _ _ _)
   | (with_reducible exact LeO.refl _)
   | (with_reducible exact LeO.none _)
   | (with_reducible refine LeO.ite ?_ ?_)
   | (with_reducible refine LeO.bind ?_ (fun _ => ?_))
   | exact ih0 _ _ _ _ _ _
   | exact ih1 _ _ _ _ _ _ _ _ _ _ _
   | exact ih2 _ _ _ _ _ _ _ _ _ _
   | exact ih3 _ _ _ _ _ _ _ _ _ _ _
   | exact bits_Join.mono _ _ _ _ _
   | exact gaiterlaw00_Bits.mono _ _
   | exact gaiterlaw00_Is.mono _ _ _ _
   | exact gaiterlaw07_up.mono _
   | exact gaiterref01_Flat.mono _ _
   | exact xor_Code.mono _ _ _ _ _
   | exact xor_Get.mono _ _ _ _ _ _
   | exact LeO.none _
   | refine LeO.ite ?_ ?_
   | refine LeO.bind ?_ (fun _ => ?_)
def gaiterlaw07_XorBack.T9 : Bool × List (List Nat × List Nat) := (true, [([], []), ([], []), ([], []), ([1, 2], [1, 2]), ([3], [3]), ([0, 4], [0, 4]), ([5], [5]), ([6], [6]), ([6], [6]), ([], []), ([], []), ([9, 7, 5, 0, 1, 2, 3, 4, 5, 6, 7, 9, 10], [7, 9]), ([10, 8, 11, 0, 1, 2, 3, 4, 5, 6, 7, 8, 9, 10, 11], [8, 10])])
def gaiterlaw07_XorBack.B9 : List Nat := [0, 0, 0, 6, 14, 31, 63, 127, 127, 0, 0, 1791, 4095]
theorem gaiterlaw07_XorBack.tab9 : rtab .any (opsOf Tryd.f4 9) = gaiterlaw07_XorBack.T9 := by kernel_rfl
theorem gaiterlaw07_XorBack.bits9 : waitsOk gaiterlaw07_XorBack.T9.2 gaiterlaw07_XorBack.B9 = true := by kernel_rfl
def gaiterlaw07_XorBack.T18 : Bool × List (List Nat × List Nat) := (true, [([], []), ([], []), ([], []), ([1, 2], [1, 2]), ([3], [3]), ([0, 4], [0, 4]), ([5], [5]), ([6], [6]), ([6], [6]), ([], []), ([], []), ([9, 7, 5, 0, 1, 2, 3, 4, 5, 6, 7, 9, 10], [7, 9]), ([10, 8, 11, 0, 1, 2, 3, 4, 5, 6, 7, 8, 9, 10, 11], [8, 10])])
def gaiterlaw07_XorBack.B18 : List Nat := [0, 0, 0, 6, 14, 31, 63, 127, 127, 0, 0, 1791, 4095]
theorem gaiterlaw07_XorBack.tab18 : rtab .any (opsOf Tryd.f4 18) = gaiterlaw07_XorBack.T18 := by kernel_rfl
theorem gaiterlaw07_XorBack.bits18 : waitsOk gaiterlaw07_XorBack.T18.2 gaiterlaw07_XorBack.B18 = true := by kernel_rfl
def gaiterlaw07_XorBack.T30 : Bool × List (List Nat × List Nat) := (true, [([], []), ([0], [0]), ([1], [1]), ([1], [1]), ([2, 3, 1], [1, 2, 3]), ([1, 4], [1, 4]), ([5, 1], [5]), ([6], [6]), ([6], [6]), ([8, 6, 6], [6, 8]), ([6], [6]), ([9, 10, 6], [6, 9, 10]), ([7, 11, 9, 6], [6, 7, 11]), ([12, 6], [6, 12]), ([6, 13], [6, 13]), ([14, 12, 0, 1, 2, 3, 4, 5, 6, 7, 8, 9, 10, 11, 12, 13, 14], [14])])
def gaiterlaw07_XorBack.B30 : List Nat := [0, 1, 3, 3, 15, 31, 63, 127, 127, 383, 127, 1919, 4095, 8191, 16383, 32767]
theorem gaiterlaw07_XorBack.tab30 : rtab .any (opsOf Tryd.f4 30) = gaiterlaw07_XorBack.T30 := by kernel_rfl
theorem gaiterlaw07_XorBack.bits30 : waitsOk gaiterlaw07_XorBack.T30.2 gaiterlaw07_XorBack.B30 = true := by kernel_rfl
set_option maxHeartbeats 8000000 in
set_option maxRecDepth 100000 in
theorem gaiterlaw07_XorBack.calls (k : Nat) (A0 : Option Addr) (c0 : Nat) (l0 : List Int) (A1 : Option Addr) (c1 : Nat) (l1 : List Int) (A2 : Option Addr) (c2 : Nat) (l2 : List Int) (A3 : Option Addr) (c3 : Nat) (l3 : List Int) (r : Bool) (w : World) (hT : TabOk w) (hr0 : Kd.C (Kd.int .u8) w A0 l0.length l0) (hc0 : l0.length ≤ c0) (hr1 : Kd.C (Kd.int .u64) w A1 l1.length l1) (hc1 : l1.length ≤ c1) (hr2 : Kd.C (Kd.int .u8) w A2 l2.length l2) (hc2 : l2.length ≤ c2) (hr3 : Kd.C (Kd.int .u8) w A3 l3.length l3) (hc3 : l3.length ≤ c3) (h : gaiterlaw07_XorBack.f k l0 l1 l2 l3 = some r) :
  Calls Tryd.prog 4 #[.slice A0 l0.length c0, .slice A1 l1.length c1, .slice A2 l2.length c2, .slice A3 l3.length c3] w fun e w' => e = .returned (.bool r) ∧ Below w.heap.size w w' := by
 have hu31 := Tryd.underlying31
 have hu24 := Tryd.underlying24
 have hu37 := Tryd.underlying37
 have hu95 := Tryd.underlying95
 have HT := Aside0.mk hT
 clear hT
 have HR0 := Aside0.mk hr0
 have HC0 := Aside0.mk hc0
 clear hr0 hc0
 have HR1 := Aside0.mk hr1
 have HC1 := Aside0.mk hc1
 clear hr1 hc1
 have HR2 := Aside0.mk hr2
 have HC2 := Aside0.mk hc2
 clear hr2 hc2
 have HR3 := Aside0.mk hr3
 have HC3 := Aside0.mk hc3
 clear hr3 hc3
 have HB := Aside0.mk (Below.refl w.heap.size w)
 have H : ((gaiterlaw07_up.f k).bind fun t401 => (if (l0.length : Int) > 300 then (gaiterlaw07_XorBack.j0 k l0 l1 l2 l3 t401 true) else (if (l1.length : Int) > 50 then (gaiterlaw07_XorBack.j0 k l0 l1 l2 l3 t401 true) else (if (l2.length : Int) > 300 then (gaiterlaw07_XorBack.j0 k l0 l1 l2 l3 t401 true) else (gaiterlaw07_XorBack.j0 k l0 l1 l2 l3 t401 (decide ((l3.length : Int) > 300))))))) = some r := h
 clear h
 replace H := Option.bind_eq_some_iff.mp H
 obtain ⟨t401, A50, H⟩ := H
 replace H : (if (l0.length : Int) > 300 then (gaiterlaw07_XorBack.j0 k l0 l1 l2 l3 t401 true) else (if (l1.length : Int) > 50 then (gaiterlaw07_XorBack.j0 k l0 l1 l2 l3 t401 true) else (if (l2.length : Int) > 300 then (gaiterlaw07_XorBack.j0 k l0 l1 l2 l3 t401 true) else (gaiterlaw07_XorBack.j0 k l0 l1 l2 l3 t401 (decide ((l3.length : Int) > 300)))))) = some r := H
 have A5 := Aside0.mk A50
 clear A50
 have HC6 := Aside0.mk H
 clear H
 go_enter Tryd.func4, Tryd.ntmps4
 go_upto_region 2 with (first | ((with_reducible refine gate_callee (f := 11) rfl ?_); refine goesL_ (some 29) rfl rfl Tryd.func11 (by kernel_rfl) rfl #[] rfl km ?_; (with_reducible refine (gaiterlaw07_up.calls k  t401 _ ?side1 A5.out).mono ?_); (case side1 => exact TabOk.below HT.out (kl HB) (Nat.le_refl _)); rintro e w7 ⟨rfl, hb⟩; refine ⟨_, rfl, ?_⟩; replace HB := kH HB hb; (try clear hb); (try clear hb2); (try clear hk); (try clear hi)))
 (try simp only [Act.put, List.setIfInBounds_toArray, List.set_cons_zero, List.set_cons_succ])
 go_cut [47] (fun v47 wc => ∃ (kq : Nat) (x47_5 : Bool), v47 = .bool x47_5 ∧ Aside0 (gaiterlaw07_XorBack.j0 kq l0 l1 l2 l3 t401 x47_5 = some r) ∧ Aside0 (kq ≤ k) ∧ Aside0 (Below w.heap.size w wc))
 case first =>
  have H := HC6.out
  clear HC6
  by_cases c8 : (l0.length : Int) > 300
  ·rw [if_pos c8] at H
   have c8b0 : decide (300 < (l0.length : Int)) = true := decide_eq_true c8
   have c8b1 : decide (300 < l0.length) = true := decide_eq_true (by omega)
   clear c8
   (first | rw [c8b0] | (simp only [i64_w, i32_w]; rw [c8b0]) | skip)
   have H' := Aside0.mk H
   clear H
   go_wp2
   go_meet
   case rel => exact ⟨_, (true), (by first | rfl | (simp; done) | (simp [*]; done)), H', ⟨by first | omega | exact Nat.le_refl _⟩, ⟨by repeat (first | (with_reducible first | exact HB.out | apply below_alloc | apply pw_below_drewN | apply below_drew1) | exact HB.out)⟩⟩
  ·rw [if_neg c8] at H
   have c8b0 : decide (300 < (l0.length : Int)) = false := decide_eq_false c8
   have c8b1 : decide (300 < l0.length) = false := decide_eq_false (by omega)
   clear c8
   (first | rw [c8b0] | (simp only [i64_w, i32_w]; rw [c8b0]) | skip)
   by_cases c9 : (l1.length : Int) > 50
   ·rw [if_pos c9] at H
    have c9b0 : decide (50 < (l1.length : Int)) = true := decide_eq_true c9
    have c9b1 : decide (50 < l1.length) = true := decide_eq_true (by omega)
    clear c9
    have H' := Aside0.mk H
    clear H
    go_wp2
    go_meet
    case rel => exact ⟨_, (true), (by first | rfl | (simp; done) | (simp [*]; done)), H', ⟨by first | omega | exact Nat.le_refl _⟩, ⟨by repeat (first | (with_reducible first | exact HB.out | apply below_alloc | apply pw_below_drewN | apply below_drew1) | exact HB.out)⟩⟩
   ·rw [if_neg c9] at H
    have c9b0 : decide (50 < (l1.length : Int)) = false := decide_eq_false c9
    have c9b1 : decide (50 < l1.length) = false := decide_eq_false (by omega)
    clear c9
    by_cases c10 : (l2.length : Int) > 300
    ·rw [if_pos c10] at H
     have c10b0 : decide (300 < (l2.length : Int)) = true := decide_eq_true c10
     have c10b1 : decide (300 < l2.length) = true := decide_eq_true (by omega)
     clear c10
     have H' := Aside0.mk H
     clear H
     go_wp2
     go_meet
     case rel => exact ⟨_, (true), (by first | rfl | (simp; done) | (simp [*]; done)), H', ⟨by first | omega | exact Nat.le_refl _⟩, ⟨by repeat (first | (with_reducible first | exact HB.out | apply below_alloc | apply pw_below_drewN | apply below_drew1) | exact HB.out)⟩⟩
    ·rw [if_neg c10] at H
     have c10b0 : decide (300 < (l2.length : Int)) = false := decide_eq_false c10
     have c10b1 : decide (300 < l2.length) = false := decide_eq_false (by omega)
     clear c10
     have H' := Aside0.mk H
     clear H
     go_wp2
     go_meet
     case rel => exact ⟨_, (decide ((l3.length : Int) > 300)), (by first | rfl | (simp; done) | (simp [*]; done)), H', ⟨by first | omega | exact Nat.le_refl _⟩, ⟨by repeat (first | (with_reducible first | exact HB.out | apply below_alloc | apply pw_below_drewN | apply below_drew1) | exact HB.out)⟩⟩
 case rest =>
  clear HC6
  try clear c1
  try clear c2
  try clear p2
  try clear c3
  try clear c4
  try clear c8
  try clear c8b0
  try clear c8b1
  try clear c9
  try clear c9b0
  try clear c9b1
  try clear c10
  try clear c10b0
  try clear c10b1
  obtain ⟨kq, x47_5, rfl, HA, HJ5, HB⟩ := hcut
  cases kq with
  | zero => exact absurd HA.out (by simp [gaiterlaw07_XorBack.j0])
  | succ kj5 =>
   have H := HA.out
   clear HA
   simp only [gaiterlaw07_XorBack.j0] at H
   by_cases c11 : x47_5 = true
   ·subst c11
    have H1 : (some t401) = some r := by rw [if_pos rfl] at H; exact H
    clear H
    have H := H1
    clear H1
    obtain rfl := Option.some.inj H
    go_wp2
    go_ret
    exact ⟨by first | rfl | (simp [errW_none, errW_some] <;> rfl) | (simp [*, errW_none, errW_some] <;> rfl), by repeat (first | (with_reducible first | exact HB.out | apply below_alloc | apply pw_below_drewN | apply below_drew1) | exact HB.out)⟩
   ·replace c11 := Bool.eq_false_iff.mpr c11
    subst c11
    have H1 : ((gaiterlaw00_Bits.f kj5 l0).bind fun bt402 => (gaiterlaw07_XorBack.l0 kj5 l0 l1 l2 l3 t401 0 bt402.1 bt402.2 0 0 0)) = some r := by rw [if_neg (show ¬ (false = true) by decide)] at H; exact H
    clear H
    have H := H1
    clear H1
    replace H := Option.bind_eq_some_iff.mp H
    obtain ⟨⟨t402, t405⟩, A120, H⟩ := H
    replace H : (gaiterlaw07_XorBack.l0 kj5 l0 l1 l2 l3 t401 0 t402 t405 0 0 0) = some r := H
    have A12 := Aside0.mk A120
    clear A120
    have H' := Aside0.mk H
    clear H
    go_wp2_with (first | ((with_reducible refine gate_callee (f := 21) rfl ?_); refine goesL_ (some 50) rfl rfl Tryd.func21 (by kernel_rfl) rfl #[.slice A0 l0.length c0] rfl km ?_; (with_reducible refine (gaiterlaw00_Bits.calls kj5 _ _ l0 t402 t405 _ ?side1 ?side2 A12.out).mono ?_); (case side1 => repeat (first | exact (Kd.C_below HR0.out HB.out) | (with_reducible refine Kd.C_alloc ?_ _) | (with_reducible refine Kd.C_drewN ?_ _) | (with_reducible refine Kd.C_drew ?_))); (case side2 => exact HC0.out); rintro e w13 ⟨v403, rfl, ho0, hb⟩; refine ⟨_, rfl, ?_⟩; have HO404 := Aside0.mk (Kd.R_lower ho0 (below_size (kl HB))); replace HB := kH HB hb; (try clear hb); (try clear hb2); (try clear hk); (try clear hi); (try clear ho0)) | ((with_reducible refine gate_dst (N := 10) rfl ?_); (try (refine gate_guard (by rfl) ?_; dsimp only)); refine box_event ?hg (N := 10) ?hd (cs := #[.slice none 0 0, .int .i64 0]) (t := 31) ?hr ?_; (case hd => rfl); (case hg => rfl); (case hr => first | (go_simp; done) | (go_simp; rfl)); intro gb406 hg w14 hbox hb; replace HO404 := Aside0.mk (Kd.R_below (kr HO404) hb); have BK406 := Aside0.mk (hbox); have GW406 := kG hg HB; have GE406 := kG hg HB; replace HB := kH HB hb; clear hb hbox hg; obtain ⟨Ao15, co15, eo15⟩ := Kd.R_slice HO404.out; subst eo15; have hcz16_0 : w14.cell? ⟨gb406, 0, none⟩ = some (.slice none 0 0) := (blk_cell BK406.out 0).trans rfl; have hcz16_1 : w14.cell? ⟨gb406, 1, none⟩ = some (.int .i64 0) := (blk_cell BK406.out 1).trans rfl; have hfz16_0 := blk_frozen BK406.out 0; have hfz16_1 := blk_frozen BK406.out 1) | ((with_reducible refine gate_dst (N := 11) rfl ?_); (try (refine gate_guard (by rfl) ?_; dsimp only)); refine box_event ?hg (N := 11) ?hd (cs := #[.int .u64 0, .int .i64 0, .int .i64 0]) (t := 24) ?hr ?_; (case hd => rfl); (case hg => rfl); (case hr => first | (go_simp; done) | (go_simp; rfl)); intro gb407 hg w17 hbox hb; replace HO404 := Aside0.mk (Kd.R_below (by (with_reducible repeat (first | apply Kd.R_alloc | apply Kd.R_drewN | apply Kd.R_drew)); exact (Kd.R_mono (Kd.R_far (p := ⟨gb406, 1, none⟩) (Kd.R_far (p := ⟨gb406, 0, none⟩) (Kd.R_types HO404.out BK406.out (by decide)) (fun _ hk => hk.2) (.slice Ao15 t402.length co15)) (fun _ hk => hk.2) (.int .i64 t405)) (fun _ h_ => h_.1))) hb); have BK407 := Aside0.mk (hbox); have GW407 := kG hg HB; have GE407 := kG hg HB; replace HB := kH HB hb; have NB406_407 := Aside0.mk ((by rw [hg]; exact Nat.ne_of_lt (blk_lt (g := gb406) (o := .cells #[.slice Ao15 t402.length co15, .int .i64 t405] 31 (0, 0)) (kb BK406)) : gb406 ≠ gb407)); have NB407_406 := Aside0.mk ((by rw [hg]; exact Nat.ne_of_gt (blk_lt (g := gb406) (o := .cells #[.slice Ao15 t402.length co15, .int .i64 t405] 31 (0, 0)) (kb BK406)) : gb407 ≠ gb406)); replace BK406 := Aside0.mk (blk_below (g := gb406) (o := .cells #[.slice Ao15 t402.length co15, .int .i64 t405] 31 (0, 0)) (kb BK406) hb); clear hb hbox hg))
    go_loopg [12] kj5 (fun kq v12 w' => ∃ (x12_2 : Int) (x407000_2 : List Int) (x407001_2 : Int) (x408000_2 : Int) (x408001_2 : Int) (x408002_2 : Int) (u407000 : Value), v12 = .int .i64 x12_2 ∧ Aside0 (gaiterlaw07_XorBack.l0 kq l0 l1 l2 l3 t401 x12_2 x407000_2 x407001_2 x408000_2 x408001_2 x408002_2 = some r) ∧ Aside0 (kq ≤ kj5) ∧ Aside0 (Kd.R (Kd.int .u8) 5 w' w.heap.size (fun _ => True) u407000 x407000_2) ∧ Aside0 (w'.heap[gb406]? = some (.cells #[u407000, .int .i64 x407001_2] 31 (0, 0))) ∧ Aside0 (w'.heap[gb407]? = some (.cells #[.int .u64 x408000_2, .int .i64 x408001_2, .int .i64 x408002_2] 24 (0, 0))) ∧ Aside0 (Below w.heap.size w w'))
    case atStart => exact ⟨(0), (t402), (t405), (0), (0), (0), (.slice Ao15 t402.length co15), (by first | rfl | (simp; done) | (simp [*]; done)), H', ⟨Nat.le_refl _⟩, ⟨by (with_reducible repeat (first | apply Kd.R_alloc | apply Kd.R_drewN | apply Kd.R_drew)); exact HO404.out⟩, ⟨by (with_reducible repeat (first | refine blk_drewN ?_ _ | refine blk_drew ?_ | refine blk_alloc ?_ _)); exact BK406.out⟩, ⟨by (with_reducible repeat (first | refine blk_drewN ?_ _ | refine blk_drew ?_ | refine blk_alloc ?_ _)); exact BK407.out⟩, ⟨by repeat (first | (with_reducible first | exact HB.out | apply below_alloc | apply pw_below_drewN | apply below_drew1 | refine below_set ?_ GE406.out | refine below_set ?_ GE407.out) | exact HB.out)⟩⟩
    case round =>
     clear H'
     try clear c1
     try clear c2
     try clear p2
     try clear c3
     try clear c4
     try clear c8
     try clear c8b0
     try clear c8b1
     try clear c9
     try clear c9b0
     try clear c9b1
     try clear c10
     try clear c10b0
     try clear c10b1
     try clear c11
     try clear hcz16_0
     try clear hcz16_1
     try clear hfz16_0
     try clear hfz16_1
     try clear p2
     obtain ⟨x12_2, x407000_2, x407001_2, x408000_2, x408001_2, x408002_2, u407000, rfl, HA, HK2, HO_407000, BK406, BK407, HB⟩ := hrel
     cases gk with
     | zero => exact absurd HA.out (by simp [gaiterlaw07_XorBack.l0])
     | succ k2 =>
      have H := HA.out
      clear HA
      simp only [gaiterlaw07_XorBack.l0] at H
      by_cases c18 : x12_2 < (l1.length : Int)
      ·rw [if_pos c18] at H
       have c18b0 : decide (x12_2 < (l1.length : Int)) = true := decide_eq_true c18
       clear c18
       by_cases c19 : 0 ≤ x12_2
       ·rw [if_pos c19] at H
        have c19b0 : decide (0 ≤ x12_2) = true := decide_eq_true c19
        clear c19
        replace H := Option.bind_eq_some_iff.mp H
        obtain ⟨⟨t409, t412, t413, t414, t415⟩, A200, H⟩ := H
        replace H : ((bits_Join.f k2 x407000_2 x407001_2 t409 t412).bind fun bt418 => (gaiterlaw07_XorBack.l0 k2 l0 l1 l2 l3 t401 (wrap64 (x12_2 + 1)) bt418.1 bt418.2 t413 t414 t415)) = some r := H
        have A20 := Aside0.mk A200
        clear A200
        replace H := Option.bind_eq_some_iff.mp H
        obtain ⟨⟨t418, t421⟩, A210, H⟩ := H
        replace H : (gaiterlaw07_XorBack.l0 k2 l0 l1 l2 l3 t401 (wrap64 (x12_2 + 1)) t418 t421 t413 t414 t415) = some r := H
        have A21 := Aside0.mk A210
        clear A210
        have H' := Aside0.mk H
        clear H
        try go_wp2
        replace HO_407000 := Aside0.mk (Kd.R_drew HO_407000.out)
        replace BK406 := Aside0.mk (blk_drew BK406.out)
        replace BK407 := Aside0.mk (blk_drew BK407.out)
        replace HB := Aside0.mk (below_drew1 HB.out)
        have p408 : 0 ≤ (x12_2 : Int) := of_decide_eq_true (by first | (with_reducible assumption) | assumption)
        have q408 : x12_2 < (l1.length : Int) := of_decide_eq_true (by first | (with_reducible assumption) | assumption)
        obtain ⟨ad408, e408, hx408_0⟩ := Kd.at_int HR1.out x12_2 p408 q408
        have hw408_0 := hx408_0
        cases e408
        replace hx408_0 := (HB.out.cell (World.block_lt_of_cell? w _ hx408_0)).trans hx408_0
        replace p408 := eq_true p408
        (try (have q408s := q408; simp only [List.length_drop, List.length_take] at q408s; replace q408s := eq_true q408s)); replace q408 := eq_true q408
        refine start_ (n := 13) (S := fun w' => w'.cell? ⟨gb407, 0, none⟩ = some (.int .u64 x408000_2) ∧ w'.cell? ⟨gb407, 1, none⟩ = some (.int .i64 x408001_2) ∧ w'.cell? ⟨gb407, 2, none⟩ = some (.int .i64 x408002_2) ∧ w'.cell? (ad408.add (x12_2).toNat) = some (.int .u64 (rd l1 x12_2))) (ds := []) (bl 13 0) (by kernel_rfl) rfl rfl ⟨(blk_cell BK407.out 0).trans rfl, (blk_cell BK407.out 1).trans rfl, (blk_cell BK407.out 2).trans rfl, ((HB.out.cell (World.block_lt_of_cell? w _ hw408_0)).trans hw408_0)⟩ (fun hHeld => ?_); refine with_tabW gaiterlaw07_XorBack.tab9 gaiterlaw07_XorBack.bits9 (fun HT_ HW_ => ?_)
        generalize wr.drew = w22 at HO_407000 BK406 BK407 HB hx408_0 hHeld ⊢
        refine pu 1 (some 59) (bl 13 2) (h := ?_)
        refine pu 2 (some 60) (bl 13 6) (h := ?_)
        refine pu 3 (some 61) (bl 13 14) (h := ?_)
        refine ta 0 (some 58) (bl 13 15) (h := ?_)
        refine ta 4 (some 62) (bl 13 31) (h := ?_)
        refine join_ (σ := Value × Nat × Nat) 2 #[true, true, true, true, true, true, true, true, true, true, true, false, false] (fun s_ => [(63, .tuple #[.agg #[s_.1, .int .i64 t412], .agg #[.int .u64 t413, .int .i64 t414, .int .i64 t415]]), (13, .pointer (some ⟨s_.2.1, 0, none⟩)), (14, .pointer (some ⟨s_.2.2, 0, none⟩)), (57, .tuple #[.agg #[s_.1, .int .i64 t412], .agg #[.int .u64 t413, .int .i64 t414, .int .i64 t415]]), (64, .agg #[s_.1, .int .i64 t412]), (65, .agg #[.int .u64 t413, .int .i64 t414, .int .i64 t415])]) (fun s_ w' => (w'.cell? ⟨gb407, 0, none⟩ = some (.int .u64 x408000_2) ∧ w'.cell? ⟨gb407, 1, none⟩ = some (.int .i64 x408001_2) ∧ w'.cell? ⟨gb407, 2, none⟩ = some (.int .i64 x408002_2) ∧ w'.cell? (ad408.add (x12_2).toNat) = some (.int .u64 (rd l1 x12_2))) ∧ (Kd.R (Kd.int .u8) 5 w' w.heap.size (fun k_ => some k_ ≠ (u407000 : Value).ownBlock) s_.1 t409) ∧ (Kd.R (Kd.int .u8) 5 w' w.heap.size (fun k_ => some k_ ≠ (s_.1 : Value).ownBlock) u407000 x407000_2) ∧ (w'.heap[gb406]? = some (.cells #[u407000, .int .i64 x407001_2] 31 (0, 0))) ∧ (w'.heap[gb407]? = some (.cells #[.int .u64 x408000_2, .int .i64 x408001_2, .int .i64 x408002_2] 24 (0, 0))) ∧ (w'.heap[s_.2.1]? = some (.cells #[.slice none 0 0, .int .i64 0] 31 (0, 0))) ∧ (w'.heap[s_.2.2]? = some (.cells #[.int .u64 0, .int .i64 0, .int .i64 0] 24 (0, 0))) ∧ (w.heap.size ≤ s_.2.1) ∧ (w.heap.size ≤ s_.2.1) ∧ (gb406 ≠ s_.2.1) ∧ (s_.2.1 ≠ gb406) ∧ (gb407 ≠ s_.2.1) ∧ (s_.2.1 ≠ gb407) ∧ (s_.2.2 ≠ s_.2.1) ∧ (s_.2.1 ≠ s_.2.2) ∧ (w.heap.size ≤ s_.2.2) ∧ (w.heap.size ≤ s_.2.2) ∧ (gb406 ≠ s_.2.2) ∧ (s_.2.2 ≠ gb406) ∧ (gb407 ≠ s_.2.2) ∧ (s_.2.2 ≠ gb407) ∧ (Below w.heap.size w w')) ?_ ?_
        rotate_left
        ·intro hJ5_9_10
         refine join_ (σ := Value × Nat) 3 #[true, true, true, true, true, true, true, true, true, true, false, false, false] (fun s_ => [(63, .tuple #[.agg #[s_.1, .int .i64 t412], .agg #[.int .u64 t413, .int .i64 t414, .int .i64 t415]]), (13, .pointer (some ⟨s_.2, 0, none⟩)), (57, .tuple #[.agg #[s_.1, .int .i64 t412], .agg #[.int .u64 t413, .int .i64 t414, .int .i64 t415]]), (64, .agg #[s_.1, .int .i64 t412]), (65, .agg #[.int .u64 t413, .int .i64 t414, .int .i64 t415])]) (fun s_ w' => (w'.cell? ⟨gb407, 0, none⟩ = some (.int .u64 x408000_2) ∧ w'.cell? ⟨gb407, 1, none⟩ = some (.int .i64 x408001_2) ∧ w'.cell? ⟨gb407, 2, none⟩ = some (.int .i64 x408002_2) ∧ w'.cell? (ad408.add (x12_2).toNat) = some (.int .u64 (rd l1 x12_2))) ∧ (Kd.R (Kd.int .u8) 5 w' w.heap.size (fun k_ => some k_ ≠ (u407000 : Value).ownBlock) s_.1 t409) ∧ (Kd.R (Kd.int .u8) 5 w' w.heap.size (fun k_ => some k_ ≠ (s_.1 : Value).ownBlock) u407000 x407000_2) ∧ (w'.heap[gb406]? = some (.cells #[u407000, .int .i64 x407001_2] 31 (0, 0))) ∧ (w'.heap[gb407]? = some (.cells #[.int .u64 x408000_2, .int .i64 x408001_2, .int .i64 x408002_2] 24 (0, 0))) ∧ (w'.heap[s_.2]? = some (.cells #[.slice none 0 0, .int .i64 0] 31 (0, 0))) ∧ (w.heap.size ≤ s_.2) ∧ (w.heap.size ≤ s_.2) ∧ (gb406 ≠ s_.2) ∧ (s_.2 ≠ gb406) ∧ (gb407 ≠ s_.2) ∧ (s_.2 ≠ gb407) ∧ (Below w.heap.size w w')) ?_ ?_
         rotate_left
         ·intro hJ5_9
          refine join_ (σ := Value × Nat) 3 #[true, true, true, true, true, true, true, true, true, false, true, false, false] (fun s_ => [(63, .tuple #[.agg #[s_.1, .int .i64 t412], .agg #[.int .u64 t413, .int .i64 t414, .int .i64 t415]]), (14, .pointer (some ⟨s_.2, 0, none⟩)), (57, .tuple #[.agg #[s_.1, .int .i64 t412], .agg #[.int .u64 t413, .int .i64 t414, .int .i64 t415]]), (64, .agg #[s_.1, .int .i64 t412]), (65, .agg #[.int .u64 t413, .int .i64 t414, .int .i64 t415])]) (fun s_ w' => (w'.cell? ⟨gb407, 0, none⟩ = some (.int .u64 x408000_2) ∧ w'.cell? ⟨gb407, 1, none⟩ = some (.int .i64 x408001_2) ∧ w'.cell? ⟨gb407, 2, none⟩ = some (.int .i64 x408002_2) ∧ w'.cell? (ad408.add (x12_2).toNat) = some (.int .u64 (rd l1 x12_2))) ∧ (Kd.R (Kd.int .u8) 5 w' w.heap.size (fun k_ => some k_ ≠ (u407000 : Value).ownBlock) s_.1 t409) ∧ (Kd.R (Kd.int .u8) 5 w' w.heap.size (fun k_ => some k_ ≠ (s_.1 : Value).ownBlock) u407000 x407000_2) ∧ (w'.heap[gb406]? = some (.cells #[u407000, .int .i64 x407001_2] 31 (0, 0))) ∧ (w'.heap[gb407]? = some (.cells #[.int .u64 x408000_2, .int .i64 x408001_2, .int .i64 x408002_2] 24 (0, 0))) ∧ (w'.heap[s_.2]? = some (.cells #[.int .u64 0, .int .i64 0, .int .i64 0] 24 (0, 0))) ∧ (w.heap.size ≤ s_.2) ∧ (w.heap.size ≤ s_.2) ∧ (gb406 ≠ s_.2) ∧ (s_.2 ≠ gb406) ∧ (gb407 ≠ s_.2) ∧ (s_.2 ≠ gb407) ∧ (Below w.heap.size w w')) ?_ ?_
          rotate_left
          ·intro hJ5_10
           refine join_ (σ := Nat × Nat) 6 #[true, true, true, true, true, false, false, false, false, true, true, false, false] (fun s_ => [(13, .pointer (some ⟨s_.1, 0, none⟩)), (14, .pointer (some ⟨s_.2, 0, none⟩))]) (fun s_ w' => (w'.cell? ⟨gb407, 0, none⟩ = some (.int .u64 x408000_2) ∧ w'.cell? ⟨gb407, 1, none⟩ = some (.int .i64 x408001_2) ∧ w'.cell? ⟨gb407, 2, none⟩ = some (.int .i64 x408002_2) ∧ w'.cell? (ad408.add (x12_2).toNat) = some (.int .u64 (rd l1 x12_2))) ∧ (Kd.R (Kd.int .u8) 5 w' w.heap.size (fun _ => True) u407000 x407000_2) ∧ (w'.heap[gb406]? = some (.cells #[u407000, .int .i64 x407001_2] 31 (0, 0))) ∧ (w'.heap[gb407]? = some (.cells #[.int .u64 x408000_2, .int .i64 x408001_2, .int .i64 x408002_2] 24 (0, 0))) ∧ (w'.heap[s_.1]? = some (.cells #[.slice none 0 0, .int .i64 0] 31 (0, 0))) ∧ (w'.heap[s_.2]? = some (.cells #[.int .u64 0, .int .i64 0, .int .i64 0] 24 (0, 0))) ∧ (w.heap.size ≤ s_.1) ∧ (w.heap.size ≤ s_.1) ∧ (gb406 ≠ s_.1) ∧ (s_.1 ≠ gb406) ∧ (gb407 ≠ s_.1) ∧ (s_.1 ≠ gb407) ∧ (s_.2 ≠ s_.1) ∧ (s_.1 ≠ s_.2) ∧ (w.heap.size ≤ s_.2) ∧ (w.heap.size ≤ s_.2) ∧ (gb406 ≠ s_.2) ∧ (s_.2 ≠ gb406) ∧ (gb407 ≠ s_.2) ∧ (s_.2 ≠ gb407) ∧ (Below w.heap.size w w')) ?_ ?_
           rotate_left
           ·intro hJ9_10
            refine join_ (σ := Value) 4 #[true, true, true, true, true, true, true, true, true, false, false, false, false] (fun s_ => [(63, .tuple #[.agg #[s_, .int .i64 t412], .agg #[.int .u64 t413, .int .i64 t414, .int .i64 t415]]), (57, .tuple #[.agg #[s_, .int .i64 t412], .agg #[.int .u64 t413, .int .i64 t414, .int .i64 t415]]), (64, .agg #[s_, .int .i64 t412]), (65, .agg #[.int .u64 t413, .int .i64 t414, .int .i64 t415])]) (fun s_ w' => (w'.cell? ⟨gb407, 0, none⟩ = some (.int .u64 x408000_2) ∧ w'.cell? ⟨gb407, 1, none⟩ = some (.int .i64 x408001_2) ∧ w'.cell? ⟨gb407, 2, none⟩ = some (.int .i64 x408002_2) ∧ w'.cell? (ad408.add (x12_2).toNat) = some (.int .u64 (rd l1 x12_2))) ∧ (Kd.R (Kd.int .u8) 5 w' w.heap.size (fun k_ => some k_ ≠ (u407000 : Value).ownBlock) s_ t409) ∧ (Kd.R (Kd.int .u8) 5 w' w.heap.size (fun k_ => some k_ ≠ (s_ : Value).ownBlock) u407000 x407000_2) ∧ (w'.heap[gb406]? = some (.cells #[u407000, .int .i64 x407001_2] 31 (0, 0))) ∧ (w'.heap[gb407]? = some (.cells #[.int .u64 x408000_2, .int .i64 x408001_2, .int .i64 x408002_2] 24 (0, 0))) ∧ (Below w.heap.size w w')) ?_ ?_
            rotate_left
            ·intro hJ5
             refine join_ (σ := Nat) 7 #[true, true, true, true, true, false, false, false, false, true, false, false, false] (fun s_ => [(13, .pointer (some ⟨s_, 0, none⟩))]) (fun s_ w' => (w'.cell? ⟨gb407, 0, none⟩ = some (.int .u64 x408000_2) ∧ w'.cell? ⟨gb407, 1, none⟩ = some (.int .i64 x408001_2) ∧ w'.cell? ⟨gb407, 2, none⟩ = some (.int .i64 x408002_2) ∧ w'.cell? (ad408.add (x12_2).toNat) = some (.int .u64 (rd l1 x12_2))) ∧ (Kd.R (Kd.int .u8) 5 w' w.heap.size (fun _ => True) u407000 x407000_2) ∧ (w'.heap[gb406]? = some (.cells #[u407000, .int .i64 x407001_2] 31 (0, 0))) ∧ (w'.heap[gb407]? = some (.cells #[.int .u64 x408000_2, .int .i64 x408001_2, .int .i64 x408002_2] 24 (0, 0))) ∧ (w'.heap[s_]? = some (.cells #[.slice none 0 0, .int .i64 0] 31 (0, 0))) ∧ (w.heap.size ≤ s_) ∧ (w.heap.size ≤ s_) ∧ (gb406 ≠ s_) ∧ (s_ ≠ gb406) ∧ (gb407 ≠ s_) ∧ (s_ ≠ gb407) ∧ (Below w.heap.size w w')) ?_ ?_
             rotate_left
             ·intro hJ9
              refine join_ (σ := Nat) 7 #[true, true, true, true, true, false, false, false, false, false, true, false, false] (fun s_ => [(14, .pointer (some ⟨s_, 0, none⟩))]) (fun s_ w' => (w'.cell? ⟨gb407, 0, none⟩ = some (.int .u64 x408000_2) ∧ w'.cell? ⟨gb407, 1, none⟩ = some (.int .i64 x408001_2) ∧ w'.cell? ⟨gb407, 2, none⟩ = some (.int .i64 x408002_2) ∧ w'.cell? (ad408.add (x12_2).toNat) = some (.int .u64 (rd l1 x12_2))) ∧ (Kd.R (Kd.int .u8) 5 w' w.heap.size (fun _ => True) u407000 x407000_2) ∧ (w'.heap[gb406]? = some (.cells #[u407000, .int .i64 x407001_2] 31 (0, 0))) ∧ (w'.heap[gb407]? = some (.cells #[.int .u64 x408000_2, .int .i64 x408001_2, .int .i64 x408002_2] 24 (0, 0))) ∧ (w'.heap[s_]? = some (.cells #[.int .u64 0, .int .i64 0, .int .i64 0] 24 (0, 0))) ∧ (w.heap.size ≤ s_) ∧ (w.heap.size ≤ s_) ∧ (gb406 ≠ s_) ∧ (s_ ≠ gb406) ∧ (gb407 ≠ s_) ∧ (s_ ≠ gb407) ∧ (Below w.heap.size w w')) ?_ ?_
              rotate_left
              ·intro hJ10
               refine three_ (i := 5) (j := 9) (k := 10) (Ni := some 63) (Nj := some 13) (Nk := some 14) #[true, true, true, true, true, true, false, false, false, false, false, false, false] #[true, true, true, true, true, false, false, false, false, true, false, false, false] #[true, true, true, true, true, false, false, false, false, false, true, false, false] rfl rfl rfl rfl rfl rfl (three_of HT_.out (by kernel_rfl)) (by decide) (by decide) (by decide) (fun K hK => ?_) (fun K hK => ?_) (fun K hK => ?_)
               ·skip
                refine goes_ Tryd.func14 (by kernel_rfl) rfl #[.agg #[.int .u64 x408000_2, .int .i64 x408001_2, .int .i64 x408002_2], .int .u64 (rd l1 x12_2)] (by rfl) rfl rfl km ?_
                with_reducible refine (xor_Code.calls k2 x408000_2 x408001_2 x408002_2 (rd l1 x12_2) t409 t412 t413 t414 t415 _ ?side1 A20.out).mono ?_
                (case side1 => exact TabOk.below HT.out (kl HB) (Nat.le_refl _))
                rintro e w23 ⟨v410, rfl, ho0, hb⟩
                refine ⟨_, rfl, ?_⟩
                have HO411 := Aside0.mk (Kd.R_lower (Kd.R_new' ho0 (Kd.R_lt (kr HO_407000))) (below_size (kl HB)))
                replace HO_407000 := Aside0.mk (Kd.R_elder' (kr HO_407000) (Kd.R_base ho0) hb)
                replace BK406 := kB BK406 hb
                replace BK407 := kB BK407 hb
                replace HB := kH HB hb
                (try clear hb)
                (try clear hb2)
                (try clear hk)
                (try clear hi)
                (try clear ho0)
                refine hK.out _ _ ⟨(blk_cell BK407.out 0).trans rfl, (blk_cell BK407.out 1).trans rfl, (blk_cell BK407.out 2).trans rfl, ((HB.out.cell (World.block_lt_of_cell? w _ hw408_0)).trans hw408_0)⟩ (fun hHeld => ?_)
                clear hK K
                refine norm_ (a' := ?_) ?_ ?_
                rotate_left
                ·show Act.put _ (some 63) _ = _
                 simp only [Act.put, List.setIfInBounds_toArray, List.set_cons_zero, List.set_cons_succ, i64_w, i32_w]
                 rfl
                refine pu 6 (some 57) (bl 13 127) (h := ?_)
                refine pu 7 (some 64) (bl 13 255) (h := ?_)
                refine pu 8 (some 65) (bl 13 511) (h := ?_)
                exact norm_ (by first | (simp only [putAll, Act.put, List.setIfInBounds_toArray, List.set_cons_zero, List.set_cons_succ]; done) | (simp only [putAll, Act.put, List.setIfInBounds_toArray, List.set_cons_zero, List.set_cons_succ]; rfl)) (hJ5 (v410) _ ⟨hHeld, (by (with_reducible repeat (first | apply Kd.R_alloc | apply Kd.R_drewN | apply Kd.R_drew)); exact Kd.R_mono HO411.out (fun _ hk => hk.2)), (by (with_reducible repeat (first | apply Kd.R_alloc | apply Kd.R_drewN | apply Kd.R_drew)); exact Kd.R_mono HO_407000.out (fun _ hk => hk.2)), (kb BK406), (kb BK407), (kl HB)⟩)
               ·skip
                refine box_step ?hg (N := 13) ?hd (cs := #[.slice none 0 0, .int .i64 0]) (t := 31) ?hr ?_; (case hd => rfl); (case hg => rfl); (case hr => first | (go_simp; done) | (go_simp; rfl))
                intro gb416 hg w23 hbox hb
                replace HO_407000 := Aside0.mk (Kd.R_below (kr HO_407000) hb)
                have BK416 := Aside0.mk (hbox)
                have GW416 := kG hg HB
                have GE416 := kG hg HB
                replace HB := kH HB hb
                obtain ⟨NB406_416, NB416_406⟩ := kN hg BK406
                replace BK406 := kB BK406 hb
                obtain ⟨NB407_416, NB416_407⟩ := kN hg BK407
                replace BK407 := kB BK407 hb
                clear hb hbox hg
                refine hK.out _ _ ⟨(blk_cell BK407.out 0).trans rfl, (blk_cell BK407.out 1).trans rfl, (blk_cell BK407.out 2).trans rfl, ((HB.out.cell (World.block_lt_of_cell? w _ hw408_0)).trans hw408_0)⟩ (fun hHeld => ?_)
                clear hK K
                refine norm_ (a' := ?_) ?_ ?_
                rotate_left
                ·show Act.put _ (some 13) _ = _
                 simp only [Act.put, List.setIfInBounds_toArray, List.set_cons_zero, List.set_cons_succ, i64_w, i32_w]
                 rfl
                exact norm_ (by first | (simp only [putAll, Act.put, List.setIfInBounds_toArray, List.set_cons_zero, List.set_cons_succ]; done) | (simp only [putAll, Act.put, List.setIfInBounds_toArray, List.set_cons_zero, List.set_cons_succ]; rfl)) (hJ9 (gb416) _ ⟨hHeld, (kr HO_407000), (kb BK406), (kb BK407), (kb BK416), GW416.out, GE416.out, NB406_416.out, NB416_406.out, NB407_416.out, NB416_407.out, (kl HB)⟩)
               ·skip
                refine box_step ?hg (N := 14) ?hd (cs := #[.int .u64 0, .int .i64 0, .int .i64 0]) (t := 24) ?hr ?_; (case hd => rfl); (case hg => rfl); (case hr => first | (go_simp; done) | (go_simp; rfl))
                intro gb417 hg w23 hbox hb
                replace HO_407000 := Aside0.mk (Kd.R_below (kr HO_407000) hb)
                have BK417 := Aside0.mk (hbox)
                have GW417 := kG hg HB
                have GE417 := kG hg HB
                replace HB := kH HB hb
                obtain ⟨NB406_417, NB417_406⟩ := kN hg BK406
                replace BK406 := kB BK406 hb
                obtain ⟨NB407_417, NB417_407⟩ := kN hg BK407
                replace BK407 := kB BK407 hb
                clear hb hbox hg
                refine hK.out _ _ ⟨(blk_cell BK407.out 0).trans rfl, (blk_cell BK407.out 1).trans rfl, (blk_cell BK407.out 2).trans rfl, ((HB.out.cell (World.block_lt_of_cell? w _ hw408_0)).trans hw408_0)⟩ (fun hHeld => ?_)
                clear hK K
                refine norm_ (a' := ?_) ?_ ?_
                rotate_left
                ·show Act.put _ (some 14) _ = _
                 simp only [Act.put, List.setIfInBounds_toArray, List.set_cons_zero, List.set_cons_succ, i64_w, i32_w]
                 rfl
                exact norm_ (by first | (simp only [putAll, Act.put, List.setIfInBounds_toArray, List.set_cons_zero, List.set_cons_succ]; done) | (simp only [putAll, Act.put, List.setIfInBounds_toArray, List.set_cons_zero, List.set_cons_succ]; rfl)) (hJ10 (gb417) _ ⟨hHeld, (kr HO_407000), (kb BK406), (kb BK407), (kb BK417), GW417.out, GE417.out, NB406_417.out, NB417_406.out, NB407_417.out, NB417_407.out, (kl HB)⟩)
              ·skip
               rintro gb417 w24 ⟨hS_, h0_, h1_, h2_, h3_, h4_, h5_, h6_, h7_, h8_, h9_, h10_⟩
               have n0_ : Aside0 (Kd.R (Kd.int .u8) 5 w24 w.heap.size (fun _ => True) u407000 x407000_2) := ⟨h0_⟩
               have n1_ : Aside0 (w24.heap[gb406]? = some (.cells #[u407000, .int .i64 x407001_2] 31 (0, 0))) := ⟨h1_⟩
               have n2_ : Aside0 (w24.heap[gb407]? = some (.cells #[.int .u64 x408000_2, .int .i64 x408001_2, .int .i64 x408002_2] 24 (0, 0))) := ⟨h2_⟩
               have n3_ : Aside0 (w24.heap[gb417]? = some (.cells #[.int .u64 0, .int .i64 0, .int .i64 0] 24 (0, 0))) := ⟨h3_⟩
               have n4_ : Aside0 (w.heap.size ≤ gb417) := ⟨h4_⟩
               have n5_ : Aside0 (w.heap.size ≤ gb417) := ⟨h5_⟩
               have n6_ : Aside0 (gb406 ≠ gb417) := ⟨h6_⟩
               have n7_ : Aside0 (gb417 ≠ gb406) := ⟨h7_⟩
               have n8_ : Aside0 (gb407 ≠ gb417) := ⟨h8_⟩
               have n9_ : Aside0 (gb417 ≠ gb407) := ⟨h9_⟩
               have n10_ : Aside0 (Below w.heap.size w w24) := ⟨h10_⟩
               clear HO_407000
               clear BK406
               clear BK407
               clear HB
               clear h0_ h1_ h2_ h3_ h4_ h5_ h6_ h7_ h8_ h9_ h10_
               have HO_407000 := n0_
               have BK406 := n1_
               have BK407 := n2_
               have BK417 := n3_
               have GW417 := n4_
               have GE417 := n5_
               have NB406_417 := n6_
               have NB417_406 := n7_
               have NB407_417 := n8_
               have NB417_407 := n9_
               have HB := n10_
               clear n0_ n1_ n2_ n3_ n4_ n5_ n6_ n7_ n8_ n9_ n10_
               have hHeld : w24.cell? ⟨gb407, 0, none⟩ = some (.int .u64 x408000_2) ∧ w24.cell? ⟨gb407, 1, none⟩ = some (.int .i64 x408001_2) ∧ w24.cell? ⟨gb407, 2, none⟩ = some (.int .i64 x408002_2) ∧ w24.cell? (ad408.add (x12_2).toNat) = some (.int .u64 (rd l1 x12_2)) := hS_
               refine norm_ (a' := ?_) ?_ ?_
               rotate_left
               ·simp only [putAll, Act.put, List.setIfInBounds_toArray, List.set_cons_zero, List.set_cons_succ]
                rfl
               refine two_ (i := 5) (j := 9) (Ni := some 63) (Nj := some 13) #[true, true, true, true, true, true, false, false, false, false, true, false, false] #[true, true, true, true, true, false, false, false, false, true, true, false, false] rfl rfl rfl rfl (two_of HT_.out (by kernel_rfl)) (by decide) (by decide) (fun K hK => ?_) (fun K hK => ?_)
               ·skip
                refine goes_ Tryd.func14 (by kernel_rfl) rfl #[.agg #[.int .u64 x408000_2, .int .i64 x408001_2, .int .i64 x408002_2], .int .u64 (rd l1 x12_2)] (by rfl) rfl rfl km ?_
                with_reducible refine (xor_Code.calls k2 x408000_2 x408001_2 x408002_2 (rd l1 x12_2) t409 t412 t413 t414 t415 _ ?side1 A20.out).mono ?_
                (case side1 => exact TabOk.below HT.out (kl HB) (Nat.le_refl _))
                rintro e w25 ⟨v410, rfl, ho0, hb⟩
                refine ⟨_, rfl, ?_⟩
                have HO411 := Aside0.mk (Kd.R_lower (Kd.R_new' ho0 (Kd.R_lt (kr HO_407000))) (below_size (kl HB)))
                replace HO_407000 := Aside0.mk (Kd.R_elder' (kr HO_407000) (Kd.R_base ho0) hb)
                replace BK406 := kB BK406 hb
                replace BK407 := kB BK407 hb
                replace BK417 := kB BK417 hb
                replace HB := kH HB hb
                (try clear hb)
                (try clear hb2)
                (try clear hk)
                (try clear hi)
                (try clear ho0)
                refine hK.out _ _ ⟨(blk_cell BK407.out 0).trans rfl, (blk_cell BK407.out 1).trans rfl, (blk_cell BK407.out 2).trans rfl, ((HB.out.cell (World.block_lt_of_cell? w _ hw408_0)).trans hw408_0)⟩ (fun hHeld => ?_)
                clear hK K
                refine norm_ (a' := ?_) ?_ ?_
                rotate_left
                ·show Act.put _ (some 63) _ = _
                 simp only [Act.put, List.setIfInBounds_toArray, List.set_cons_zero, List.set_cons_succ, i64_w, i32_w]
                 rfl
                refine pu 6 (some 57) (bl 13 1151) (h := ?_)
                refine pu 7 (some 64) (bl 13 1279) (h := ?_)
                refine pu 8 (some 65) (bl 13 1535) (h := ?_)
                exact norm_ (by first | (simp only [putAll, Act.put, List.setIfInBounds_toArray, List.set_cons_zero, List.set_cons_succ]; done) | (simp only [putAll, Act.put, List.setIfInBounds_toArray, List.set_cons_zero, List.set_cons_succ]; rfl)) (hJ5_10 (v410, gb417) _ ⟨hHeld, (by (with_reducible repeat (first | apply Kd.R_alloc | apply Kd.R_drewN | apply Kd.R_drew)); exact Kd.R_mono HO411.out (fun _ hk => hk.2)), (by (with_reducible repeat (first | apply Kd.R_alloc | apply Kd.R_drewN | apply Kd.R_drew)); exact Kd.R_mono HO_407000.out (fun _ hk => hk.2)), (kb BK406), (kb BK407), (kb BK417), GW417.out, GE417.out, NB406_417.out, NB417_406.out, NB407_417.out, NB417_407.out, (kl HB)⟩)
               ·skip
                refine box_step ?hg (N := 13) ?hd (cs := #[.slice none 0 0, .int .i64 0]) (t := 31) ?hr ?_; (case hd => rfl); (case hg => rfl); (case hr => first | (go_simp; done) | (go_simp; rfl))
                intro gb416 hg w25 hbox hb
                replace HO_407000 := Aside0.mk (Kd.R_below (kr HO_407000) hb)
                have BK416 := Aside0.mk (hbox)
                have GW416 := kG hg HB
                have GE416 := kG hg HB
                replace HB := kH HB hb
                obtain ⟨NB406_416, NB416_406⟩ := kN hg BK406
                replace BK406 := kB BK406 hb
                obtain ⟨NB407_416, NB416_407⟩ := kN hg BK407
                replace BK407 := kB BK407 hb
                obtain ⟨NB417_416, NB416_417⟩ := kN hg BK417
                replace BK417 := kB BK417 hb
                clear hb hbox hg
                refine hK.out _ _ ⟨(blk_cell BK407.out 0).trans rfl, (blk_cell BK407.out 1).trans rfl, (blk_cell BK407.out 2).trans rfl, ((HB.out.cell (World.block_lt_of_cell? w _ hw408_0)).trans hw408_0)⟩ (fun hHeld => ?_)
                clear hK K
                refine norm_ (a' := ?_) ?_ ?_
                rotate_left
                ·show Act.put _ (some 13) _ = _
                 simp only [Act.put, List.setIfInBounds_toArray, List.set_cons_zero, List.set_cons_succ, i64_w, i32_w]
                 rfl
                exact norm_ (by first | (simp only [putAll, Act.put, List.setIfInBounds_toArray, List.set_cons_zero, List.set_cons_succ]; done) | (simp only [putAll, Act.put, List.setIfInBounds_toArray, List.set_cons_zero, List.set_cons_succ]; rfl)) (hJ9_10 (gb416, gb417) _ ⟨hHeld, (kr HO_407000), (kb BK406), (kb BK407), (kb BK416), (kb BK417), GW416.out, GE416.out, NB406_416.out, NB416_406.out, NB407_416.out, NB416_407.out, NB417_416.out, NB416_417.out, GW417.out, GE417.out, NB406_417.out, NB417_406.out, NB407_417.out, NB417_407.out, (kl HB)⟩)
             ·skip
              rintro gb416 w24 ⟨hS_, h0_, h1_, h2_, h3_, h4_, h5_, h6_, h7_, h8_, h9_, h10_⟩
              have n0_ : Aside0 (Kd.R (Kd.int .u8) 5 w24 w.heap.size (fun _ => True) u407000 x407000_2) := ⟨h0_⟩
              have n1_ : Aside0 (w24.heap[gb406]? = some (.cells #[u407000, .int .i64 x407001_2] 31 (0, 0))) := ⟨h1_⟩
              have n2_ : Aside0 (w24.heap[gb407]? = some (.cells #[.int .u64 x408000_2, .int .i64 x408001_2, .int .i64 x408002_2] 24 (0, 0))) := ⟨h2_⟩
              have n3_ : Aside0 (w24.heap[gb416]? = some (.cells #[.slice none 0 0, .int .i64 0] 31 (0, 0))) := ⟨h3_⟩
              have n4_ : Aside0 (w.heap.size ≤ gb416) := ⟨h4_⟩
              have n5_ : Aside0 (w.heap.size ≤ gb416) := ⟨h5_⟩
              have n6_ : Aside0 (gb406 ≠ gb416) := ⟨h6_⟩
              have n7_ : Aside0 (gb416 ≠ gb406) := ⟨h7_⟩
              have n8_ : Aside0 (gb407 ≠ gb416) := ⟨h8_⟩
              have n9_ : Aside0 (gb416 ≠ gb407) := ⟨h9_⟩
              have n10_ : Aside0 (Below w.heap.size w w24) := ⟨h10_⟩
              clear HO_407000
              clear BK406
              clear BK407
              clear HB
              clear h0_ h1_ h2_ h3_ h4_ h5_ h6_ h7_ h8_ h9_ h10_
              have HO_407000 := n0_
              have BK406 := n1_
              have BK407 := n2_
              have BK416 := n3_
              have GW416 := n4_
              have GE416 := n5_
              have NB406_416 := n6_
              have NB416_406 := n7_
              have NB407_416 := n8_
              have NB416_407 := n9_
              have HB := n10_
              clear n0_ n1_ n2_ n3_ n4_ n5_ n6_ n7_ n8_ n9_ n10_
              have hHeld : w24.cell? ⟨gb407, 0, none⟩ = some (.int .u64 x408000_2) ∧ w24.cell? ⟨gb407, 1, none⟩ = some (.int .i64 x408001_2) ∧ w24.cell? ⟨gb407, 2, none⟩ = some (.int .i64 x408002_2) ∧ w24.cell? (ad408.add (x12_2).toNat) = some (.int .u64 (rd l1 x12_2)) := hS_
              refine norm_ (a' := ?_) ?_ ?_
              rotate_left
              ·simp only [putAll, Act.put, List.setIfInBounds_toArray, List.set_cons_zero, List.set_cons_succ]
               rfl
              refine two_ (i := 5) (j := 10) (Ni := some 63) (Nj := some 14) #[true, true, true, true, true, true, false, false, false, true, false, false, false] #[true, true, true, true, true, false, false, false, false, true, true, false, false] rfl rfl rfl rfl (two_of HT_.out (by kernel_rfl)) (by decide) (by decide) (fun K hK => ?_) (fun K hK => ?_)
              ·skip
               refine goes_ Tryd.func14 (by kernel_rfl) rfl #[.agg #[.int .u64 x408000_2, .int .i64 x408001_2, .int .i64 x408002_2], .int .u64 (rd l1 x12_2)] (by rfl) rfl rfl km ?_
               with_reducible refine (xor_Code.calls k2 x408000_2 x408001_2 x408002_2 (rd l1 x12_2) t409 t412 t413 t414 t415 _ ?side1 A20.out).mono ?_
               (case side1 => exact TabOk.below HT.out (kl HB) (Nat.le_refl _))
               rintro e w25 ⟨v410, rfl, ho0, hb⟩
               refine ⟨_, rfl, ?_⟩
               have HO411 := Aside0.mk (Kd.R_lower (Kd.R_new' ho0 (Kd.R_lt (kr HO_407000))) (below_size (kl HB)))
               replace HO_407000 := Aside0.mk (Kd.R_elder' (kr HO_407000) (Kd.R_base ho0) hb)
               replace BK406 := kB BK406 hb
               replace BK407 := kB BK407 hb
               replace BK416 := kB BK416 hb
               replace HB := kH HB hb
               (try clear hb)
               (try clear hb2)
               (try clear hk)
               (try clear hi)
               (try clear ho0)
               refine hK.out _ _ ⟨(blk_cell BK407.out 0).trans rfl, (blk_cell BK407.out 1).trans rfl, (blk_cell BK407.out 2).trans rfl, ((HB.out.cell (World.block_lt_of_cell? w _ hw408_0)).trans hw408_0)⟩ (fun hHeld => ?_)
               clear hK K
               refine norm_ (a' := ?_) ?_ ?_
               rotate_left
               ·show Act.put _ (some 63) _ = _
                simp only [Act.put, List.setIfInBounds_toArray, List.set_cons_zero, List.set_cons_succ, i64_w, i32_w]
                rfl
               refine pu 6 (some 57) (bl 13 639) (h := ?_)
               refine pu 7 (some 64) (bl 13 767) (h := ?_)
               refine pu 8 (some 65) (bl 13 1023) (h := ?_)
               exact norm_ (by first | (simp only [putAll, Act.put, List.setIfInBounds_toArray, List.set_cons_zero, List.set_cons_succ]; done) | (simp only [putAll, Act.put, List.setIfInBounds_toArray, List.set_cons_zero, List.set_cons_succ]; rfl)) (hJ5_9 (v410, gb416) _ ⟨hHeld, (by (with_reducible repeat (first | apply Kd.R_alloc | apply Kd.R_drewN | apply Kd.R_drew)); exact Kd.R_mono HO411.out (fun _ hk => hk.2)), (by (with_reducible repeat (first | apply Kd.R_alloc | apply Kd.R_drewN | apply Kd.R_drew)); exact Kd.R_mono HO_407000.out (fun _ hk => hk.2)), (kb BK406), (kb BK407), (kb BK416), GW416.out, GE416.out, NB406_416.out, NB416_406.out, NB407_416.out, NB416_407.out, (kl HB)⟩)
              ·skip
               refine box_step ?hg (N := 14) ?hd (cs := #[.int .u64 0, .int .i64 0, .int .i64 0]) (t := 24) ?hr ?_; (case hd => rfl); (case hg => rfl); (case hr => first | (go_simp; done) | (go_simp; rfl))
               intro gb417 hg w25 hbox hb
               replace HO_407000 := Aside0.mk (Kd.R_below (kr HO_407000) hb)
               have BK417 := Aside0.mk (hbox)
               have GW417 := kG hg HB
               have GE417 := kG hg HB
               replace HB := kH HB hb
               obtain ⟨NB406_417, NB417_406⟩ := kN hg BK406
               replace BK406 := kB BK406 hb
               obtain ⟨NB407_417, NB417_407⟩ := kN hg BK407
               replace BK407 := kB BK407 hb
               obtain ⟨NB416_417, NB417_416⟩ := kN hg BK416
               replace BK416 := kB BK416 hb
               clear hb hbox hg
               refine hK.out _ _ ⟨(blk_cell BK407.out 0).trans rfl, (blk_cell BK407.out 1).trans rfl, (blk_cell BK407.out 2).trans rfl, ((HB.out.cell (World.block_lt_of_cell? w _ hw408_0)).trans hw408_0)⟩ (fun hHeld => ?_)
               clear hK K
               refine norm_ (a' := ?_) ?_ ?_
               rotate_left
               ·show Act.put _ (some 14) _ = _
                simp only [Act.put, List.setIfInBounds_toArray, List.set_cons_zero, List.set_cons_succ, i64_w, i32_w]
                rfl
               exact norm_ (by first | (simp only [putAll, Act.put, List.setIfInBounds_toArray, List.set_cons_zero, List.set_cons_succ]; done) | (simp only [putAll, Act.put, List.setIfInBounds_toArray, List.set_cons_zero, List.set_cons_succ]; rfl)) (hJ9_10 (gb416, gb417) _ ⟨hHeld, (kr HO_407000), (kb BK406), (kb BK407), (kb BK416), (kb BK417), GW416.out, GE416.out, NB406_416.out, NB416_406.out, NB407_416.out, NB416_407.out, NB417_416.out, NB416_417.out, GW417.out, GE417.out, NB406_417.out, NB417_406.out, NB407_417.out, NB417_407.out, (kl HB)⟩)
            ·skip
             rintro v410 w24 ⟨hS_, h0_, h1_, h2_, h3_, h4_⟩
             have n0_ : Aside0 (Kd.R (Kd.int .u8) 5 w24 w.heap.size (fun k_ => some k_ ≠ (u407000 : Value).ownBlock) v410 t409) := ⟨h0_⟩
             have n1_ : Aside0 (Kd.R (Kd.int .u8) 5 w24 w.heap.size (fun k_ => some k_ ≠ (v410 : Value).ownBlock) u407000 x407000_2) := ⟨h1_⟩
             have n2_ : Aside0 (w24.heap[gb406]? = some (.cells #[u407000, .int .i64 x407001_2] 31 (0, 0))) := ⟨h2_⟩
             have n3_ : Aside0 (w24.heap[gb407]? = some (.cells #[.int .u64 x408000_2, .int .i64 x408001_2, .int .i64 x408002_2] 24 (0, 0))) := ⟨h3_⟩
             have n4_ : Aside0 (Below w.heap.size w w24) := ⟨h4_⟩
             clear HO_407000
             clear BK406
             clear BK407
             clear HB
             clear h0_ h1_ h2_ h3_ h4_
             have HO411 := n0_
             have HO_407000 := n1_
             have BK406 := n2_
             have BK407 := n3_
             have HB := n4_
             clear n0_ n1_ n2_ n3_ n4_
             have hHeld : w24.cell? ⟨gb407, 0, none⟩ = some (.int .u64 x408000_2) ∧ w24.cell? ⟨gb407, 1, none⟩ = some (.int .i64 x408001_2) ∧ w24.cell? ⟨gb407, 2, none⟩ = some (.int .i64 x408002_2) ∧ w24.cell? (ad408.add (x12_2).toNat) = some (.int .u64 (rd l1 x12_2)) := hS_
             refine norm_ (a' := ?_) ?_ ?_
             rotate_left
             ·simp only [putAll, Act.put, List.setIfInBounds_toArray, List.set_cons_zero, List.set_cons_succ]
              rfl
             refine two_ (i := 9) (j := 10) (Ni := some 13) (Nj := some 14) #[true, true, true, true, true, true, true, true, true, true, false, false, false] #[true, true, true, true, true, true, true, true, true, false, true, false, false] rfl rfl rfl rfl (two_of HT_.out (by kernel_rfl)) (by decide) (by decide) (fun K hK => ?_) (fun K hK => ?_)
             ·skip
              refine box_step ?hg (N := 13) ?hd (cs := #[.slice none 0 0, .int .i64 0]) (t := 31) ?hr ?_; (case hd => rfl); (case hg => rfl); (case hr => first | (go_simp; done) | (go_simp; rfl))
              intro gb416 hg w25 hbox hb
              replace HO_407000 := Aside0.mk (Kd.R_below (kr HO_407000) hb)
              replace HO411 := Aside0.mk (Kd.R_below (kr HO411) hb)
              have BK416 := Aside0.mk (hbox)
              have GW416 := kG hg HB
              have GE416 := kG hg HB
              replace HB := kH HB hb
              obtain ⟨NB406_416, NB416_406⟩ := kN hg BK406
              replace BK406 := kB BK406 hb
              obtain ⟨NB407_416, NB416_407⟩ := kN hg BK407
              replace BK407 := kB BK407 hb
              clear hb hbox hg
              refine hK.out _ _ ⟨(blk_cell BK407.out 0).trans rfl, (blk_cell BK407.out 1).trans rfl, (blk_cell BK407.out 2).trans rfl, ((HB.out.cell (World.block_lt_of_cell? w _ hw408_0)).trans hw408_0)⟩ (fun hHeld => ?_)
              clear hK K
              refine norm_ (a' := ?_) ?_ ?_
              rotate_left
              ·show Act.put _ (some 13) _ = _
               simp only [Act.put, List.setIfInBounds_toArray, List.set_cons_zero, List.set_cons_succ, i64_w, i32_w]
               rfl
              exact norm_ (by first | (simp only [putAll, Act.put, List.setIfInBounds_toArray, List.set_cons_zero, List.set_cons_succ]; done) | (simp only [putAll, Act.put, List.setIfInBounds_toArray, List.set_cons_zero, List.set_cons_succ]; rfl)) (hJ5_9 (v410, gb416) _ ⟨hHeld, (kr HO411), (kr HO_407000), (kb BK406), (kb BK407), (kb BK416), GW416.out, GE416.out, NB406_416.out, NB416_406.out, NB407_416.out, NB416_407.out, (kl HB)⟩)
             ·skip
              refine box_step ?hg (N := 14) ?hd (cs := #[.int .u64 0, .int .i64 0, .int .i64 0]) (t := 24) ?hr ?_; (case hd => rfl); (case hg => rfl); (case hr => first | (go_simp; done) | (go_simp; rfl))
              intro gb417 hg w25 hbox hb
              replace HO_407000 := Aside0.mk (Kd.R_below (kr HO_407000) hb)
              replace HO411 := Aside0.mk (Kd.R_below (kr HO411) hb)
              have BK417 := Aside0.mk (hbox)
              have GW417 := kG hg HB
              have GE417 := kG hg HB
              replace HB := kH HB hb
              obtain ⟨NB406_417, NB417_406⟩ := kN hg BK406
              replace BK406 := kB BK406 hb
              obtain ⟨NB407_417, NB417_407⟩ := kN hg BK407
              replace BK407 := kB BK407 hb
              clear hb hbox hg
              refine hK.out _ _ ⟨(blk_cell BK407.out 0).trans rfl, (blk_cell BK407.out 1).trans rfl, (blk_cell BK407.out 2).trans rfl, ((HB.out.cell (World.block_lt_of_cell? w _ hw408_0)).trans hw408_0)⟩ (fun hHeld => ?_)
              clear hK K
              refine norm_ (a' := ?_) ?_ ?_
              rotate_left
              ·show Act.put _ (some 14) _ = _
               simp only [Act.put, List.setIfInBounds_toArray, List.set_cons_zero, List.set_cons_succ, i64_w, i32_w]
               rfl
              exact norm_ (by first | (simp only [putAll, Act.put, List.setIfInBounds_toArray, List.set_cons_zero, List.set_cons_succ]; done) | (simp only [putAll, Act.put, List.setIfInBounds_toArray, List.set_cons_zero, List.set_cons_succ]; rfl)) (hJ5_10 (v410, gb417) _ ⟨hHeld, (kr HO411), (kr HO_407000), (kb BK406), (kb BK407), (kb BK417), GW417.out, GE417.out, NB406_417.out, NB417_406.out, NB407_417.out, NB417_407.out, (kl HB)⟩)
           ·skip
            rintro ⟨gb416, gb417⟩ w25 ⟨hS_, h0_, h1_, h2_, h3_, h4_, h5_, h6_, h7_, h8_, h9_, h10_, h11_, h12_, h13_, h14_, h15_, h16_, h17_, h18_, h19_⟩
            have n0_ : Aside0 (Kd.R (Kd.int .u8) 5 w25 w.heap.size (fun _ => True) u407000 x407000_2) := ⟨h0_⟩
            have n1_ : Aside0 (w25.heap[gb406]? = some (.cells #[u407000, .int .i64 x407001_2] 31 (0, 0))) := ⟨h1_⟩
            have n2_ : Aside0 (w25.heap[gb407]? = some (.cells #[.int .u64 x408000_2, .int .i64 x408001_2, .int .i64 x408002_2] 24 (0, 0))) := ⟨h2_⟩
            have n3_ : Aside0 (w25.heap[gb416]? = some (.cells #[.slice none 0 0, .int .i64 0] 31 (0, 0))) := ⟨h3_⟩
            have n4_ : Aside0 (w25.heap[gb417]? = some (.cells #[.int .u64 0, .int .i64 0, .int .i64 0] 24 (0, 0))) := ⟨h4_⟩
            have n5_ : Aside0 (w.heap.size ≤ gb416) := ⟨h5_⟩
            have n6_ : Aside0 (w.heap.size ≤ gb416) := ⟨h6_⟩
            have n7_ : Aside0 (gb406 ≠ gb416) := ⟨h7_⟩
            have n8_ : Aside0 (gb416 ≠ gb406) := ⟨h8_⟩
            have n9_ : Aside0 (gb407 ≠ gb416) := ⟨h9_⟩
            have n10_ : Aside0 (gb416 ≠ gb407) := ⟨h10_⟩
            have n11_ : Aside0 (gb417 ≠ gb416) := ⟨h11_⟩
            have n12_ : Aside0 (gb416 ≠ gb417) := ⟨h12_⟩
            have n13_ : Aside0 (w.heap.size ≤ gb417) := ⟨h13_⟩
            have n14_ : Aside0 (w.heap.size ≤ gb417) := ⟨h14_⟩
            have n15_ : Aside0 (gb406 ≠ gb417) := ⟨h15_⟩
            have n16_ : Aside0 (gb417 ≠ gb406) := ⟨h16_⟩
            have n17_ : Aside0 (gb407 ≠ gb417) := ⟨h17_⟩
            have n18_ : Aside0 (gb417 ≠ gb407) := ⟨h18_⟩
            have n19_ : Aside0 (Below w.heap.size w w25) := ⟨h19_⟩
            clear HO_407000
            clear BK406
            clear BK407
            clear HB
            clear h0_ h1_ h2_ h3_ h4_ h5_ h6_ h7_ h8_ h9_ h10_ h11_ h12_ h13_ h14_ h15_ h16_ h17_ h18_ h19_
            have HO_407000 := n0_
            have BK406 := n1_
            have BK407 := n2_
            have BK416 := n3_
            have BK417 := n4_
            have GW416 := n5_
            have GE416 := n6_
            have NB406_416 := n7_
            have NB416_406 := n8_
            have NB407_416 := n9_
            have NB416_407 := n10_
            have NB417_416 := n11_
            have NB416_417 := n12_
            have GW417 := n13_
            have GE417 := n14_
            have NB406_417 := n15_
            have NB417_406 := n16_
            have NB407_417 := n17_
            have NB417_407 := n18_
            have HB := n19_
            clear n0_ n1_ n2_ n3_ n4_ n5_ n6_ n7_ n8_ n9_ n10_ n11_ n12_ n13_ n14_ n15_ n16_ n17_ n18_ n19_
            have hHeld : w25.cell? ⟨gb407, 0, none⟩ = some (.int .u64 x408000_2) ∧ w25.cell? ⟨gb407, 1, none⟩ = some (.int .i64 x408001_2) ∧ w25.cell? ⟨gb407, 2, none⟩ = some (.int .i64 x408002_2) ∧ w25.cell? (ad408.add (x12_2).toNat) = some (.int .u64 (rd l1 x12_2)) := hS_
            refine norm_ (a' := ?_) ?_ ?_
            rotate_left
            ·simp only [putAll, Act.put, List.setIfInBounds_toArray, List.set_cons_zero, List.set_cons_succ]
             rfl
            refine one_ (i := 5) (N := some 63) #[true, true, true, true, true, true, false, false, false, true, true, false, false] rfl rfl (one_of HT_.out (by kernel_rfl)) (by decide) (fun K hK => ?_)
            refine goes_ Tryd.func14 (by kernel_rfl) rfl #[.agg #[.int .u64 x408000_2, .int .i64 x408001_2, .int .i64 x408002_2], .int .u64 (rd l1 x12_2)] (by rfl) rfl rfl km ?_
            with_reducible refine (xor_Code.calls k2 x408000_2 x408001_2 x408002_2 (rd l1 x12_2) t409 t412 t413 t414 t415 _ ?side1 A20.out).mono ?_
            (case side1 => exact TabOk.below HT.out (kl HB) (Nat.le_refl _))
            rintro e w26 ⟨v410, rfl, ho0, hb⟩
            refine ⟨_, rfl, ?_⟩
            have HO411 := Aside0.mk (Kd.R_lower (Kd.R_new' ho0 (Kd.R_lt (kr HO_407000))) (below_size (kl HB)))
            replace HO_407000 := Aside0.mk (Kd.R_elder' (kr HO_407000) (Kd.R_base ho0) hb)
            replace BK406 := kB BK406 hb
            replace BK407 := kB BK407 hb
            replace BK416 := kB BK416 hb
            replace BK417 := kB BK417 hb
            replace HB := kH HB hb
            (try clear hb)
            (try clear hb2)
            (try clear hk)
            (try clear hi)
            (try clear ho0)
            refine hK.out _ _ ⟨(blk_cell BK407.out 0).trans rfl, (blk_cell BK407.out 1).trans rfl, (blk_cell BK407.out 2).trans rfl, ((HB.out.cell (World.block_lt_of_cell? w _ hw408_0)).trans hw408_0)⟩ (fun hHeld => ?_)
            clear hK K
            refine norm_ (a' := ?_) ?_ ?_
            rotate_left
            ·show Act.put _ (some 63) _ = _
             simp only [Act.put, List.setIfInBounds_toArray, List.set_cons_zero, List.set_cons_succ, i64_w, i32_w]
             rfl
            refine pu 6 (some 57) (bl 13 1663) (h := ?_)
            refine pu 7 (some 64) (bl 13 1791) (h := ?_)
            refine pu 8 (some 65) (bl 13 2047) (h := ?_)
            exact norm_ (by first | (simp only [putAll, Act.put, List.setIfInBounds_toArray, List.set_cons_zero, List.set_cons_succ]; done) | (simp only [putAll, Act.put, List.setIfInBounds_toArray, List.set_cons_zero, List.set_cons_succ]; rfl)) (hJ5_9_10 (v410, gb416, gb417) _ ⟨hHeld, (by (with_reducible repeat (first | apply Kd.R_alloc | apply Kd.R_drewN | apply Kd.R_drew)); exact Kd.R_mono HO411.out (fun _ hk => hk.2)), (by (with_reducible repeat (first | apply Kd.R_alloc | apply Kd.R_drewN | apply Kd.R_drew)); exact Kd.R_mono HO_407000.out (fun _ hk => hk.2)), (kb BK406), (kb BK407), (kb BK416), (kb BK417), GW416.out, GE416.out, NB406_416.out, NB416_406.out, NB407_416.out, NB416_407.out, NB417_416.out, NB416_417.out, GW417.out, GE417.out, NB406_417.out, NB417_406.out, NB407_417.out, NB417_407.out, (kl HB)⟩)
          ·skip
           rintro ⟨v410, gb417⟩ w25 ⟨hS_, h0_, h1_, h2_, h3_, h4_, h5_, h6_, h7_, h8_, h9_, h10_, h11_⟩
           have n0_ : Aside0 (Kd.R (Kd.int .u8) 5 w25 w.heap.size (fun k_ => some k_ ≠ (u407000 : Value).ownBlock) v410 t409) := ⟨h0_⟩
           have n1_ : Aside0 (Kd.R (Kd.int .u8) 5 w25 w.heap.size (fun k_ => some k_ ≠ (v410 : Value).ownBlock) u407000 x407000_2) := ⟨h1_⟩
           have n2_ : Aside0 (w25.heap[gb406]? = some (.cells #[u407000, .int .i64 x407001_2] 31 (0, 0))) := ⟨h2_⟩
           have n3_ : Aside0 (w25.heap[gb407]? = some (.cells #[.int .u64 x408000_2, .int .i64 x408001_2, .int .i64 x408002_2] 24 (0, 0))) := ⟨h3_⟩
           have n4_ : Aside0 (w25.heap[gb417]? = some (.cells #[.int .u64 0, .int .i64 0, .int .i64 0] 24 (0, 0))) := ⟨h4_⟩
           have n5_ : Aside0 (w.heap.size ≤ gb417) := ⟨h5_⟩
           have n6_ : Aside0 (w.heap.size ≤ gb417) := ⟨h6_⟩
           have n7_ : Aside0 (gb406 ≠ gb417) := ⟨h7_⟩
           have n8_ : Aside0 (gb417 ≠ gb406) := ⟨h8_⟩
           have n9_ : Aside0 (gb407 ≠ gb417) := ⟨h9_⟩
           have n10_ : Aside0 (gb417 ≠ gb407) := ⟨h10_⟩
           have n11_ : Aside0 (Below w.heap.size w w25) := ⟨h11_⟩
           clear HO_407000
           clear BK406
           clear BK407
           clear HB
           clear h0_ h1_ h2_ h3_ h4_ h5_ h6_ h7_ h8_ h9_ h10_ h11_
           have HO411 := n0_
           have HO_407000 := n1_
           have BK406 := n2_
           have BK407 := n3_
           have BK417 := n4_
           have GW417 := n5_
           have GE417 := n6_
           have NB406_417 := n7_
           have NB417_406 := n8_
           have NB407_417 := n9_
           have NB417_407 := n10_
           have HB := n11_
           clear n0_ n1_ n2_ n3_ n4_ n5_ n6_ n7_ n8_ n9_ n10_ n11_
           have hHeld : w25.cell? ⟨gb407, 0, none⟩ = some (.int .u64 x408000_2) ∧ w25.cell? ⟨gb407, 1, none⟩ = some (.int .i64 x408001_2) ∧ w25.cell? ⟨gb407, 2, none⟩ = some (.int .i64 x408002_2) ∧ w25.cell? (ad408.add (x12_2).toNat) = some (.int .u64 (rd l1 x12_2)) := hS_
           refine norm_ (a' := ?_) ?_ ?_
           rotate_left
           ·simp only [putAll, Act.put, List.setIfInBounds_toArray, List.set_cons_zero, List.set_cons_succ]
            rfl
           refine one_ (i := 9) (N := some 13) #[true, true, true, true, true, true, true, true, true, true, true, false, false] rfl rfl (one_of HT_.out (by kernel_rfl)) (by decide) (fun K hK => ?_)
           refine box_step ?hg (N := 13) ?hd (cs := #[.slice none 0 0, .int .i64 0]) (t := 31) ?hr ?_; (case hd => rfl); (case hg => rfl); (case hr => first | (go_simp; done) | (go_simp; rfl))
           intro gb416 hg w26 hbox hb
           replace HO_407000 := Aside0.mk (Kd.R_below (kr HO_407000) hb)
           replace HO411 := Aside0.mk (Kd.R_below (kr HO411) hb)
           have BK416 := Aside0.mk (hbox)
           have GW416 := kG hg HB
           have GE416 := kG hg HB
           replace HB := kH HB hb
           obtain ⟨NB406_416, NB416_406⟩ := kN hg BK406
           replace BK406 := kB BK406 hb
           obtain ⟨NB407_416, NB416_407⟩ := kN hg BK407
           replace BK407 := kB BK407 hb
           obtain ⟨NB417_416, NB416_417⟩ := kN hg BK417
           replace BK417 := kB BK417 hb
           clear hb hbox hg
           refine hK.out _ _ ⟨(blk_cell BK407.out 0).trans rfl, (blk_cell BK407.out 1).trans rfl, (blk_cell BK407.out 2).trans rfl, ((HB.out.cell (World.block_lt_of_cell? w _ hw408_0)).trans hw408_0)⟩ (fun hHeld => ?_)
           clear hK K
           refine norm_ (a' := ?_) ?_ ?_
           rotate_left
           ·show Act.put _ (some 13) _ = _
            simp only [Act.put, List.setIfInBounds_toArray, List.set_cons_zero, List.set_cons_succ, i64_w, i32_w]
            rfl
           exact norm_ (by first | (simp only [putAll, Act.put, List.setIfInBounds_toArray, List.set_cons_zero, List.set_cons_succ]; done) | (simp only [putAll, Act.put, List.setIfInBounds_toArray, List.set_cons_zero, List.set_cons_succ]; rfl)) (hJ5_9_10 (v410, gb416, gb417) _ ⟨hHeld, (kr HO411), (kr HO_407000), (kb BK406), (kb BK407), (kb BK416), (kb BK417), GW416.out, GE416.out, NB406_416.out, NB416_406.out, NB407_416.out, NB416_407.out, NB417_416.out, NB416_417.out, GW417.out, GE417.out, NB406_417.out, NB417_406.out, NB407_417.out, NB417_407.out, (kl HB)⟩)
         ·skip
          rintro ⟨v410, gb416⟩ w25 ⟨hS_, h0_, h1_, h2_, h3_, h4_, h5_, h6_, h7_, h8_, h9_, h10_, h11_⟩
          have n0_ : Aside0 (Kd.R (Kd.int .u8) 5 w25 w.heap.size (fun k_ => some k_ ≠ (u407000 : Value).ownBlock) v410 t409) := ⟨h0_⟩
          have n1_ : Aside0 (Kd.R (Kd.int .u8) 5 w25 w.heap.size (fun k_ => some k_ ≠ (v410 : Value).ownBlock) u407000 x407000_2) := ⟨h1_⟩
          have n2_ : Aside0 (w25.heap[gb406]? = some (.cells #[u407000, .int .i64 x407001_2] 31 (0, 0))) := ⟨h2_⟩
          have n3_ : Aside0 (w25.heap[gb407]? = some (.cells #[.int .u64 x408000_2, .int .i64 x408001_2, .int .i64 x408002_2] 24 (0, 0))) := ⟨h3_⟩
          have n4_ : Aside0 (w25.heap[gb416]? = some (.cells #[.slice none 0 0, .int .i64 0] 31 (0, 0))) := ⟨h4_⟩
          have n5_ : Aside0 (w.heap.size ≤ gb416) := ⟨h5_⟩
          have n6_ : Aside0 (w.heap.size ≤ gb416) := ⟨h6_⟩
          have n7_ : Aside0 (gb406 ≠ gb416) := ⟨h7_⟩
          have n8_ : Aside0 (gb416 ≠ gb406) := ⟨h8_⟩
          have n9_ : Aside0 (gb407 ≠ gb416) := ⟨h9_⟩
          have n10_ : Aside0 (gb416 ≠ gb407) := ⟨h10_⟩
          have n11_ : Aside0 (Below w.heap.size w w25) := ⟨h11_⟩
          clear HO_407000
          clear BK406
          clear BK407
          clear HB
          clear h0_ h1_ h2_ h3_ h4_ h5_ h6_ h7_ h8_ h9_ h10_ h11_
          have HO411 := n0_
          have HO_407000 := n1_
          have BK406 := n2_
          have BK407 := n3_
          have BK416 := n4_
          have GW416 := n5_
          have GE416 := n6_
          have NB406_416 := n7_
          have NB416_406 := n8_
          have NB407_416 := n9_
          have NB416_407 := n10_
          have HB := n11_
          clear n0_ n1_ n2_ n3_ n4_ n5_ n6_ n7_ n8_ n9_ n10_ n11_
          have hHeld : w25.cell? ⟨gb407, 0, none⟩ = some (.int .u64 x408000_2) ∧ w25.cell? ⟨gb407, 1, none⟩ = some (.int .i64 x408001_2) ∧ w25.cell? ⟨gb407, 2, none⟩ = some (.int .i64 x408002_2) ∧ w25.cell? (ad408.add (x12_2).toNat) = some (.int .u64 (rd l1 x12_2)) := hS_
          refine norm_ (a' := ?_) ?_ ?_
          rotate_left
          ·simp only [putAll, Act.put, List.setIfInBounds_toArray, List.set_cons_zero, List.set_cons_succ]
           rfl
          refine one_ (i := 10) (N := some 14) #[true, true, true, true, true, true, true, true, true, true, true, false, false] rfl rfl (one_of HT_.out (by kernel_rfl)) (by decide) (fun K hK => ?_)
          refine box_step ?hg (N := 14) ?hd (cs := #[.int .u64 0, .int .i64 0, .int .i64 0]) (t := 24) ?hr ?_; (case hd => rfl); (case hg => rfl); (case hr => first | (go_simp; done) | (go_simp; rfl))
          intro gb417 hg w26 hbox hb
          replace HO_407000 := Aside0.mk (Kd.R_below (kr HO_407000) hb)
          replace HO411 := Aside0.mk (Kd.R_below (kr HO411) hb)
          have BK417 := Aside0.mk (hbox)
          have GW417 := kG hg HB
          have GE417 := kG hg HB
          replace HB := kH HB hb
          obtain ⟨NB406_417, NB417_406⟩ := kN hg BK406
          replace BK406 := kB BK406 hb
          obtain ⟨NB407_417, NB417_407⟩ := kN hg BK407
          replace BK407 := kB BK407 hb
          obtain ⟨NB416_417, NB417_416⟩ := kN hg BK416
          replace BK416 := kB BK416 hb
          clear hb hbox hg
          refine hK.out _ _ ⟨(blk_cell BK407.out 0).trans rfl, (blk_cell BK407.out 1).trans rfl, (blk_cell BK407.out 2).trans rfl, ((HB.out.cell (World.block_lt_of_cell? w _ hw408_0)).trans hw408_0)⟩ (fun hHeld => ?_)
          clear hK K
          refine norm_ (a' := ?_) ?_ ?_
          rotate_left
          ·show Act.put _ (some 14) _ = _
           simp only [Act.put, List.setIfInBounds_toArray, List.set_cons_zero, List.set_cons_succ, i64_w, i32_w]
           rfl
          exact norm_ (by first | (simp only [putAll, Act.put, List.setIfInBounds_toArray, List.set_cons_zero, List.set_cons_succ]; done) | (simp only [putAll, Act.put, List.setIfInBounds_toArray, List.set_cons_zero, List.set_cons_succ]; rfl)) (hJ5_9_10 (v410, gb416, gb417) _ ⟨hHeld, (kr HO411), (kr HO_407000), (kb BK406), (kb BK407), (kb BK416), (kb BK417), GW416.out, GE416.out, NB406_416.out, NB416_406.out, NB407_416.out, NB416_407.out, NB417_416.out, NB416_417.out, GW417.out, GE417.out, NB406_417.out, NB417_406.out, NB407_417.out, NB417_407.out, (kl HB)⟩)
        rintro ⟨v410, gb416, gb417⟩ w26 ⟨hS_, h0_, h1_, h2_, h3_, h4_, h5_, h6_, h7_, h8_, h9_, h10_, h11_, h12_, h13_, h14_, h15_, h16_, h17_, h18_, h19_, h20_⟩
        have n0_ : Aside0 (Kd.R (Kd.int .u8) 5 w26 w.heap.size (fun k_ => some k_ ≠ (u407000 : Value).ownBlock) v410 t409) := ⟨h0_⟩
        have n1_ : Aside0 (Kd.R (Kd.int .u8) 5 w26 w.heap.size (fun k_ => some k_ ≠ (v410 : Value).ownBlock) u407000 x407000_2) := ⟨h1_⟩
        have n2_ : Aside0 (w26.heap[gb406]? = some (.cells #[u407000, .int .i64 x407001_2] 31 (0, 0))) := ⟨h2_⟩
        have n3_ : Aside0 (w26.heap[gb407]? = some (.cells #[.int .u64 x408000_2, .int .i64 x408001_2, .int .i64 x408002_2] 24 (0, 0))) := ⟨h3_⟩
        have n4_ : Aside0 (w26.heap[gb416]? = some (.cells #[.slice none 0 0, .int .i64 0] 31 (0, 0))) := ⟨h4_⟩
        have n5_ : Aside0 (w26.heap[gb417]? = some (.cells #[.int .u64 0, .int .i64 0, .int .i64 0] 24 (0, 0))) := ⟨h5_⟩
        have n6_ : Aside0 (w.heap.size ≤ gb416) := ⟨h6_⟩
        have n7_ : Aside0 (w.heap.size ≤ gb416) := ⟨h7_⟩
        have n8_ : Aside0 (gb406 ≠ gb416) := ⟨h8_⟩
        have n9_ : Aside0 (gb416 ≠ gb406) := ⟨h9_⟩
        have n10_ : Aside0 (gb407 ≠ gb416) := ⟨h10_⟩
        have n11_ : Aside0 (gb416 ≠ gb407) := ⟨h11_⟩
        have n12_ : Aside0 (gb417 ≠ gb416) := ⟨h12_⟩
        have n13_ : Aside0 (gb416 ≠ gb417) := ⟨h13_⟩
        have n14_ : Aside0 (w.heap.size ≤ gb417) := ⟨h14_⟩
        have n15_ : Aside0 (w.heap.size ≤ gb417) := ⟨h15_⟩
        have n16_ : Aside0 (gb406 ≠ gb417) := ⟨h16_⟩
        have n17_ : Aside0 (gb417 ≠ gb406) := ⟨h17_⟩
        have n18_ : Aside0 (gb407 ≠ gb417) := ⟨h18_⟩
        have n19_ : Aside0 (gb417 ≠ gb407) := ⟨h19_⟩
        have n20_ : Aside0 (Below w.heap.size w w26) := ⟨h20_⟩
        clear HO_407000
        clear BK406
        clear BK407
        clear HB
        clear h0_ h1_ h2_ h3_ h4_ h5_ h6_ h7_ h8_ h9_ h10_ h11_ h12_ h13_ h14_ h15_ h16_ h17_ h18_ h19_ h20_
        have HO411 := n0_
        have HO_407000 := n1_
        have BK406 := n2_
        have BK407 := n3_
        have BK416 := n4_
        have BK417 := n5_
        have GW416 := n6_
        have GE416 := n7_
        have NB406_416 := n8_
        have NB416_406 := n9_
        have NB407_416 := n10_
        have NB416_407 := n11_
        have NB417_416 := n12_
        have NB416_417 := n13_
        have GW417 := n14_
        have GE417 := n15_
        have NB406_417 := n16_
        have NB417_406 := n17_
        have NB407_417 := n18_
        have NB417_407 := n19_
        have HB := n20_
        clear n0_ n1_ n2_ n3_ n4_ n5_ n6_ n7_ n8_ n9_ n10_ n11_ n12_ n13_ n14_ n15_ n16_ n17_ n18_ n19_ n20_
        have hHeld : w26.cell? ⟨gb407, 0, none⟩ = some (.int .u64 x408000_2) ∧ w26.cell? ⟨gb407, 1, none⟩ = some (.int .i64 x408001_2) ∧ w26.cell? ⟨gb407, 2, none⟩ = some (.int .i64 x408002_2) ∧ w26.cell? (ad408.add (x12_2).toNat) = some (.int .u64 (rd l1 x12_2)) := hS_
        obtain ⟨Ao27, co27, eo27⟩ := Kd.R_slice HO411.out
        (first | subst eo27 | (injection eo27 with f1_ f2_ f3_; have f4_ := f1_.symm; have f5_ := f3_.symm; clear f1_ f2_ f3_; subst f4_; subst f5_))
        refine norm_ (a' := ?_) ?_ ?_
        rotate_left
        ·simp only [putAll, Act.put, List.setIfInBounds_toArray, List.set_cons_zero, List.set_cons_succ]
         rfl
        refine one_ (i := 11) (N := none) #[true, true, true, true, true, true, true, true, true, true, true, true, false] rfl rfl (one_of HT_.out (by kernel_rfl)) (by decide) (fun K hK => ?_)
        have hs28 : w26.cell? ⟨gb416, 0, none⟩ = some (.slice none 0 0) := (blk_cell BK416.out 0).trans rfl
        have hfs28 := blk_frozen BK416.out 0
        have hns28_0 := NB406_416.out
        have hns28_1 := NB407_416.out
        have hns28_3 := NB417_416.out
        have hms28_0 := NB416_406.out
        have hms28_1 := NB416_407.out
        have hms28_3 := NB416_417.out
        have hs29 : w26.cell? ⟨gb416, 1, none⟩ = some (.int .i64 0) := (blk_cell BK416.out 1).trans rfl
        have hfs29 := blk_frozen BK416.out 1
        refine skip_ (w1 := ?_) (by rfl) rfl ?_ ?_
        rotate_left
        ·go_simp
         rfl
        refine hK.out _ _ ⟨(kf hHeld.1), (kf hHeld.2.1), (kf hHeld.2.2.1), ((cell_far (p := ⟨gb416, _, none⟩) (by first | exact Nat.ne_of_lt (Nat.lt_of_lt_of_le (by have := World.block_lt_of_cell? _ _ hw408_0; first | rwa [add_block] at this | exact this) GW416.out) | (rw [add_block]; exact Nat.ne_of_lt (Nat.lt_of_lt_of_le (by have := World.block_lt_of_cell? _ _ hw408_0; first | rwa [add_block] at this | exact this) GW416.out)) | (show (Addr.add _ _).block ≠ _; rw [add_block]; exact Nat.ne_of_lt (Nat.lt_of_lt_of_le (by have := World.block_lt_of_cell? _ _ hw408_0; first | rwa [add_block] at this | exact this) GW416.out)) | (dsimp only; exact Nat.ne_of_lt (Nat.lt_of_lt_of_le (by have := World.block_lt_of_cell? _ _ hw408_0; first | rwa [add_block] at this | exact this) GW416.out))) _).trans (((cell_far (p := ⟨gb416, _, none⟩) (by first | exact Nat.ne_of_lt (Nat.lt_of_lt_of_le (by have := World.block_lt_of_cell? _ _ hw408_0; first | rwa [add_block] at this | exact this) GW416.out) | (rw [add_block]; exact Nat.ne_of_lt (Nat.lt_of_lt_of_le (by have := World.block_lt_of_cell? _ _ hw408_0; first | rwa [add_block] at this | exact this) GW416.out)) | (show (Addr.add _ _).block ≠ _; rw [add_block]; exact Nat.ne_of_lt (Nat.lt_of_lt_of_le (by have := World.block_lt_of_cell? _ _ hw408_0; first | rwa [add_block] at this | exact this) GW416.out)) | (dsimp only; exact Nat.ne_of_lt (Nat.lt_of_lt_of_le (by have := World.block_lt_of_cell? _ _ hw408_0; first | rwa [add_block] at this | exact this) GW416.out))) _).trans (hHeld.2.2.2))))⟩ (fun hHeld => ?_)
        clear hK K
        refine one_ (i := 12) (N := none) #[true, true, true, true, true, true, true, true, true, true, true, true, true] rfl rfl (one_of HT_.out (by kernel_rfl)) (by decide) (fun K hK => ?_)
        have hs30 : w26.cell? ⟨gb417, 0, none⟩ = some (.int .u64 0) := (blk_cell BK417.out 0).trans rfl
        have hfs30 := blk_frozen BK417.out 0
        have hns30_0 := NB406_417.out
        have hns30_1 := NB407_417.out
        have hns30_2 := NB416_417.out
        have hms30_0 := NB417_406.out
        have hms30_1 := NB417_407.out
        have hms30_2 := NB417_416.out
        have hs31 : w26.cell? ⟨gb417, 1, none⟩ = some (.int .i64 0) := (blk_cell BK417.out 1).trans rfl
        have hfs31 := blk_frozen BK417.out 1
        have hs32 : w26.cell? ⟨gb417, 2, none⟩ = some (.int .i64 0) := (blk_cell BK417.out 2).trans rfl
        have hfs32 := blk_frozen BK417.out 2
        refine skip_ (w1 := ?_) (by rfl) rfl ?_ ?_
        rotate_left
        ·go_simp
         rfl
        refine hK.out _ _ ⟨(kf hHeld.1), (kf hHeld.2.1), (kf hHeld.2.2.1), ((cell_far (p := ⟨gb417, _, none⟩) (by first | exact Nat.ne_of_lt (Nat.lt_of_lt_of_le (by have := World.block_lt_of_cell? _ _ hw408_0; first | rwa [add_block] at this | exact this) GW417.out) | (rw [add_block]; exact Nat.ne_of_lt (Nat.lt_of_lt_of_le (by have := World.block_lt_of_cell? _ _ hw408_0; first | rwa [add_block] at this | exact this) GW417.out)) | (show (Addr.add _ _).block ≠ _; rw [add_block]; exact Nat.ne_of_lt (Nat.lt_of_lt_of_le (by have := World.block_lt_of_cell? _ _ hw408_0; first | rwa [add_block] at this | exact this) GW417.out)) | (dsimp only; exact Nat.ne_of_lt (Nat.lt_of_lt_of_le (by have := World.block_lt_of_cell? _ _ hw408_0; first | rwa [add_block] at this | exact this) GW417.out))) _).trans (((cell_far (p := ⟨gb417, _, none⟩) (by first | exact Nat.ne_of_lt (Nat.lt_of_lt_of_le (by have := World.block_lt_of_cell? _ _ hw408_0; first | rwa [add_block] at this | exact this) GW417.out) | (rw [add_block]; exact Nat.ne_of_lt (Nat.lt_of_lt_of_le (by have := World.block_lt_of_cell? _ _ hw408_0; first | rwa [add_block] at this | exact this) GW417.out)) | (show (Addr.add _ _).block ≠ _; rw [add_block]; exact Nat.ne_of_lt (Nat.lt_of_lt_of_le (by have := World.block_lt_of_cell? _ _ hw408_0; first | rwa [add_block] at this | exact this) GW417.out)) | (dsimp only; exact Nat.ne_of_lt (Nat.lt_of_lt_of_le (by have := World.block_lt_of_cell? _ _ hw408_0; first | rwa [add_block] at this | exact this) GW417.out))) _).trans (((cell_far (p := ⟨gb417, _, none⟩) (by first | exact Nat.ne_of_lt (Nat.lt_of_lt_of_le (by have := World.block_lt_of_cell? _ _ hw408_0; first | rwa [add_block] at this | exact this) GW417.out) | (rw [add_block]; exact Nat.ne_of_lt (Nat.lt_of_lt_of_le (by have := World.block_lt_of_cell? _ _ hw408_0; first | rwa [add_block] at this | exact this) GW417.out)) | (show (Addr.add _ _).block ≠ _; rw [add_block]; exact Nat.ne_of_lt (Nat.lt_of_lt_of_le (by have := World.block_lt_of_cell? _ _ hw408_0; first | rwa [add_block] at this | exact this) GW417.out)) | (dsimp only; exact Nat.ne_of_lt (Nat.lt_of_lt_of_le (by have := World.block_lt_of_cell? _ _ hw408_0; first | rwa [add_block] at this | exact this) GW417.out))) _).trans (hHeld.2.2.2))))))⟩ (fun hHeld => ?_)
        clear hK K
        refine done_ (done_of HT_.out (by kernel_rfl)) ?_
        have hnb33 := NB406_407.out
        have hnc33 := NB407_406.out
        have hnb34 := NB406_416.out
        have hnc34 := NB416_406.out
        have hnb35 := NB406_417.out
        have hnc35 := NB417_406.out
        obtain ⟨hcz36_0, hcz36_1⟩ := kc2 BK406
        obtain ⟨hfz36_0, hfz36_1⟩ := kf2 BK406
        have hnb37 := NB416_407.out
        have hnc37 := NB407_416.out
        have hnb38 := NB416_417.out
        have hnc38 := NB417_416.out
        obtain ⟨hcz39_0, hcz39_1⟩ := kc2 BK416
        obtain ⟨hfz39_0, hfz39_1⟩ := kf2 BK416
        obtain ⟨Ao40, co40, eo40⟩ := Kd.R_slice HO_407000.out
        subst eo40
        try go_wp2_with (first | ((with_reducible refine gate_callee (f := 22) rfl ?_); refine goesL_ (some 68) rfl rfl Tryd.func22 (by kernel_rfl) rfl #[.agg #[.slice Ao40 x407000_2.length co40, .int .i64 x407001_2], .agg #[.slice Ao27 t409.length co27, .int .i64 t412]] rfl km ?_; (with_reducible refine (bits_Join.calls k2 _ _ x407000_2 x407001_2 _ _ t409 t412 t418 t421 _ ?side1 ?side2 ?side3 ?side4 A21.out).mono ?_); (case side1 => refine (Kd.R_reads' (e := 5) (base := w.heap.size) (ok := fun k_ => some k_ ≠ (.slice Ao27 t409.length co27 : Value).ownBlock) (n := x407000_2.length) (c := co40) ?_).2.2; exact (by (with_reducible repeat (first | apply Kd.R_alloc | apply Kd.R_drewN | apply Kd.R_drew)); exact (Kd.R_mono (Kd.R_mono (Kd.R_far (p := ⟨gb417, 2, none⟩) (Kd.R_far (p := ⟨gb417, 1, none⟩) (Kd.R_far (p := ⟨gb417, 0, none⟩) (Kd.R_far (p := ⟨gb416, 1, none⟩) (Kd.R_far (p := ⟨gb416, 0, none⟩) (Kd.R_types (Kd.R_types HO_407000.out BK416.out (by decide)) BK417.out (by decide)) (fun _ hk => hk.1.2) (.slice Ao27 t409.length co27)) (fun _ hk => hk.1.2) (.int .i64 t412)) (fun _ hk => hk.2) (.int .u64 t413)) (fun _ hk => hk.2) (.int .i64 t414)) (fun _ hk => hk.2) (.int .i64 t415)) (fun _ h_ => h_.1)) (fun _ h_ => h_.1)))); (case side2 => exact (Kd.R_reads' HO_407000.out).2.1); (case side3 => refine (Kd.R_reads' (e := 5) (base := w.heap.size) (ok := fun k_ => some k_ ≠ (.slice Ao40 x407000_2.length co40 : Value).ownBlock) (n := t409.length) (c := co27) ?_).2.2; exact (by (with_reducible repeat (first | apply Kd.R_alloc | apply Kd.R_drewN | apply Kd.R_drew)); exact (Kd.R_mono (Kd.R_mono (Kd.R_far (p := ⟨gb417, 2, none⟩) (Kd.R_far (p := ⟨gb417, 1, none⟩) (Kd.R_far (p := ⟨gb417, 0, none⟩) (Kd.R_far (p := ⟨gb416, 1, none⟩) (Kd.R_far (p := ⟨gb416, 0, none⟩) (Kd.R_types (Kd.R_types HO411.out BK416.out (by decide)) BK417.out (by decide)) (fun _ hk => hk.1.2) (.slice Ao27 t409.length co27)) (fun _ hk => hk.1.2) (.int .i64 t412)) (fun _ hk => hk.2) (.int .u64 t413)) (fun _ hk => hk.2) (.int .i64 t414)) (fun _ hk => hk.2) (.int .i64 t415)) (fun _ h_ => h_.1)) (fun _ h_ => h_.1)))); (case side4 => exact (Kd.R_reads' HO411.out).2.1); rintro e w41 ⟨v419, rfl, ho0, hb⟩; refine ⟨_, rfl, ?_⟩; have HO420 := Aside0.mk (Kd.R_lower (Kd.R_new' (Kd.R_new' ho0 (Kd.R_lt (by (with_reducible repeat (first | apply Kd.R_alloc | apply Kd.R_drewN | apply Kd.R_drew)); exact (Kd.R_mono (Kd.R_mono (Kd.R_far (p := ⟨gb417, 2, none⟩) (Kd.R_far (p := ⟨gb417, 1, none⟩) (Kd.R_far (p := ⟨gb417, 0, none⟩) (Kd.R_far (p := ⟨gb416, 1, none⟩) (Kd.R_far (p := ⟨gb416, 0, none⟩) (Kd.R_types (Kd.R_types HO_407000.out BK416.out (by decide)) BK417.out (by decide)) (fun _ hk => hk.1.2) (.slice Ao27 t409.length co27)) (fun _ hk => hk.1.2) (.int .i64 t412)) (fun _ hk => hk.2) (.int .u64 t413)) (fun _ hk => hk.2) (.int .i64 t414)) (fun _ hk => hk.2) (.int .i64 t415)) (fun _ h_ => h_.1)) (fun _ h_ => h_.1))))) (Kd.R_lt (by (with_reducible repeat (first | apply Kd.R_alloc | apply Kd.R_drewN | apply Kd.R_drew)); exact (Kd.R_mono (Kd.R_mono (Kd.R_far (p := ⟨gb417, 2, none⟩) (Kd.R_far (p := ⟨gb417, 1, none⟩) (Kd.R_far (p := ⟨gb417, 0, none⟩) (Kd.R_far (p := ⟨gb416, 1, none⟩) (Kd.R_far (p := ⟨gb416, 0, none⟩) (Kd.R_types (Kd.R_types HO411.out BK416.out (by decide)) BK417.out (by decide)) (fun _ hk => hk.1.2) (.slice Ao27 t409.length co27)) (fun _ hk => hk.1.2) (.int .i64 t412)) (fun _ hk => hk.2) (.int .u64 t413)) (fun _ hk => hk.2) (.int .i64 t414)) (fun _ hk => hk.2) (.int .i64 t415)) (fun _ h_ => h_.1)) (fun _ h_ => h_.1))))) (below_size (kl HB))); replace HO_407000 := Aside0.mk (Kd.R_elder' (by (with_reducible repeat (first | apply Kd.R_alloc | apply Kd.R_drewN | apply Kd.R_drew)); exact (Kd.R_mono (Kd.R_mono (Kd.R_far (p := ⟨gb417, 2, none⟩) (Kd.R_far (p := ⟨gb417, 1, none⟩) (Kd.R_far (p := ⟨gb417, 0, none⟩) (Kd.R_far (p := ⟨gb416, 1, none⟩) (Kd.R_far (p := ⟨gb416, 0, none⟩) (Kd.R_types (Kd.R_types HO_407000.out BK416.out (by decide)) BK417.out (by decide)) (fun _ hk => hk.1.2) (.slice Ao27 t409.length co27)) (fun _ hk => hk.1.2) (.int .i64 t412)) (fun _ hk => hk.2) (.int .u64 t413)) (fun _ hk => hk.2) (.int .i64 t414)) (fun _ hk => hk.2) (.int .i64 t415)) (fun _ h_ => h_.1)) (fun _ h_ => h_.1))) (Kd.R_base ho0) hb); replace HO411 := Aside0.mk (Kd.R_elder' (by (with_reducible repeat (first | apply Kd.R_alloc | apply Kd.R_drewN | apply Kd.R_drew)); exact (Kd.R_mono (Kd.R_mono (Kd.R_far (p := ⟨gb417, 2, none⟩) (Kd.R_far (p := ⟨gb417, 1, none⟩) (Kd.R_far (p := ⟨gb417, 0, none⟩) (Kd.R_far (p := ⟨gb416, 1, none⟩) (Kd.R_far (p := ⟨gb416, 0, none⟩) (Kd.R_types (Kd.R_types HO411.out BK416.out (by decide)) BK417.out (by decide)) (fun _ hk => hk.1.2) (.slice Ao27 t409.length co27)) (fun _ hk => hk.1.2) (.int .i64 t412)) (fun _ hk => hk.2) (.int .u64 t413)) (fun _ hk => hk.2) (.int .i64 t414)) (fun _ hk => hk.2) (.int .i64 t415)) (fun _ h_ => h_.1)) (fun _ h_ => h_.1))) (Kd.R_base ho0) hb); replace BK406 := Aside0.mk (blk_below (g := gb406) (o := .cells #[.slice Ao40 x407000_2.length co40, .int .i64 x407001_2] 31 (0, 0)) (kb BK406) hb); replace BK407 := Aside0.mk (blk_below (g := gb407) (o := .cells #[.int .u64 x408000_2, .int .i64 x408001_2, .int .i64 x408002_2] 24 (0, 0)) (kb BK407) hb); replace BK416 := Aside0.mk (blk_below (g := gb416) (o := .cells #[.slice Ao27 t409.length co27, .int .i64 t412] 31 (0, 0)) (kb BK416) hb); replace BK417 := Aside0.mk (blk_below (g := gb417) (o := .cells #[.int .u64 t413, .int .i64 t414, .int .i64 t415] 24 (0, 0)) (kb BK417) hb); replace HB := kH HB hb; (try clear hb); (try clear hb2); (try clear hk); (try clear hi); (try clear ho0); obtain ⟨Ao42, co42, eo42⟩ := Kd.R_slice HO420.out; subst eo42; have hcz43_0 : w41.cell? ⟨gb406, 0, none⟩ = some (.slice Ao40 x407000_2.length co40) := (blk_cell BK406.out 0).trans rfl; have hcz43_1 : w41.cell? ⟨gb406, 1, none⟩ = some (.int .i64 x407001_2) := (blk_cell BK406.out 1).trans rfl; have hfz43_0 := blk_frozen BK406.out 0; have hfz43_1 := blk_frozen BK406.out 1; have hnb44 := NB417_407.out; have hnc44 := NB407_417.out; have hcz45_0 : w41.cell? ⟨gb417, 0, none⟩ = some (.int .u64 t413) := (blk_cell BK417.out 0).trans rfl; have hcz45_1 : w41.cell? ⟨gb417, 1, none⟩ = some (.int .i64 t414) := (blk_cell BK417.out 1).trans rfl; have hcz45_2 : w41.cell? ⟨gb417, 2, none⟩ = some (.int .i64 t415) := (blk_cell BK417.out 2).trans rfl; have hfz45_0 := blk_frozen BK417.out 0; have hfz45_1 := blk_frozen BK417.out 1; have hfz45_2 := blk_frozen BK417.out 2; have hcz46_0 : w41.cell? ⟨gb407, 0, none⟩ = some (.int .u64 x408000_2) := (blk_cell BK407.out 0).trans rfl; have hcz46_1 : w41.cell? ⟨gb407, 1, none⟩ = some (.int .i64 x408001_2) := (blk_cell BK407.out 1).trans rfl; have hcz46_2 : w41.cell? ⟨gb407, 2, none⟩ = some (.int .i64 x408002_2) := (blk_cell BK407.out 2).trans rfl; have hfz46_0 := blk_frozen BK407.out 0; have hfz46_1 := blk_frozen BK407.out 1; have hfz46_2 := blk_frozen BK407.out 2))
        go_roundg k2
        case measure => have := HJ5.out; have := HK2.out; omega
        case rel => exact ⟨(wrap64 (x12_2 + 1)), (t418), (t421), (t413), (t414), (t415), (.slice Ao42 t418.length co42), (by first | rfl | (simp; done) | (simp [*]; done)), H', ⟨by have := HJ5.out; have := HK2.out; omega⟩, ⟨by (with_reducible repeat (first | apply Kd.R_alloc | apply Kd.R_drewN | apply Kd.R_drew)); exact Kd.R_mono (Kd.R_far (p := ⟨gb407, 2, none⟩) (Kd.R_far (p := ⟨gb407, 1, none⟩) (Kd.R_far (p := ⟨gb407, 0, none⟩) (Kd.R_far (p := ⟨gb406, 1, none⟩) (Kd.R_far (p := ⟨gb406, 0, none⟩) (Kd.R_types (Kd.R_types HO420.out BK406.out (by decide)) BK407.out (by decide)) (fun _ hk => hk.1.2) (.slice Ao42 t418.length co42)) (fun _ hk => hk.1.2) (.int .i64 t421)) (fun _ hk => hk.2) (.int .u64 t413)) (fun _ hk => hk.2) (.int .i64 t414)) (fun _ hk => hk.2) (.int .i64 t415)) (fun _ hk => trivial)⟩, ⟨by (with_reducible repeat (first | refine blk_drewN ?_ _ | refine blk_drew ?_ | refine blk_alloc ?_ _)); refine blk_far ?_ NB406_407.out _; (with_reducible repeat (first | refine blk_drewN ?_ _ | refine blk_drew ?_ | refine blk_alloc ?_ _)); refine blk_far ?_ NB406_407.out _; (with_reducible repeat (first | refine blk_drewN ?_ _ | refine blk_drew ?_ | refine blk_alloc ?_ _)); refine blk_far ?_ NB406_407.out _; (with_reducible repeat (first | refine blk_drewN ?_ _ | refine blk_drew ?_ | refine blk_alloc ?_ _)); refine blk_put (cs := #[.slice Ao42 t418.length co42, .int .i64 x407001_2]) ?_ 1 _ rfl; (with_reducible repeat (first | refine blk_drewN ?_ _ | refine blk_drew ?_ | refine blk_alloc ?_ _)); refine blk_put (cs := #[.slice Ao40 x407000_2.length co40, .int .i64 x407001_2]) ?_ 0 _ rfl; (with_reducible repeat (first | refine blk_drewN ?_ _ | refine blk_drew ?_ | refine blk_alloc ?_ _)); exact BK406.out⟩, ⟨by (with_reducible repeat (first | refine blk_drewN ?_ _ | refine blk_drew ?_ | refine blk_alloc ?_ _)); refine blk_put (cs := #[.int .u64 t413, .int .i64 t414, .int .i64 x408002_2]) ?_ 2 _ rfl; (with_reducible repeat (first | refine blk_drewN ?_ _ | refine blk_drew ?_ | refine blk_alloc ?_ _)); refine blk_put (cs := #[.int .u64 t413, .int .i64 x408001_2, .int .i64 x408002_2]) ?_ 1 _ rfl; (with_reducible repeat (first | refine blk_drewN ?_ _ | refine blk_drew ?_ | refine blk_alloc ?_ _)); refine blk_put (cs := #[.int .u64 x408000_2, .int .i64 x408001_2, .int .i64 x408002_2]) ?_ 0 _ rfl; (with_reducible repeat (first | refine blk_drewN ?_ _ | refine blk_drew ?_ | refine blk_alloc ?_ _)); refine blk_far ?_ NB407_406.out _; (with_reducible repeat (first | refine blk_drewN ?_ _ | refine blk_drew ?_ | refine blk_alloc ?_ _)); refine blk_far ?_ NB407_406.out _; (with_reducible repeat (first | refine blk_drewN ?_ _ | refine blk_drew ?_ | refine blk_alloc ?_ _)); exact BK407.out⟩, ⟨by repeat (first | (with_reducible first | exact HB.out | apply below_alloc | apply pw_below_drewN | apply below_drew1 | refine below_set ?_ GE406.out | refine below_set ?_ GE407.out | refine below_set ?_ GE416.out | refine below_set ?_ GE417.out) | exact HB.out)⟩⟩
       ·rw [if_neg c19] at H
        exact absurd H (by simp)
      ·rw [if_neg c18] at H
       have c18b0 : decide (x12_2 < (l1.length : Int)) = false := decide_eq_false c18
       clear c18
       replace H := Option.bind_eq_some_iff.mp H
       obtain ⟨⟨t422, t425⟩, A470, H⟩ := H
       replace H : ((bits_Join.f k2 x407000_2 x407001_2 t422 t425).bind fun bt426 => (gaiterlaw07_XorBack.l1 k2 l1 l3 t401 (l0.length : Int) 0 bt426.1 bt426.2 0 0 0)) = some r := H
       have A47 := Aside0.mk A470
       clear A470
       replace H := Option.bind_eq_some_iff.mp H
       obtain ⟨⟨t426, t429⟩, A480, H⟩ := H
       replace H : (gaiterlaw07_XorBack.l1 k2 l1 l3 t401 (l0.length : Int) 0 t426 t429 0 0 0) = some r := H
       have A48 := Aside0.mk A480
       clear A480
       have H' := Aside0.mk H
       clear H
       try go_wp2
       replace HO_407000 := Aside0.mk (Kd.R_drew HO_407000.out)
       replace BK406 := Aside0.mk (blk_drew BK406.out)
       replace BK407 := Aside0.mk (blk_drew BK407.out)
       replace HB := Aside0.mk (below_drew1 HB.out)
       refine start_ (n := 5) (S := fun w' => w'.cell? ⟨gb406, 0, none⟩ = some (u407000) ∧ w'.cell? ⟨gb406, 1, none⟩ = some (.int .i64 x407001_2)) (ds := [4]) (bl 5 0) (by kernel_rfl) rfl rfl kz (fun hHeld => ?_)
       generalize wr.drew = w49 at HO_407000 BK406 BK407 HB hHeld ⊢
       refine pu 1 (some 71) (bl 5 2) (h := ?_)
       refine ta 0 (some 70) (bl 5 3) (h := ?_)
       refine one_ (i := 2) (N := some 72) #[true, true, true, false, false] rfl rfl (by kernel_rfl) (by decide) (fun K hK => ?_)
       refine goes_ Tryd.func21 (by kernel_rfl) rfl #[.slice A2 l2.length c2] (by rfl) rfl rfl km ?_
       with_reducible refine (gaiterlaw00_Bits.calls k2 _ _ l2 t422 t425 _ ?side1 ?side2 A47.out).mono ?_
       (case side1 => repeat (first | exact (Kd.C_below HR2.out HB.out) | (with_reducible refine Kd.C_alloc ?_ _) | (with_reducible refine Kd.C_drewN ?_ _) | (with_reducible refine Kd.C_drew ?_)))
       (case side2 => exact HC2.out)
       rintro e w50 ⟨v423, rfl, ho0, hb⟩
       refine ⟨_, rfl, ?_⟩
       have HO424 := Aside0.mk (Kd.R_lower (Kd.R_new' ho0 (Kd.R_lt (kr HO_407000))) (below_size (kl HB)))
       replace HO_407000 := Aside0.mk (Kd.R_elder' (kr HO_407000) (Kd.R_base ho0) hb)
       replace BK406 := kB BK406 hb
       replace BK407 := kB BK407 hb
       replace HB := kH HB hb
       (try clear hb)
       (try clear hb2)
       (try clear hk)
       (try clear hi)
       (try clear ho0)
       obtain ⟨Ao51, co51, eo51⟩ := Kd.R_slice HO_407000.out
       (first | subst eo51 | (injection eo51 with f1_ f2_ f3_; have f4_ := f1_.symm; have f5_ := f3_.symm; clear f1_ f2_ f3_; subst f4_; subst f5_))
       obtain ⟨Ao52, co52, eo52⟩ := Kd.R_slice HO424.out
       (first | subst eo52 | (injection eo52 with f1_ f2_ f3_; have f4_ := f1_.symm; have f5_ := f3_.symm; clear f1_ f2_ f3_; subst f4_; subst f5_))
       refine hK.out _ _ kz (fun hHeld => ?_)
       clear hK K
       refine norm_ (a' := ?_) ?_ ?_
       rotate_left
       ·show Act.put _ (some 72) _ = _
        simp only [Act.put, List.setIfInBounds_toArray, List.set_cons_zero, List.set_cons_succ, i64_w, i32_w]
        rfl
       refine one_ (i := 3) (N := some 73) #[true, true, true, true, false] rfl rfl (by kernel_rfl) (by decide) (fun K hK => ?_)
       refine goes_ Tryd.func22 (by kernel_rfl) rfl #[.agg #[.slice Ao51 x407000_2.length co51, .int .i64 x407001_2], .agg #[.slice Ao52 t422.length co52, .int .i64 t425]] (by rfl) rfl rfl km ?_
       with_reducible refine (bits_Join.calls k2 _ _ x407000_2 x407001_2 _ _ t422 t425 t426 t429 _ ?side1 ?side2 ?side3 ?side4 A48.out).mono ?_
       (case side1 => repeat (first | exact (Kd.R_reads' HO_407000.out).2.2 | (with_reducible refine Kd.C_alloc ?_ _) | (with_reducible refine Kd.C_drewN ?_ _) | (with_reducible refine Kd.C_drew ?_)))
       (case side2 => exact (Kd.R_reads' HO_407000.out).2.1)
       (case side3 => repeat (first | exact (Kd.R_reads' HO424.out).2.2 | (with_reducible refine Kd.C_alloc ?_ _) | (with_reducible refine Kd.C_drewN ?_ _) | (with_reducible refine Kd.C_drew ?_)))
       (case side4 => exact (Kd.R_reads' HO424.out).2.1)
       rintro e w53 ⟨v427, rfl, ho0, hb⟩
       refine ⟨_, rfl, ?_⟩
       have HO428 := Aside0.mk (Kd.R_lower (Kd.R_new' (Kd.R_new' ho0 (Kd.R_lt (kr HO_407000))) (Kd.R_lt (kr HO424))) (below_size (kl HB)))
       replace HO_407000 := Aside0.mk (Kd.R_elder' (kr HO_407000) (Kd.R_base ho0) hb)
       replace HO424 := Aside0.mk (Kd.R_elder' (kr HO424) (Kd.R_base ho0) hb)
       replace BK406 := kB BK406 hb
       replace BK407 := kB BK407 hb
       replace HB := kH HB hb
       (try clear hb)
       (try clear hb2)
       (try clear hk)
       (try clear hi)
       (try clear ho0)
       obtain ⟨Ao54, co54, eo54⟩ := Kd.R_slice HO428.out
       (first | subst eo54 | (injection eo54 with f1_ f2_ f3_; have f4_ := f1_.symm; have f5_ := f3_.symm; clear f1_ f2_ f3_; subst f4_; subst f5_))
       refine hK.out _ _ kz (fun hHeld => ?_)
       clear hK K
       refine norm_ (a' := ?_) ?_ ?_
       rotate_left
       ·show Act.put _ (some 73) _ = _
        simp only [Act.put, List.setIfInBounds_toArray, List.set_cons_zero, List.set_cons_succ, i64_w, i32_w]
        rfl
       refine last_ (i := 4) (N := none) #[true, true, true, true, true] rfl rfl (by kernel_rfl) (by decide) (fun K hK => ?_)
       have hs55 : w53.cell? ⟨gb406, 0, none⟩ = some (.slice Ao51 x407000_2.length co51) := (blk_cell BK406.out 0).trans rfl
       have hfs55 := blk_frozen BK406.out 0
       have hns55_1 := NB407_406.out
       have hms55_1 := NB406_407.out
       have hs56 : w53.cell? ⟨gb406, 1, none⟩ = some (.int .i64 x407001_2) := (blk_cell BK406.out 1).trans rfl
       have hfs56 := blk_frozen BK406.out 1
       refine skip_ (w1 := ?_) (by rfl) rfl ?_ ?_
       rotate_left
       ·go_simp
        rfl
       refine hK.out _ _ ?_
       clear hK K
       refine done_ (by kernel_rfl) ?_
       have hnb57 := NB407_406.out
       have hnc57 := NB406_407.out
       obtain ⟨hcz58_0, hcz58_1, hcz58_2⟩ := kc3 BK407
       obtain ⟨hfz58_0, hfz58_1, hfz58_2⟩ := kf3 BK407
       try go_wp2
       go_loopg [15, 16] k2 (fun kq v15 v16 w' => ∃ (x15_3 : Int) (x16_3 : Int) (x408000_3 : Int) (x408001_3 : Int) (x408002_3 : Int), v15 = .int .i64 x15_3 ∧ v16 = .int .i64 x16_3 ∧ Aside0 (gaiterlaw07_XorBack.l1 kq l1 l3 t401 x15_3 x16_3 t426 t429 x408000_3 x408001_3 x408002_3 = some r) ∧ Aside0 (kq ≤ k2) ∧ Aside0 (Kd.R (Kd.int .u8) 5 w' w.heap.size (fun _ => True) (.slice Ao54 t426.length co54) t426) ∧ Aside0 (w'.heap[gb406]? = some (.cells #[(.slice Ao54 t426.length co54), .int .i64 t429] 31 (0, 0))) ∧ Aside0 (w'.heap[gb407]? = some (.cells #[.int .u64 x408000_3, .int .i64 x408001_3, .int .i64 x408002_3] 24 (0, 0))) ∧ Aside0 (Below w.heap.size w w'))
       case atStart => exact ⟨((l0.length : Int)), (0), (0), (0), (0), (by first | rfl | (simp; done) | (simp [*]; done)), (by first | rfl | (simp; done) | (simp [*]; done)), H', ⟨Nat.le_refl _⟩, ⟨by (with_reducible repeat (first | apply Kd.R_alloc | apply Kd.R_drewN | apply Kd.R_drew)); exact Kd.R_mono (Kd.R_far (p := ⟨gb407, 2, none⟩) (Kd.R_far (p := ⟨gb407, 1, none⟩) (Kd.R_far (p := ⟨gb407, 0, none⟩) (Kd.R_far (p := ⟨gb406, 1, none⟩) (Kd.R_far (p := ⟨gb406, 0, none⟩) (Kd.R_types (Kd.R_types HO428.out BK406.out (by decide)) BK407.out (by decide)) (fun _ hk => hk.1.2) (.slice Ao54 t426.length co54)) (fun _ hk => hk.1.2) (.int .i64 t429)) (fun _ hk => hk.2) (.int .u64 0)) (fun _ hk => hk.2) (.int .i64 0)) (fun _ hk => hk.2) (.int .i64 0)) (fun _ hk => trivial)⟩, ⟨by (with_reducible repeat (first | refine blk_drewN ?_ _ | refine blk_drew ?_ | refine blk_alloc ?_ _)); refine blk_far ?_ NB406_407.out _; (with_reducible repeat (first | refine blk_drewN ?_ _ | refine blk_drew ?_ | refine blk_alloc ?_ _)); refine blk_far ?_ NB406_407.out _; (with_reducible repeat (first | refine blk_drewN ?_ _ | refine blk_drew ?_ | refine blk_alloc ?_ _)); refine blk_far ?_ NB406_407.out _; (with_reducible repeat (first | refine blk_drewN ?_ _ | refine blk_drew ?_ | refine blk_alloc ?_ _)); refine blk_put (cs := #[.slice Ao54 t426.length co54, .int .i64 x407001_2]) ?_ 1 _ rfl; (with_reducible repeat (first | refine blk_drewN ?_ _ | refine blk_drew ?_ | refine blk_alloc ?_ _)); refine blk_put (cs := #[.slice Ao51 x407000_2.length co51, .int .i64 x407001_2]) ?_ 0 _ rfl; (with_reducible repeat (first | refine blk_drewN ?_ _ | refine blk_drew ?_ | refine blk_alloc ?_ _)); exact BK406.out⟩, ⟨by (with_reducible repeat (first | refine blk_drewN ?_ _ | refine blk_drew ?_ | refine blk_alloc ?_ _)); refine blk_put (cs := #[.int .u64 0, .int .i64 0, .int .i64 x408002_2]) ?_ 2 _ rfl; (with_reducible repeat (first | refine blk_drewN ?_ _ | refine blk_drew ?_ | refine blk_alloc ?_ _)); refine blk_put (cs := #[.int .u64 0, .int .i64 x408001_2, .int .i64 x408002_2]) ?_ 1 _ rfl; (with_reducible repeat (first | refine blk_drewN ?_ _ | refine blk_drew ?_ | refine blk_alloc ?_ _)); refine blk_put (cs := #[.int .u64 x408000_2, .int .i64 x408001_2, .int .i64 x408002_2]) ?_ 0 _ rfl; (with_reducible repeat (first | refine blk_drewN ?_ _ | refine blk_drew ?_ | refine blk_alloc ?_ _)); refine blk_far ?_ NB407_406.out _; (with_reducible repeat (first | refine blk_drewN ?_ _ | refine blk_drew ?_ | refine blk_alloc ?_ _)); refine blk_far ?_ NB407_406.out _; (with_reducible repeat (first | refine blk_drewN ?_ _ | refine blk_drew ?_ | refine blk_alloc ?_ _)); exact BK407.out⟩, ⟨by repeat (first | (with_reducible first | exact HB.out | apply below_alloc | apply pw_below_drewN | apply below_drew1 | refine below_set ?_ GE406.out | refine below_set ?_ GE407.out) | exact HB.out)⟩⟩
       case round =>
        clear H'
        try clear c1
        try clear c2
        try clear p2
        try clear c3
        try clear c4
        try clear c5
        try clear p6
        try clear c14
        try clear c18
        try clear c18b0
        try clear c19
        try clear c21
        try clear c22
        try clear c33
        try clear c34
        try clear c35
        try clear c37
        try clear c38
        try clear c44
        try clear c57
        try clear hcz36_0
        try clear hcz36_1
        try clear hcz39_0
        try clear hcz39_1
        try clear hcz43_0
        try clear hcz43_1
        try clear hcz45_0
        try clear hcz45_1
        try clear hcz45_2
        try clear hcz46_0
        try clear hcz46_1
        try clear hcz46_2
        try clear hcz58_0
        try clear hcz58_1
        try clear hcz58_2
        try clear hfz36_0
        try clear hfz36_1
        try clear hfz39_0
        try clear hfz39_1
        try clear hfz43_0
        try clear hfz43_1
        try clear hfz45_0
        try clear hfz45_1
        try clear hfz45_2
        try clear hfz46_0
        try clear hfz46_1
        try clear hfz46_2
        try clear hfz58_0
        try clear hfz58_1
        try clear hfz58_2
        obtain ⟨x15_3, x16_3, x408000_3, x408001_3, x408002_3, rfl, rfl, HA, HK3, HO_407000, BK406, BK407, HB⟩ := hrel
        cases gk with
        | zero => exact absurd HA.out (by simp [gaiterlaw07_XorBack.l1])
        | succ k3 =>
         have H := HA.out
         clear HA
         simp only [gaiterlaw07_XorBack.l1] at H
         by_cases c59 : x16_3 < (l1.length : Int)
         ·rw [if_pos c59] at H
          have c59b0 : decide (x16_3 < (l1.length : Int)) = true := decide_eq_true c59
          clear c59
          by_cases c60 : 0 ≤ x16_3
          ·rw [if_pos c60] at H
           have c60b0 : decide (0 ≤ x16_3) = true := decide_eq_true c60
           clear c60
           replace H := Option.bind_eq_some_iff.mp H
           obtain ⟨⟨t431, t434, t435, t436, t437⟩, A610, H⟩ := H
           replace H : ((xor_Get.f k3 x408000_3 x408001_3 x408002_3 t426 x15_3).bind fun bt440 => (if bt440.2.2.2.2.2.isNone = true then (if bt440.1 = (rd l1 x16_3) then (if (!(bt440.2.1 == t435) || (!(bt440.2.2.1 == t436) || (!(bt440.2.2.2.1 == t437)))) = true then (none) else (if bt440.2.2.2.2.1 = t434 then (if bt440.2.1 = bt440.1 then (gaiterlaw07_XorBack.l1 k3 l1 l3 t401 (wrap64 (x15_3 + bt440.2.2.2.2.1)) (wrap64 (x16_3 + 1)) t426 t429 t435 t436 t437) else (none)) else (none))) else (none)) else (none))) = some r := H
           have A61 := Aside0.mk A610
           clear A610
           replace H := Option.bind_eq_some_iff.mp H
           obtain ⟨⟨t440, t441, t442, t443, t444, t445⟩, A620, H⟩ := H
           replace H : (if t445.isNone = true then (if t440 = (rd l1 x16_3) then (if (!(t441 == t435) || (!(t442 == t436) || (!(t443 == t437)))) = true then (none) else (if t444 = t434 then (if t441 = t440 then (gaiterlaw07_XorBack.l1 k3 l1 l3 t401 (wrap64 (x15_3 + t444)) (wrap64 (x16_3 + 1)) t426 t429 t435 t436 t437) else (none)) else (none))) else (none)) else (none)) = some r := H
           have A62 := Aside0.mk A620
           clear A620
           rcases t445 with _ | q447
           ·have H1 : (if t440 = (rd l1 x16_3) then (if (!(t441 == t435) || (!(t442 == t436) || (!(t443 == t437)))) = true then (none) else (if t444 = t434 then (if t441 = t440 then (gaiterlaw07_XorBack.l1 k3 l1 l3 t401 (wrap64 (x15_3 + t444)) (wrap64 (x16_3 + 1)) t426 t429 t435 t436 t437) else (none)) else (none))) else (none)) = some r := by rw [if_pos (show (none : Option Int).isNone = true by rfl)] at H; exact H
            clear H
            have H := H1
            clear H1
            try simp only [errW_none, errW_some]
            by_cases c63 : t440 = (rd l1 x16_3)
            ·rw [if_pos c63] at H
             have c63b0 : (t440 == (rd l1 x16_3)) = true := beq_iff_eq.mpr c63
             have c63b1 : (t440 != (rd l1 x16_3)) = false := bne_eq_false_iff_eq.mpr c63
             clear c63
             by_cases c64 : (!(t441 == t435) || (!(t442 == t436) || (!(t443 == t437)))) = true
             ·rw [if_pos c64] at H
              exact absurd H (by simp)
             ·rw [if_neg c64] at H
              have c64b0 : (!(t441 == t435) || (!(t442 == t436) || (!(t443 == t437)))) = false := by simpa using c64
              clear c64
              by_cases c65 : t444 = t434
              ·rw [if_pos c65] at H
               have c65b0 : (t444 == t434) = true := beq_iff_eq.mpr c65
               have c65b1 : (t444 != t434) = false := bne_eq_false_iff_eq.mpr c65
               clear c65
               by_cases c66 : t441 = t440
               ·rw [if_pos c66] at H
                have c66b0 : (t441 == t440) = true := beq_iff_eq.mpr c66
                have c66b1 : (t441 != t440) = false := bne_eq_false_iff_eq.mpr c66
                clear c66
                have H' := Aside0.mk H
                clear H
                try go_wp2
                replace HO_407000 := Aside0.mk (Kd.R_drew HO_407000.out)
                replace BK406 := Aside0.mk (blk_drew BK406.out)
                replace BK407 := Aside0.mk (blk_drew BK407.out)
                replace HB := Aside0.mk (below_drew1 HB.out)
                have p430 : 0 ≤ (x16_3 : Int) := of_decide_eq_true (by first | (with_reducible assumption) | assumption)
                have q430 : x16_3 < (l1.length : Int) := of_decide_eq_true (by first | (with_reducible assumption) | assumption)
                obtain ⟨ad430, e430, hx430_0⟩ := Kd.at_int HR1.out x16_3 p430 q430
                have hw430_0 := hx430_0
                cases e430
                replace hx430_0 := (HB.out.cell (World.block_lt_of_cell? w _ hx430_0)).trans hx430_0
                replace p430 := eq_true p430
                (try (have q430s := q430; simp only [List.length_drop, List.length_take] at q430s; replace q430s := eq_true q430s)); replace q430 := eq_true q430
                refine start_ (n := 13) (S := fun w' => w'.cell? ⟨gb407, 0, none⟩ = some (.int .u64 x408000_3) ∧ w'.cell? ⟨gb407, 1, none⟩ = some (.int .i64 x408001_3) ∧ w'.cell? ⟨gb407, 2, none⟩ = some (.int .i64 x408002_3) ∧ w'.cell? (ad430.add (x16_3).toNat) = some (.int .u64 (rd l1 x16_3))) (ds := []) (bl 13 0) (by kernel_rfl) rfl rfl ⟨(blk_cell BK407.out 0).trans rfl, (blk_cell BK407.out 1).trans rfl, (blk_cell BK407.out 2).trans rfl, ((HB.out.cell (World.block_lt_of_cell? w _ hw430_0)).trans hw430_0)⟩ (fun hHeld => ?_); refine with_tabW gaiterlaw07_XorBack.tab18 gaiterlaw07_XorBack.bits18 (fun HT_ HW_ => ?_)
                generalize wr.drew = w67 at HO_407000 BK406 BK407 HB hx430_0 hHeld ⊢
                refine pu 1 (some 85) (bl 13 2) (h := ?_)
                refine pu 2 (some 86) (bl 13 6) (h := ?_)
                refine pu 3 (some 87) (bl 13 14) (h := ?_)
                refine ta 0 (some 84) (bl 13 15) (h := ?_)
                refine ta 4 (some 88) (bl 13 31) (h := ?_)
                refine join_ (σ := Value × Nat × Nat) 2 #[true, true, true, true, true, true, true, true, true, true, true, false, false] (fun s_ => [(89, .tuple #[.agg #[s_.1, .int .i64 t434], .agg #[.int .u64 t435, .int .i64 t436, .int .i64 t437]]), (17, .pointer (some ⟨s_.2.1, 0, none⟩)), (18, .pointer (some ⟨s_.2.2, 0, none⟩)), (83, .tuple #[.agg #[s_.1, .int .i64 t434], .agg #[.int .u64 t435, .int .i64 t436, .int .i64 t437]]), (90, .agg #[s_.1, .int .i64 t434]), (91, .agg #[.int .u64 t435, .int .i64 t436, .int .i64 t437])]) (fun s_ w' => (w'.cell? ⟨gb407, 0, none⟩ = some (.int .u64 x408000_3) ∧ w'.cell? ⟨gb407, 1, none⟩ = some (.int .i64 x408001_3) ∧ w'.cell? ⟨gb407, 2, none⟩ = some (.int .i64 x408002_3) ∧ w'.cell? (ad430.add (x16_3).toNat) = some (.int .u64 (rd l1 x16_3))) ∧ (Kd.R (Kd.int .u8) 5 w' w.heap.size (fun k_ => some k_ ≠ (.slice Ao54 t426.length co54 : Value).ownBlock) s_.1 t431) ∧ (Kd.R (Kd.int .u8) 5 w' w.heap.size (fun k_ => some k_ ≠ (s_.1 : Value).ownBlock) (.slice Ao54 t426.length co54) t426) ∧ (w'.heap[gb406]? = some (.cells #[.slice Ao54 t426.length co54, .int .i64 t429] 31 (0, 0))) ∧ (w'.heap[gb407]? = some (.cells #[.int .u64 x408000_3, .int .i64 x408001_3, .int .i64 x408002_3] 24 (0, 0))) ∧ (w'.heap[s_.2.1]? = some (.cells #[.slice none 0 0, .int .i64 0] 31 (0, 0))) ∧ (w'.heap[s_.2.2]? = some (.cells #[.int .u64 0, .int .i64 0, .int .i64 0] 24 (0, 0))) ∧ (w.heap.size ≤ s_.2.1) ∧ (w.heap.size ≤ s_.2.1) ∧ (gb406 ≠ s_.2.1) ∧ (s_.2.1 ≠ gb406) ∧ (gb407 ≠ s_.2.1) ∧ (s_.2.1 ≠ gb407) ∧ (s_.2.2 ≠ s_.2.1) ∧ (s_.2.1 ≠ s_.2.2) ∧ (w.heap.size ≤ s_.2.2) ∧ (w.heap.size ≤ s_.2.2) ∧ (gb406 ≠ s_.2.2) ∧ (s_.2.2 ≠ gb406) ∧ (gb407 ≠ s_.2.2) ∧ (s_.2.2 ≠ gb407) ∧ (Below w.heap.size w w')) ?_ ?_
                rotate_left
                ·intro hJ5_9_10
                 refine join_ (σ := Value × Nat) 3 #[true, true, true, true, true, true, true, true, true, true, false, false, false] (fun s_ => [(89, .tuple #[.agg #[s_.1, .int .i64 t434], .agg #[.int .u64 t435, .int .i64 t436, .int .i64 t437]]), (17, .pointer (some ⟨s_.2, 0, none⟩)), (83, .tuple #[.agg #[s_.1, .int .i64 t434], .agg #[.int .u64 t435, .int .i64 t436, .int .i64 t437]]), (90, .agg #[s_.1, .int .i64 t434]), (91, .agg #[.int .u64 t435, .int .i64 t436, .int .i64 t437])]) (fun s_ w' => (w'.cell? ⟨gb407, 0, none⟩ = some (.int .u64 x408000_3) ∧ w'.cell? ⟨gb407, 1, none⟩ = some (.int .i64 x408001_3) ∧ w'.cell? ⟨gb407, 2, none⟩ = some (.int .i64 x408002_3) ∧ w'.cell? (ad430.add (x16_3).toNat) = some (.int .u64 (rd l1 x16_3))) ∧ (Kd.R (Kd.int .u8) 5 w' w.heap.size (fun k_ => some k_ ≠ (.slice Ao54 t426.length co54 : Value).ownBlock) s_.1 t431) ∧ (Kd.R (Kd.int .u8) 5 w' w.heap.size (fun k_ => some k_ ≠ (s_.1 : Value).ownBlock) (.slice Ao54 t426.length co54) t426) ∧ (w'.heap[gb406]? = some (.cells #[.slice Ao54 t426.length co54, .int .i64 t429] 31 (0, 0))) ∧ (w'.heap[gb407]? = some (.cells #[.int .u64 x408000_3, .int .i64 x408001_3, .int .i64 x408002_3] 24 (0, 0))) ∧ (w'.heap[s_.2]? = some (.cells #[.slice none 0 0, .int .i64 0] 31 (0, 0))) ∧ (w.heap.size ≤ s_.2) ∧ (w.heap.size ≤ s_.2) ∧ (gb406 ≠ s_.2) ∧ (s_.2 ≠ gb406) ∧ (gb407 ≠ s_.2) ∧ (s_.2 ≠ gb407) ∧ (Below w.heap.size w w')) ?_ ?_
                 rotate_left
                 ·intro hJ5_9
                  refine join_ (σ := Value × Nat) 3 #[true, true, true, true, true, true, true, true, true, false, true, false, false] (fun s_ => [(89, .tuple #[.agg #[s_.1, .int .i64 t434], .agg #[.int .u64 t435, .int .i64 t436, .int .i64 t437]]), (18, .pointer (some ⟨s_.2, 0, none⟩)), (83, .tuple #[.agg #[s_.1, .int .i64 t434], .agg #[.int .u64 t435, .int .i64 t436, .int .i64 t437]]), (90, .agg #[s_.1, .int .i64 t434]), (91, .agg #[.int .u64 t435, .int .i64 t436, .int .i64 t437])]) (fun s_ w' => (w'.cell? ⟨gb407, 0, none⟩ = some (.int .u64 x408000_3) ∧ w'.cell? ⟨gb407, 1, none⟩ = some (.int .i64 x408001_3) ∧ w'.cell? ⟨gb407, 2, none⟩ = some (.int .i64 x408002_3) ∧ w'.cell? (ad430.add (x16_3).toNat) = some (.int .u64 (rd l1 x16_3))) ∧ (Kd.R (Kd.int .u8) 5 w' w.heap.size (fun k_ => some k_ ≠ (.slice Ao54 t426.length co54 : Value).ownBlock) s_.1 t431) ∧ (Kd.R (Kd.int .u8) 5 w' w.heap.size (fun k_ => some k_ ≠ (s_.1 : Value).ownBlock) (.slice Ao54 t426.length co54) t426) ∧ (w'.heap[gb406]? = some (.cells #[.slice Ao54 t426.length co54, .int .i64 t429] 31 (0, 0))) ∧ (w'.heap[gb407]? = some (.cells #[.int .u64 x408000_3, .int .i64 x408001_3, .int .i64 x408002_3] 24 (0, 0))) ∧ (w'.heap[s_.2]? = some (.cells #[.int .u64 0, .int .i64 0, .int .i64 0] 24 (0, 0))) ∧ (w.heap.size ≤ s_.2) ∧ (w.heap.size ≤ s_.2) ∧ (gb406 ≠ s_.2) ∧ (s_.2 ≠ gb406) ∧ (gb407 ≠ s_.2) ∧ (s_.2 ≠ gb407) ∧ (Below w.heap.size w w')) ?_ ?_
                  rotate_left
                  ·intro hJ5_10
                   refine join_ (σ := Nat × Nat) 6 #[true, true, true, true, true, false, false, false, false, true, true, false, false] (fun s_ => [(17, .pointer (some ⟨s_.1, 0, none⟩)), (18, .pointer (some ⟨s_.2, 0, none⟩))]) (fun s_ w' => (w'.cell? ⟨gb407, 0, none⟩ = some (.int .u64 x408000_3) ∧ w'.cell? ⟨gb407, 1, none⟩ = some (.int .i64 x408001_3) ∧ w'.cell? ⟨gb407, 2, none⟩ = some (.int .i64 x408002_3) ∧ w'.cell? (ad430.add (x16_3).toNat) = some (.int .u64 (rd l1 x16_3))) ∧ (Kd.R (Kd.int .u8) 5 w' w.heap.size (fun _ => True) (.slice Ao54 t426.length co54) t426) ∧ (w'.heap[gb406]? = some (.cells #[.slice Ao54 t426.length co54, .int .i64 t429] 31 (0, 0))) ∧ (w'.heap[gb407]? = some (.cells #[.int .u64 x408000_3, .int .i64 x408001_3, .int .i64 x408002_3] 24 (0, 0))) ∧ (w'.heap[s_.1]? = some (.cells #[.slice none 0 0, .int .i64 0] 31 (0, 0))) ∧ (w'.heap[s_.2]? = some (.cells #[.int .u64 0, .int .i64 0, .int .i64 0] 24 (0, 0))) ∧ (w.heap.size ≤ s_.1) ∧ (w.heap.size ≤ s_.1) ∧ (gb406 ≠ s_.1) ∧ (s_.1 ≠ gb406) ∧ (gb407 ≠ s_.1) ∧ (s_.1 ≠ gb407) ∧ (s_.2 ≠ s_.1) ∧ (s_.1 ≠ s_.2) ∧ (w.heap.size ≤ s_.2) ∧ (w.heap.size ≤ s_.2) ∧ (gb406 ≠ s_.2) ∧ (s_.2 ≠ gb406) ∧ (gb407 ≠ s_.2) ∧ (s_.2 ≠ gb407) ∧ (Below w.heap.size w w')) ?_ ?_
                   rotate_left
                   ·intro hJ9_10
                    refine join_ (σ := Value) 4 #[true, true, true, true, true, true, true, true, true, false, false, false, false] (fun s_ => [(89, .tuple #[.agg #[s_, .int .i64 t434], .agg #[.int .u64 t435, .int .i64 t436, .int .i64 t437]]), (83, .tuple #[.agg #[s_, .int .i64 t434], .agg #[.int .u64 t435, .int .i64 t436, .int .i64 t437]]), (90, .agg #[s_, .int .i64 t434]), (91, .agg #[.int .u64 t435, .int .i64 t436, .int .i64 t437])]) (fun s_ w' => (w'.cell? ⟨gb407, 0, none⟩ = some (.int .u64 x408000_3) ∧ w'.cell? ⟨gb407, 1, none⟩ = some (.int .i64 x408001_3) ∧ w'.cell? ⟨gb407, 2, none⟩ = some (.int .i64 x408002_3) ∧ w'.cell? (ad430.add (x16_3).toNat) = some (.int .u64 (rd l1 x16_3))) ∧ (Kd.R (Kd.int .u8) 5 w' w.heap.size (fun k_ => some k_ ≠ (.slice Ao54 t426.length co54 : Value).ownBlock) s_ t431) ∧ (Kd.R (Kd.int .u8) 5 w' w.heap.size (fun k_ => some k_ ≠ (s_ : Value).ownBlock) (.slice Ao54 t426.length co54) t426) ∧ (w'.heap[gb406]? = some (.cells #[.slice Ao54 t426.length co54, .int .i64 t429] 31 (0, 0))) ∧ (w'.heap[gb407]? = some (.cells #[.int .u64 x408000_3, .int .i64 x408001_3, .int .i64 x408002_3] 24 (0, 0))) ∧ (Below w.heap.size w w')) ?_ ?_
                    rotate_left
                    ·intro hJ5
                     refine join_ (σ := Nat) 7 #[true, true, true, true, true, false, false, false, false, true, false, false, false] (fun s_ => [(17, .pointer (some ⟨s_, 0, none⟩))]) (fun s_ w' => (w'.cell? ⟨gb407, 0, none⟩ = some (.int .u64 x408000_3) ∧ w'.cell? ⟨gb407, 1, none⟩ = some (.int .i64 x408001_3) ∧ w'.cell? ⟨gb407, 2, none⟩ = some (.int .i64 x408002_3) ∧ w'.cell? (ad430.add (x16_3).toNat) = some (.int .u64 (rd l1 x16_3))) ∧ (Kd.R (Kd.int .u8) 5 w' w.heap.size (fun _ => True) (.slice Ao54 t426.length co54) t426) ∧ (w'.heap[gb406]? = some (.cells #[.slice Ao54 t426.length co54, .int .i64 t429] 31 (0, 0))) ∧ (w'.heap[gb407]? = some (.cells #[.int .u64 x408000_3, .int .i64 x408001_3, .int .i64 x408002_3] 24 (0, 0))) ∧ (w'.heap[s_]? = some (.cells #[.slice none 0 0, .int .i64 0] 31 (0, 0))) ∧ (w.heap.size ≤ s_) ∧ (w.heap.size ≤ s_) ∧ (gb406 ≠ s_) ∧ (s_ ≠ gb406) ∧ (gb407 ≠ s_) ∧ (s_ ≠ gb407) ∧ (Below w.heap.size w w')) ?_ ?_
                     rotate_left
                     ·intro hJ9
                      refine join_ (σ := Nat) 7 #[true, true, true, true, true, false, false, false, false, false, true, false, false] (fun s_ => [(18, .pointer (some ⟨s_, 0, none⟩))]) (fun s_ w' => (w'.cell? ⟨gb407, 0, none⟩ = some (.int .u64 x408000_3) ∧ w'.cell? ⟨gb407, 1, none⟩ = some (.int .i64 x408001_3) ∧ w'.cell? ⟨gb407, 2, none⟩ = some (.int .i64 x408002_3) ∧ w'.cell? (ad430.add (x16_3).toNat) = some (.int .u64 (rd l1 x16_3))) ∧ (Kd.R (Kd.int .u8) 5 w' w.heap.size (fun _ => True) (.slice Ao54 t426.length co54) t426) ∧ (w'.heap[gb406]? = some (.cells #[.slice Ao54 t426.length co54, .int .i64 t429] 31 (0, 0))) ∧ (w'.heap[gb407]? = some (.cells #[.int .u64 x408000_3, .int .i64 x408001_3, .int .i64 x408002_3] 24 (0, 0))) ∧ (w'.heap[s_]? = some (.cells #[.int .u64 0, .int .i64 0, .int .i64 0] 24 (0, 0))) ∧ (w.heap.size ≤ s_) ∧ (w.heap.size ≤ s_) ∧ (gb406 ≠ s_) ∧ (s_ ≠ gb406) ∧ (gb407 ≠ s_) ∧ (s_ ≠ gb407) ∧ (Below w.heap.size w w')) ?_ ?_
                      rotate_left
                      ·intro hJ10
                       refine three_ (i := 5) (j := 9) (k := 10) (Ni := some 89) (Nj := some 17) (Nk := some 18) #[true, true, true, true, true, true, false, false, false, false, false, false, false] #[true, true, true, true, true, false, false, false, false, true, false, false, false] #[true, true, true, true, true, false, false, false, false, false, true, false, false] rfl rfl rfl rfl rfl rfl (three_of HT_.out (by kernel_rfl)) (by decide) (by decide) (by decide) (fun K hK => ?_) (fun K hK => ?_) (fun K hK => ?_)
                       ·skip
                        refine goes_ Tryd.func14 (by kernel_rfl) rfl #[.agg #[.int .u64 x408000_3, .int .i64 x408001_3, .int .i64 x408002_3], .int .u64 (rd l1 x16_3)] (by rfl) rfl rfl km ?_
                        with_reducible refine (xor_Code.calls k3 x408000_3 x408001_3 x408002_3 (rd l1 x16_3) t431 t434 t435 t436 t437 _ ?side1 A61.out).mono ?_
                        (case side1 => exact TabOk.below HT.out (kl HB) (Nat.le_refl _))
                        rintro e w68 ⟨v432, rfl, ho0, hb⟩
                        refine ⟨_, rfl, ?_⟩
                        have HO433 := Aside0.mk (Kd.R_lower (Kd.R_new' ho0 (Kd.R_lt (kr HO_407000))) (below_size (kl HB)))
                        replace HO_407000 := Aside0.mk (Kd.R_elder' (kr HO_407000) (Kd.R_base ho0) hb)
                        replace BK406 := kB BK406 hb
                        replace BK407 := kB BK407 hb
                        replace HB := kH HB hb
                        (try clear hb)
                        (try clear hb2)
                        (try clear hk)
                        (try clear hi)
                        (try clear ho0)
                        refine hK.out _ _ ⟨(blk_cell BK407.out 0).trans rfl, (blk_cell BK407.out 1).trans rfl, (blk_cell BK407.out 2).trans rfl, ((HB.out.cell (World.block_lt_of_cell? w _ hw430_0)).trans hw430_0)⟩ (fun hHeld => ?_)
                        clear hK K
                        refine norm_ (a' := ?_) ?_ ?_
                        rotate_left
                        ·show Act.put _ (some 89) _ = _
                         simp only [Act.put, List.setIfInBounds_toArray, List.set_cons_zero, List.set_cons_succ, i64_w, i32_w]
                         rfl
                        refine pu 6 (some 83) (bl 13 127) (h := ?_)
                        refine pu 7 (some 90) (bl 13 255) (h := ?_)
                        refine pu 8 (some 91) (bl 13 511) (h := ?_)
                        exact norm_ (by first | (simp only [putAll, Act.put, List.setIfInBounds_toArray, List.set_cons_zero, List.set_cons_succ]; done) | (simp only [putAll, Act.put, List.setIfInBounds_toArray, List.set_cons_zero, List.set_cons_succ]; rfl)) (hJ5 (v432) _ ⟨hHeld, (by (with_reducible repeat (first | apply Kd.R_alloc | apply Kd.R_drewN | apply Kd.R_drew)); exact Kd.R_mono HO433.out (fun _ hk => hk.2)), (by (with_reducible repeat (first | apply Kd.R_alloc | apply Kd.R_drewN | apply Kd.R_drew)); exact Kd.R_mono HO_407000.out (fun _ hk => hk.2)), (kb BK406), (kb BK407), (kl HB)⟩)
                       ·skip
                        refine box_step ?hg (N := 17) ?hd (cs := #[.slice none 0 0, .int .i64 0]) (t := 31) ?hr ?_; (case hd => rfl); (case hg => rfl); (case hr => first | (go_simp; done) | (go_simp; rfl))
                        intro gb438 hg w68 hbox hb
                        replace HO_407000 := Aside0.mk (Kd.R_below (kr HO_407000) hb)
                        have BK438 := Aside0.mk (hbox)
                        have GW438 := kG hg HB
                        have GE438 := kG hg HB
                        replace HB := kH HB hb
                        obtain ⟨NB406_438, NB438_406⟩ := kN hg BK406
                        replace BK406 := kB BK406 hb
                        obtain ⟨NB407_438, NB438_407⟩ := kN hg BK407
                        replace BK407 := kB BK407 hb
                        clear hb hbox hg
                        refine hK.out _ _ ⟨(blk_cell BK407.out 0).trans rfl, (blk_cell BK407.out 1).trans rfl, (blk_cell BK407.out 2).trans rfl, ((HB.out.cell (World.block_lt_of_cell? w _ hw430_0)).trans hw430_0)⟩ (fun hHeld => ?_)
                        clear hK K
                        refine norm_ (a' := ?_) ?_ ?_
                        rotate_left
                        ·show Act.put _ (some 17) _ = _
                         simp only [Act.put, List.setIfInBounds_toArray, List.set_cons_zero, List.set_cons_succ, i64_w, i32_w]
                         rfl
                        exact norm_ (by first | (simp only [putAll, Act.put, List.setIfInBounds_toArray, List.set_cons_zero, List.set_cons_succ]; done) | (simp only [putAll, Act.put, List.setIfInBounds_toArray, List.set_cons_zero, List.set_cons_succ]; rfl)) (hJ9 (gb438) _ ⟨hHeld, (kr HO_407000), (kb BK406), (kb BK407), (kb BK438), GW438.out, GE438.out, NB406_438.out, NB438_406.out, NB407_438.out, NB438_407.out, (kl HB)⟩)
                       ·skip
                        refine box_step ?hg (N := 18) ?hd (cs := #[.int .u64 0, .int .i64 0, .int .i64 0]) (t := 24) ?hr ?_; (case hd => rfl); (case hg => rfl); (case hr => first | (go_simp; done) | (go_simp; rfl))
                        intro gb439 hg w68 hbox hb
                        replace HO_407000 := Aside0.mk (Kd.R_below (kr HO_407000) hb)
                        have BK439 := Aside0.mk (hbox)
                        have GW439 := kG hg HB
                        have GE439 := kG hg HB
                        replace HB := kH HB hb
                        obtain ⟨NB406_439, NB439_406⟩ := kN hg BK406
                        replace BK406 := kB BK406 hb
                        obtain ⟨NB407_439, NB439_407⟩ := kN hg BK407
                        replace BK407 := kB BK407 hb
                        clear hb hbox hg
                        refine hK.out _ _ ⟨(blk_cell BK407.out 0).trans rfl, (blk_cell BK407.out 1).trans rfl, (blk_cell BK407.out 2).trans rfl, ((HB.out.cell (World.block_lt_of_cell? w _ hw430_0)).trans hw430_0)⟩ (fun hHeld => ?_)
                        clear hK K
                        refine norm_ (a' := ?_) ?_ ?_
                        rotate_left
                        ·show Act.put _ (some 18) _ = _
                         simp only [Act.put, List.setIfInBounds_toArray, List.set_cons_zero, List.set_cons_succ, i64_w, i32_w]
                         rfl
                        exact norm_ (by first | (simp only [putAll, Act.put, List.setIfInBounds_toArray, List.set_cons_zero, List.set_cons_succ]; done) | (simp only [putAll, Act.put, List.setIfInBounds_toArray, List.set_cons_zero, List.set_cons_succ]; rfl)) (hJ10 (gb439) _ ⟨hHeld, (kr HO_407000), (kb BK406), (kb BK407), (kb BK439), GW439.out, GE439.out, NB406_439.out, NB439_406.out, NB407_439.out, NB439_407.out, (kl HB)⟩)
                      ·skip
                       rintro gb439 w69 ⟨hS_, h0_, h1_, h2_, h3_, h4_, h5_, h6_, h7_, h8_, h9_, h10_⟩
                       have n0_ : Aside0 (Kd.R (Kd.int .u8) 5 w69 w.heap.size (fun _ => True) (.slice Ao54 t426.length co54) t426) := ⟨h0_⟩
                       have n1_ : Aside0 (w69.heap[gb406]? = some (.cells #[.slice Ao54 t426.length co54, .int .i64 t429] 31 (0, 0))) := ⟨h1_⟩
                       have n2_ : Aside0 (w69.heap[gb407]? = some (.cells #[.int .u64 x408000_3, .int .i64 x408001_3, .int .i64 x408002_3] 24 (0, 0))) := ⟨h2_⟩
                       have n3_ : Aside0 (w69.heap[gb439]? = some (.cells #[.int .u64 0, .int .i64 0, .int .i64 0] 24 (0, 0))) := ⟨h3_⟩
                       have n4_ : Aside0 (w.heap.size ≤ gb439) := ⟨h4_⟩
                       have n5_ : Aside0 (w.heap.size ≤ gb439) := ⟨h5_⟩
                       have n6_ : Aside0 (gb406 ≠ gb439) := ⟨h6_⟩
                       have n7_ : Aside0 (gb439 ≠ gb406) := ⟨h7_⟩
                       have n8_ : Aside0 (gb407 ≠ gb439) := ⟨h8_⟩
                       have n9_ : Aside0 (gb439 ≠ gb407) := ⟨h9_⟩
                       have n10_ : Aside0 (Below w.heap.size w w69) := ⟨h10_⟩
                       clear HO_407000
                       clear BK406
                       clear BK407
                       clear HB
                       clear h0_ h1_ h2_ h3_ h4_ h5_ h6_ h7_ h8_ h9_ h10_
                       have HO_407000 := n0_
                       have BK406 := n1_
                       have BK407 := n2_
                       have BK439 := n3_
                       have GW439 := n4_
                       have GE439 := n5_
                       have NB406_439 := n6_
                       have NB439_406 := n7_
                       have NB407_439 := n8_
                       have NB439_407 := n9_
                       have HB := n10_
                       clear n0_ n1_ n2_ n3_ n4_ n5_ n6_ n7_ n8_ n9_ n10_
                       have hHeld : w69.cell? ⟨gb407, 0, none⟩ = some (.int .u64 x408000_3) ∧ w69.cell? ⟨gb407, 1, none⟩ = some (.int .i64 x408001_3) ∧ w69.cell? ⟨gb407, 2, none⟩ = some (.int .i64 x408002_3) ∧ w69.cell? (ad430.add (x16_3).toNat) = some (.int .u64 (rd l1 x16_3)) := hS_
                       refine norm_ (a' := ?_) ?_ ?_
                       rotate_left
                       ·simp only [putAll, Act.put, List.setIfInBounds_toArray, List.set_cons_zero, List.set_cons_succ]
                        rfl
                       refine two_ (i := 5) (j := 9) (Ni := some 89) (Nj := some 17) #[true, true, true, true, true, true, false, false, false, false, true, false, false] #[true, true, true, true, true, false, false, false, false, true, true, false, false] rfl rfl rfl rfl (two_of HT_.out (by kernel_rfl)) (by decide) (by decide) (fun K hK => ?_) (fun K hK => ?_)
                       ·skip
                        refine goes_ Tryd.func14 (by kernel_rfl) rfl #[.agg #[.int .u64 x408000_3, .int .i64 x408001_3, .int .i64 x408002_3], .int .u64 (rd l1 x16_3)] (by rfl) rfl rfl km ?_
                        with_reducible refine (xor_Code.calls k3 x408000_3 x408001_3 x408002_3 (rd l1 x16_3) t431 t434 t435 t436 t437 _ ?side1 A61.out).mono ?_
                        (case side1 => exact TabOk.below HT.out (kl HB) (Nat.le_refl _))
                        rintro e w70 ⟨v432, rfl, ho0, hb⟩
                        refine ⟨_, rfl, ?_⟩
                        have HO433 := Aside0.mk (Kd.R_lower (Kd.R_new' ho0 (Kd.R_lt (kr HO_407000))) (below_size (kl HB)))
                        replace HO_407000 := Aside0.mk (Kd.R_elder' (kr HO_407000) (Kd.R_base ho0) hb)
                        replace BK406 := kB BK406 hb
                        replace BK407 := kB BK407 hb
                        replace BK439 := kB BK439 hb
                        replace HB := kH HB hb
                        (try clear hb)
                        (try clear hb2)
                        (try clear hk)
                        (try clear hi)
                        (try clear ho0)
                        refine hK.out _ _ ⟨(blk_cell BK407.out 0).trans rfl, (blk_cell BK407.out 1).trans rfl, (blk_cell BK407.out 2).trans rfl, ((HB.out.cell (World.block_lt_of_cell? w _ hw430_0)).trans hw430_0)⟩ (fun hHeld => ?_)
                        clear hK K
                        refine norm_ (a' := ?_) ?_ ?_
                        rotate_left
                        ·show Act.put _ (some 89) _ = _
                         simp only [Act.put, List.setIfInBounds_toArray, List.set_cons_zero, List.set_cons_succ, i64_w, i32_w]
                         rfl
                        refine pu 6 (some 83) (bl 13 1151) (h := ?_)
                        refine pu 7 (some 90) (bl 13 1279) (h := ?_)
                        refine pu 8 (some 91) (bl 13 1535) (h := ?_)
                        exact norm_ (by first | (simp only [putAll, Act.put, List.setIfInBounds_toArray, List.set_cons_zero, List.set_cons_succ]; done) | (simp only [putAll, Act.put, List.setIfInBounds_toArray, List.set_cons_zero, List.set_cons_succ]; rfl)) (hJ5_10 (v432, gb439) _ ⟨hHeld, (by (with_reducible repeat (first | apply Kd.R_alloc | apply Kd.R_drewN | apply Kd.R_drew)); exact Kd.R_mono HO433.out (fun _ hk => hk.2)), (by (with_reducible repeat (first | apply Kd.R_alloc | apply Kd.R_drewN | apply Kd.R_drew)); exact Kd.R_mono HO_407000.out (fun _ hk => hk.2)), (kb BK406), (kb BK407), (kb BK439), GW439.out, GE439.out, NB406_439.out, NB439_406.out, NB407_439.out, NB439_407.out, (kl HB)⟩)
                       ·skip
                        refine box_step ?hg (N := 17) ?hd (cs := #[.slice none 0 0, .int .i64 0]) (t := 31) ?hr ?_; (case hd => rfl); (case hg => rfl); (case hr => first | (go_simp; done) | (go_simp; rfl))
                        intro gb438 hg w70 hbox hb
                        replace HO_407000 := Aside0.mk (Kd.R_below (kr HO_407000) hb)
                        have BK438 := Aside0.mk (hbox)
                        have GW438 := kG hg HB
                        have GE438 := kG hg HB
                        replace HB := kH HB hb
                        obtain ⟨NB406_438, NB438_406⟩ := kN hg BK406
                        replace BK406 := kB BK406 hb
                        obtain ⟨NB407_438, NB438_407⟩ := kN hg BK407
                        replace BK407 := kB BK407 hb
                        obtain ⟨NB439_438, NB438_439⟩ := kN hg BK439
                        replace BK439 := kB BK439 hb
                        clear hb hbox hg
                        refine hK.out _ _ ⟨(blk_cell BK407.out 0).trans rfl, (blk_cell BK407.out 1).trans rfl, (blk_cell BK407.out 2).trans rfl, ((HB.out.cell (World.block_lt_of_cell? w _ hw430_0)).trans hw430_0)⟩ (fun hHeld => ?_)
                        clear hK K
                        refine norm_ (a' := ?_) ?_ ?_
                        rotate_left
                        ·show Act.put _ (some 17) _ = _
                         simp only [Act.put, List.setIfInBounds_toArray, List.set_cons_zero, List.set_cons_succ, i64_w, i32_w]
                         rfl
                        exact norm_ (by first | (simp only [putAll, Act.put, List.setIfInBounds_toArray, List.set_cons_zero, List.set_cons_succ]; done) | (simp only [putAll, Act.put, List.setIfInBounds_toArray, List.set_cons_zero, List.set_cons_succ]; rfl)) (hJ9_10 (gb438, gb439) _ ⟨hHeld, (kr HO_407000), (kb BK406), (kb BK407), (kb BK438), (kb BK439), GW438.out, GE438.out, NB406_438.out, NB438_406.out, NB407_438.out, NB438_407.out, NB439_438.out, NB438_439.out, GW439.out, GE439.out, NB406_439.out, NB439_406.out, NB407_439.out, NB439_407.out, (kl HB)⟩)
                     ·skip
                      rintro gb438 w69 ⟨hS_, h0_, h1_, h2_, h3_, h4_, h5_, h6_, h7_, h8_, h9_, h10_⟩
                      have n0_ : Aside0 (Kd.R (Kd.int .u8) 5 w69 w.heap.size (fun _ => True) (.slice Ao54 t426.length co54) t426) := ⟨h0_⟩
                      have n1_ : Aside0 (w69.heap[gb406]? = some (.cells #[.slice Ao54 t426.length co54, .int .i64 t429] 31 (0, 0))) := ⟨h1_⟩
                      have n2_ : Aside0 (w69.heap[gb407]? = some (.cells #[.int .u64 x408000_3, .int .i64 x408001_3, .int .i64 x408002_3] 24 (0, 0))) := ⟨h2_⟩
                      have n3_ : Aside0 (w69.heap[gb438]? = some (.cells #[.slice none 0 0, .int .i64 0] 31 (0, 0))) := ⟨h3_⟩
                      have n4_ : Aside0 (w.heap.size ≤ gb438) := ⟨h4_⟩
                      have n5_ : Aside0 (w.heap.size ≤ gb438) := ⟨h5_⟩
                      have n6_ : Aside0 (gb406 ≠ gb438) := ⟨h6_⟩
                      have n7_ : Aside0 (gb438 ≠ gb406) := ⟨h7_⟩
                      have n8_ : Aside0 (gb407 ≠ gb438) := ⟨h8_⟩
                      have n9_ : Aside0 (gb438 ≠ gb407) := ⟨h9_⟩
                      have n10_ : Aside0 (Below w.heap.size w w69) := ⟨h10_⟩
                      clear HO_407000
                      clear BK406
                      clear BK407
                      clear HB
                      clear h0_ h1_ h2_ h3_ h4_ h5_ h6_ h7_ h8_ h9_ h10_
                      have HO_407000 := n0_
                      have BK406 := n1_
                      have BK407 := n2_
                      have BK438 := n3_
                      have GW438 := n4_
                      have GE438 := n5_
                      have NB406_438 := n6_
                      have NB438_406 := n7_
                      have NB407_438 := n8_
                      have NB438_407 := n9_
                      have HB := n10_
                      clear n0_ n1_ n2_ n3_ n4_ n5_ n6_ n7_ n8_ n9_ n10_
                      have hHeld : w69.cell? ⟨gb407, 0, none⟩ = some (.int .u64 x408000_3) ∧ w69.cell? ⟨gb407, 1, none⟩ = some (.int .i64 x408001_3) ∧ w69.cell? ⟨gb407, 2, none⟩ = some (.int .i64 x408002_3) ∧ w69.cell? (ad430.add (x16_3).toNat) = some (.int .u64 (rd l1 x16_3)) := hS_
                      refine norm_ (a' := ?_) ?_ ?_
                      rotate_left
                      ·simp only [putAll, Act.put, List.setIfInBounds_toArray, List.set_cons_zero, List.set_cons_succ]
                       rfl
                      refine two_ (i := 5) (j := 10) (Ni := some 89) (Nj := some 18) #[true, true, true, true, true, true, false, false, false, true, false, false, false] #[true, true, true, true, true, false, false, false, false, true, true, false, false] rfl rfl rfl rfl (two_of HT_.out (by kernel_rfl)) (by decide) (by decide) (fun K hK => ?_) (fun K hK => ?_)
                      ·skip
                       refine goes_ Tryd.func14 (by kernel_rfl) rfl #[.agg #[.int .u64 x408000_3, .int .i64 x408001_3, .int .i64 x408002_3], .int .u64 (rd l1 x16_3)] (by rfl) rfl rfl km ?_
                       with_reducible refine (xor_Code.calls k3 x408000_3 x408001_3 x408002_3 (rd l1 x16_3) t431 t434 t435 t436 t437 _ ?side1 A61.out).mono ?_
                       (case side1 => exact TabOk.below HT.out (kl HB) (Nat.le_refl _))
                       rintro e w70 ⟨v432, rfl, ho0, hb⟩
                       refine ⟨_, rfl, ?_⟩
                       have HO433 := Aside0.mk (Kd.R_lower (Kd.R_new' ho0 (Kd.R_lt (kr HO_407000))) (below_size (kl HB)))
                       replace HO_407000 := Aside0.mk (Kd.R_elder' (kr HO_407000) (Kd.R_base ho0) hb)
                       replace BK406 := kB BK406 hb
                       replace BK407 := kB BK407 hb
                       replace BK438 := kB BK438 hb
                       replace HB := kH HB hb
                       (try clear hb)
                       (try clear hb2)
                       (try clear hk)
                       (try clear hi)
                       (try clear ho0)
                       refine hK.out _ _ ⟨(blk_cell BK407.out 0).trans rfl, (blk_cell BK407.out 1).trans rfl, (blk_cell BK407.out 2).trans rfl, ((HB.out.cell (World.block_lt_of_cell? w _ hw430_0)).trans hw430_0)⟩ (fun hHeld => ?_)
                       clear hK K
                       refine norm_ (a' := ?_) ?_ ?_
                       rotate_left
                       ·show Act.put _ (some 89) _ = _
                        simp only [Act.put, List.setIfInBounds_toArray, List.set_cons_zero, List.set_cons_succ, i64_w, i32_w]
                        rfl
                       refine pu 6 (some 83) (bl 13 639) (h := ?_)
                       refine pu 7 (some 90) (bl 13 767) (h := ?_)
                       refine pu 8 (some 91) (bl 13 1023) (h := ?_)
                       exact norm_ (by first | (simp only [putAll, Act.put, List.setIfInBounds_toArray, List.set_cons_zero, List.set_cons_succ]; done) | (simp only [putAll, Act.put, List.setIfInBounds_toArray, List.set_cons_zero, List.set_cons_succ]; rfl)) (hJ5_9 (v432, gb438) _ ⟨hHeld, (by (with_reducible repeat (first | apply Kd.R_alloc | apply Kd.R_drewN | apply Kd.R_drew)); exact Kd.R_mono HO433.out (fun _ hk => hk.2)), (by (with_reducible repeat (first | apply Kd.R_alloc | apply Kd.R_drewN | apply Kd.R_drew)); exact Kd.R_mono HO_407000.out (fun _ hk => hk.2)), (kb BK406), (kb BK407), (kb BK438), GW438.out, GE438.out, NB406_438.out, NB438_406.out, NB407_438.out, NB438_407.out, (kl HB)⟩)
                      ·skip
                       refine box_step ?hg (N := 18) ?hd (cs := #[.int .u64 0, .int .i64 0, .int .i64 0]) (t := 24) ?hr ?_; (case hd => rfl); (case hg => rfl); (case hr => first | (go_simp; done) | (go_simp; rfl))
                       intro gb439 hg w70 hbox hb
                       replace HO_407000 := Aside0.mk (Kd.R_below (kr HO_407000) hb)
                       have BK439 := Aside0.mk (hbox)
                       have GW439 := kG hg HB
                       have GE439 := kG hg HB
                       replace HB := kH HB hb
                       obtain ⟨NB406_439, NB439_406⟩ := kN hg BK406
                       replace BK406 := kB BK406 hb
                       obtain ⟨NB407_439, NB439_407⟩ := kN hg BK407
                       replace BK407 := kB BK407 hb
                       obtain ⟨NB438_439, NB439_438⟩ := kN hg BK438
                       replace BK438 := kB BK438 hb
                       clear hb hbox hg
                       refine hK.out _ _ ⟨(blk_cell BK407.out 0).trans rfl, (blk_cell BK407.out 1).trans rfl, (blk_cell BK407.out 2).trans rfl, ((HB.out.cell (World.block_lt_of_cell? w _ hw430_0)).trans hw430_0)⟩ (fun hHeld => ?_)
                       clear hK K
                       refine norm_ (a' := ?_) ?_ ?_
                       rotate_left
                       ·show Act.put _ (some 18) _ = _
                        simp only [Act.put, List.setIfInBounds_toArray, List.set_cons_zero, List.set_cons_succ, i64_w, i32_w]
                        rfl
                       exact norm_ (by first | (simp only [putAll, Act.put, List.setIfInBounds_toArray, List.set_cons_zero, List.set_cons_succ]; done) | (simp only [putAll, Act.put, List.setIfInBounds_toArray, List.set_cons_zero, List.set_cons_succ]; rfl)) (hJ9_10 (gb438, gb439) _ ⟨hHeld, (kr HO_407000), (kb BK406), (kb BK407), (kb BK438), (kb BK439), GW438.out, GE438.out, NB406_438.out, NB438_406.out, NB407_438.out, NB438_407.out, NB439_438.out, NB438_439.out, GW439.out, GE439.out, NB406_439.out, NB439_406.out, NB407_439.out, NB439_407.out, (kl HB)⟩)
                    ·skip
                     rintro v432 w69 ⟨hS_, h0_, h1_, h2_, h3_, h4_⟩
                     have n0_ : Aside0 (Kd.R (Kd.int .u8) 5 w69 w.heap.size (fun k_ => some k_ ≠ (.slice Ao54 t426.length co54 : Value).ownBlock) v432 t431) := ⟨h0_⟩
                     have n1_ : Aside0 (Kd.R (Kd.int .u8) 5 w69 w.heap.size (fun k_ => some k_ ≠ (v432 : Value).ownBlock) (.slice Ao54 t426.length co54) t426) := ⟨h1_⟩
                     have n2_ : Aside0 (w69.heap[gb406]? = some (.cells #[.slice Ao54 t426.length co54, .int .i64 t429] 31 (0, 0))) := ⟨h2_⟩
                     have n3_ : Aside0 (w69.heap[gb407]? = some (.cells #[.int .u64 x408000_3, .int .i64 x408001_3, .int .i64 x408002_3] 24 (0, 0))) := ⟨h3_⟩
                     have n4_ : Aside0 (Below w.heap.size w w69) := ⟨h4_⟩
                     clear HO_407000
                     clear BK406
                     clear BK407
                     clear HB
                     clear h0_ h1_ h2_ h3_ h4_
                     have HO433 := n0_
                     have HO_407000 := n1_
                     have BK406 := n2_
                     have BK407 := n3_
                     have HB := n4_
                     clear n0_ n1_ n2_ n3_ n4_
                     have hHeld : w69.cell? ⟨gb407, 0, none⟩ = some (.int .u64 x408000_3) ∧ w69.cell? ⟨gb407, 1, none⟩ = some (.int .i64 x408001_3) ∧ w69.cell? ⟨gb407, 2, none⟩ = some (.int .i64 x408002_3) ∧ w69.cell? (ad430.add (x16_3).toNat) = some (.int .u64 (rd l1 x16_3)) := hS_
                     refine norm_ (a' := ?_) ?_ ?_
                     rotate_left
                     ·simp only [putAll, Act.put, List.setIfInBounds_toArray, List.set_cons_zero, List.set_cons_succ]
                      rfl
                     refine two_ (i := 9) (j := 10) (Ni := some 17) (Nj := some 18) #[true, true, true, true, true, true, true, true, true, true, false, false, false] #[true, true, true, true, true, true, true, true, true, false, true, false, false] rfl rfl rfl rfl (two_of HT_.out (by kernel_rfl)) (by decide) (by decide) (fun K hK => ?_) (fun K hK => ?_)
                     ·skip
                      refine box_step ?hg (N := 17) ?hd (cs := #[.slice none 0 0, .int .i64 0]) (t := 31) ?hr ?_; (case hd => rfl); (case hg => rfl); (case hr => first | (go_simp; done) | (go_simp; rfl))
                      intro gb438 hg w70 hbox hb
                      replace HO_407000 := Aside0.mk (Kd.R_below (kr HO_407000) hb)
                      replace HO433 := Aside0.mk (Kd.R_below (kr HO433) hb)
                      have BK438 := Aside0.mk (hbox)
                      have GW438 := kG hg HB
                      have GE438 := kG hg HB
                      replace HB := kH HB hb
                      obtain ⟨NB406_438, NB438_406⟩ := kN hg BK406
                      replace BK406 := kB BK406 hb
                      obtain ⟨NB407_438, NB438_407⟩ := kN hg BK407
                      replace BK407 := kB BK407 hb
                      clear hb hbox hg
                      refine hK.out _ _ ⟨(blk_cell BK407.out 0).trans rfl, (blk_cell BK407.out 1).trans rfl, (blk_cell BK407.out 2).trans rfl, ((HB.out.cell (World.block_lt_of_cell? w _ hw430_0)).trans hw430_0)⟩ (fun hHeld => ?_)
                      clear hK K
                      refine norm_ (a' := ?_) ?_ ?_
                      rotate_left
                      ·show Act.put _ (some 17) _ = _
                       simp only [Act.put, List.setIfInBounds_toArray, List.set_cons_zero, List.set_cons_succ, i64_w, i32_w]
                       rfl
                      exact norm_ (by first | (simp only [putAll, Act.put, List.setIfInBounds_toArray, List.set_cons_zero, List.set_cons_succ]; done) | (simp only [putAll, Act.put, List.setIfInBounds_toArray, List.set_cons_zero, List.set_cons_succ]; rfl)) (hJ5_9 (v432, gb438) _ ⟨hHeld, (kr HO433), (kr HO_407000), (kb BK406), (kb BK407), (kb BK438), GW438.out, GE438.out, NB406_438.out, NB438_406.out, NB407_438.out, NB438_407.out, (kl HB)⟩)
                     ·skip
                      refine box_step ?hg (N := 18) ?hd (cs := #[.int .u64 0, .int .i64 0, .int .i64 0]) (t := 24) ?hr ?_; (case hd => rfl); (case hg => rfl); (case hr => first | (go_simp; done) | (go_simp; rfl))
                      intro gb439 hg w70 hbox hb
                      replace HO_407000 := Aside0.mk (Kd.R_below (kr HO_407000) hb)
                      replace HO433 := Aside0.mk (Kd.R_below (kr HO433) hb)
                      have BK439 := Aside0.mk (hbox)
                      have GW439 := kG hg HB
                      have GE439 := kG hg HB
                      replace HB := kH HB hb
                      obtain ⟨NB406_439, NB439_406⟩ := kN hg BK406
                      replace BK406 := kB BK406 hb
                      obtain ⟨NB407_439, NB439_407⟩ := kN hg BK407
                      replace BK407 := kB BK407 hb
                      clear hb hbox hg
                      refine hK.out _ _ ⟨(blk_cell BK407.out 0).trans rfl, (blk_cell BK407.out 1).trans rfl, (blk_cell BK407.out 2).trans rfl, ((HB.out.cell (World.block_lt_of_cell? w _ hw430_0)).trans hw430_0)⟩ (fun hHeld => ?_)
                      clear hK K
                      refine norm_ (a' := ?_) ?_ ?_
                      rotate_left
                      ·show Act.put _ (some 18) _ = _
                       simp only [Act.put, List.setIfInBounds_toArray, List.set_cons_zero, List.set_cons_succ, i64_w, i32_w]
                       rfl
                      exact norm_ (by first | (simp only [putAll, Act.put, List.setIfInBounds_toArray, List.set_cons_zero, List.set_cons_succ]; done) | (simp only [putAll, Act.put, List.setIfInBounds_toArray, List.set_cons_zero, List.set_cons_succ]; rfl)) (hJ5_10 (v432, gb439) _ ⟨hHeld, (kr HO433), (kr HO_407000), (kb BK406), (kb BK407), (kb BK439), GW439.out, GE439.out, NB406_439.out, NB439_406.out, NB407_439.out, NB439_407.out, (kl HB)⟩)
                   ·skip
                    rintro ⟨gb438, gb439⟩ w70 ⟨hS_, h0_, h1_, h2_, h3_, h4_, h5_, h6_, h7_, h8_, h9_, h10_, h11_, h12_, h13_, h14_, h15_, h16_, h17_, h18_, h19_⟩
                    have n0_ : Aside0 (Kd.R (Kd.int .u8) 5 w70 w.heap.size (fun _ => True) (.slice Ao54 t426.length co54) t426) := ⟨h0_⟩
                    have n1_ : Aside0 (w70.heap[gb406]? = some (.cells #[.slice Ao54 t426.length co54, .int .i64 t429] 31 (0, 0))) := ⟨h1_⟩
                    have n2_ : Aside0 (w70.heap[gb407]? = some (.cells #[.int .u64 x408000_3, .int .i64 x408001_3, .int .i64 x408002_3] 24 (0, 0))) := ⟨h2_⟩
                    have n3_ : Aside0 (w70.heap[gb438]? = some (.cells #[.slice none 0 0, .int .i64 0] 31 (0, 0))) := ⟨h3_⟩
                    have n4_ : Aside0 (w70.heap[gb439]? = some (.cells #[.int .u64 0, .int .i64 0, .int .i64 0] 24 (0, 0))) := ⟨h4_⟩
                    have n5_ : Aside0 (w.heap.size ≤ gb438) := ⟨h5_⟩
                    have n6_ : Aside0 (w.heap.size ≤ gb438) := ⟨h6_⟩
                    have n7_ : Aside0 (gb406 ≠ gb438) := ⟨h7_⟩
                    have n8_ : Aside0 (gb438 ≠ gb406) := ⟨h8_⟩
                    have n9_ : Aside0 (gb407 ≠ gb438) := ⟨h9_⟩
                    have n10_ : Aside0 (gb438 ≠ gb407) := ⟨h10_⟩
                    have n11_ : Aside0 (gb439 ≠ gb438) := ⟨h11_⟩
                    have n12_ : Aside0 (gb438 ≠ gb439) := ⟨h12_⟩
                    have n13_ : Aside0 (w.heap.size ≤ gb439) := ⟨h13_⟩
                    have n14_ : Aside0 (w.heap.size ≤ gb439) := ⟨h14_⟩
                    have n15_ : Aside0 (gb406 ≠ gb439) := ⟨h15_⟩
                    have n16_ : Aside0 (gb439 ≠ gb406) := ⟨h16_⟩
                    have n17_ : Aside0 (gb407 ≠ gb439) := ⟨h17_⟩
                    have n18_ : Aside0 (gb439 ≠ gb407) := ⟨h18_⟩
                    have n19_ : Aside0 (Below w.heap.size w w70) := ⟨h19_⟩
                    clear HO_407000
                    clear BK406
                    clear BK407
                    clear HB
                    clear h0_ h1_ h2_ h3_ h4_ h5_ h6_ h7_ h8_ h9_ h10_ h11_ h12_ h13_ h14_ h15_ h16_ h17_ h18_ h19_
                    have HO_407000 := n0_
                    have BK406 := n1_
                    have BK407 := n2_
                    have BK438 := n3_
                    have BK439 := n4_
                    have GW438 := n5_
                    have GE438 := n6_
                    have NB406_438 := n7_
                    have NB438_406 := n8_
                    have NB407_438 := n9_
                    have NB438_407 := n10_
                    have NB439_438 := n11_
                    have NB438_439 := n12_
                    have GW439 := n13_
                    have GE439 := n14_
                    have NB406_439 := n15_
                    have NB439_406 := n16_
                    have NB407_439 := n17_
                    have NB439_407 := n18_
                    have HB := n19_
                    clear n0_ n1_ n2_ n3_ n4_ n5_ n6_ n7_ n8_ n9_ n10_ n11_ n12_ n13_ n14_ n15_ n16_ n17_ n18_ n19_
                    have hHeld : w70.cell? ⟨gb407, 0, none⟩ = some (.int .u64 x408000_3) ∧ w70.cell? ⟨gb407, 1, none⟩ = some (.int .i64 x408001_3) ∧ w70.cell? ⟨gb407, 2, none⟩ = some (.int .i64 x408002_3) ∧ w70.cell? (ad430.add (x16_3).toNat) = some (.int .u64 (rd l1 x16_3)) := hS_
                    refine norm_ (a' := ?_) ?_ ?_
                    rotate_left
                    ·simp only [putAll, Act.put, List.setIfInBounds_toArray, List.set_cons_zero, List.set_cons_succ]
                     rfl
                    refine one_ (i := 5) (N := some 89) #[true, true, true, true, true, true, false, false, false, true, true, false, false] rfl rfl (one_of HT_.out (by kernel_rfl)) (by decide) (fun K hK => ?_)
                    refine goes_ Tryd.func14 (by kernel_rfl) rfl #[.agg #[.int .u64 x408000_3, .int .i64 x408001_3, .int .i64 x408002_3], .int .u64 (rd l1 x16_3)] (by rfl) rfl rfl km ?_
                    with_reducible refine (xor_Code.calls k3 x408000_3 x408001_3 x408002_3 (rd l1 x16_3) t431 t434 t435 t436 t437 _ ?side1 A61.out).mono ?_
                    (case side1 => exact TabOk.below HT.out (kl HB) (Nat.le_refl _))
                    rintro e w71 ⟨v432, rfl, ho0, hb⟩
                    refine ⟨_, rfl, ?_⟩
                    have HO433 := Aside0.mk (Kd.R_lower (Kd.R_new' ho0 (Kd.R_lt (kr HO_407000))) (below_size (kl HB)))
                    replace HO_407000 := Aside0.mk (Kd.R_elder' (kr HO_407000) (Kd.R_base ho0) hb)
                    replace BK406 := kB BK406 hb
                    replace BK407 := kB BK407 hb
                    replace BK438 := kB BK438 hb
                    replace BK439 := kB BK439 hb
                    replace HB := kH HB hb
                    (try clear hb)
                    (try clear hb2)
                    (try clear hk)
                    (try clear hi)
                    (try clear ho0)
                    refine hK.out _ _ ⟨(blk_cell BK407.out 0).trans rfl, (blk_cell BK407.out 1).trans rfl, (blk_cell BK407.out 2).trans rfl, ((HB.out.cell (World.block_lt_of_cell? w _ hw430_0)).trans hw430_0)⟩ (fun hHeld => ?_)
                    clear hK K
                    refine norm_ (a' := ?_) ?_ ?_
                    rotate_left
                    ·show Act.put _ (some 89) _ = _
                     simp only [Act.put, List.setIfInBounds_toArray, List.set_cons_zero, List.set_cons_succ, i64_w, i32_w]
                     rfl
                    refine pu 6 (some 83) (bl 13 1663) (h := ?_)
                    refine pu 7 (some 90) (bl 13 1791) (h := ?_)
                    refine pu 8 (some 91) (bl 13 2047) (h := ?_)
                    exact norm_ (by first | (simp only [putAll, Act.put, List.setIfInBounds_toArray, List.set_cons_zero, List.set_cons_succ]; done) | (simp only [putAll, Act.put, List.setIfInBounds_toArray, List.set_cons_zero, List.set_cons_succ]; rfl)) (hJ5_9_10 (v432, gb438, gb439) _ ⟨hHeld, (by (with_reducible repeat (first | apply Kd.R_alloc | apply Kd.R_drewN | apply Kd.R_drew)); exact Kd.R_mono HO433.out (fun _ hk => hk.2)), (by (with_reducible repeat (first | apply Kd.R_alloc | apply Kd.R_drewN | apply Kd.R_drew)); exact Kd.R_mono HO_407000.out (fun _ hk => hk.2)), (kb BK406), (kb BK407), (kb BK438), (kb BK439), GW438.out, GE438.out, NB406_438.out, NB438_406.out, NB407_438.out, NB438_407.out, NB439_438.out, NB438_439.out, GW439.out, GE439.out, NB406_439.out, NB439_406.out, NB407_439.out, NB439_407.out, (kl HB)⟩)
                  ·skip
                   rintro ⟨v432, gb439⟩ w70 ⟨hS_, h0_, h1_, h2_, h3_, h4_, h5_, h6_, h7_, h8_, h9_, h10_, h11_⟩
                   have n0_ : Aside0 (Kd.R (Kd.int .u8) 5 w70 w.heap.size (fun k_ => some k_ ≠ (.slice Ao54 t426.length co54 : Value).ownBlock) v432 t431) := ⟨h0_⟩
                   have n1_ : Aside0 (Kd.R (Kd.int .u8) 5 w70 w.heap.size (fun k_ => some k_ ≠ (v432 : Value).ownBlock) (.slice Ao54 t426.length co54) t426) := ⟨h1_⟩
                   have n2_ : Aside0 (w70.heap[gb406]? = some (.cells #[.slice Ao54 t426.length co54, .int .i64 t429] 31 (0, 0))) := ⟨h2_⟩
                   have n3_ : Aside0 (w70.heap[gb407]? = some (.cells #[.int .u64 x408000_3, .int .i64 x408001_3, .int .i64 x408002_3] 24 (0, 0))) := ⟨h3_⟩
                   have n4_ : Aside0 (w70.heap[gb439]? = some (.cells #[.int .u64 0, .int .i64 0, .int .i64 0] 24 (0, 0))) := ⟨h4_⟩
                   have n5_ : Aside0 (w.heap.size ≤ gb439) := ⟨h5_⟩
                   have n6_ : Aside0 (w.heap.size ≤ gb439) := ⟨h6_⟩
                   have n7_ : Aside0 (gb406 ≠ gb439) := ⟨h7_⟩
                   have n8_ : Aside0 (gb439 ≠ gb406) := ⟨h8_⟩
                   have n9_ : Aside0 (gb407 ≠ gb439) := ⟨h9_⟩
                   have n10_ : Aside0 (gb439 ≠ gb407) := ⟨h10_⟩
                   have n11_ : Aside0 (Below w.heap.size w w70) := ⟨h11_⟩
                   clear HO_407000
                   clear BK406
                   clear BK407
                   clear HB
                   clear h0_ h1_ h2_ h3_ h4_ h5_ h6_ h7_ h8_ h9_ h10_ h11_
                   have HO433 := n0_
                   have HO_407000 := n1_
                   have BK406 := n2_
                   have BK407 := n3_
                   have BK439 := n4_
                   have GW439 := n5_
                   have GE439 := n6_
                   have NB406_439 := n7_
                   have NB439_406 := n8_
                   have NB407_439 := n9_
                   have NB439_407 := n10_
                   have HB := n11_
                   clear n0_ n1_ n2_ n3_ n4_ n5_ n6_ n7_ n8_ n9_ n10_ n11_
                   have hHeld : w70.cell? ⟨gb407, 0, none⟩ = some (.int .u64 x408000_3) ∧ w70.cell? ⟨gb407, 1, none⟩ = some (.int .i64 x408001_3) ∧ w70.cell? ⟨gb407, 2, none⟩ = some (.int .i64 x408002_3) ∧ w70.cell? (ad430.add (x16_3).toNat) = some (.int .u64 (rd l1 x16_3)) := hS_
                   refine norm_ (a' := ?_) ?_ ?_
                   rotate_left
                   ·simp only [putAll, Act.put, List.setIfInBounds_toArray, List.set_cons_zero, List.set_cons_succ]
                    rfl
                   refine one_ (i := 9) (N := some 17) #[true, true, true, true, true, true, true, true, true, true, true, false, false] rfl rfl (one_of HT_.out (by kernel_rfl)) (by decide) (fun K hK => ?_)
                   refine box_step ?hg (N := 17) ?hd (cs := #[.slice none 0 0, .int .i64 0]) (t := 31) ?hr ?_; (case hd => rfl); (case hg => rfl); (case hr => first | (go_simp; done) | (go_simp; rfl))
                   intro gb438 hg w71 hbox hb
                   replace HO_407000 := Aside0.mk (Kd.R_below (kr HO_407000) hb)
                   replace HO433 := Aside0.mk (Kd.R_below (kr HO433) hb)
                   have BK438 := Aside0.mk (hbox)
                   have GW438 := kG hg HB
                   have GE438 := kG hg HB
                   replace HB := kH HB hb
                   obtain ⟨NB406_438, NB438_406⟩ := kN hg BK406
                   replace BK406 := kB BK406 hb
                   obtain ⟨NB407_438, NB438_407⟩ := kN hg BK407
                   replace BK407 := kB BK407 hb
                   obtain ⟨NB439_438, NB438_439⟩ := kN hg BK439
                   replace BK439 := kB BK439 hb
                   clear hb hbox hg
                   refine hK.out _ _ ⟨(blk_cell BK407.out 0).trans rfl, (blk_cell BK407.out 1).trans rfl, (blk_cell BK407.out 2).trans rfl, ((HB.out.cell (World.block_lt_of_cell? w _ hw430_0)).trans hw430_0)⟩ (fun hHeld => ?_)
                   clear hK K
                   refine norm_ (a' := ?_) ?_ ?_
                   rotate_left
                   ·show Act.put _ (some 17) _ = _
                    simp only [Act.put, List.setIfInBounds_toArray, List.set_cons_zero, List.set_cons_succ, i64_w, i32_w]
                    rfl
                   exact norm_ (by first | (simp only [putAll, Act.put, List.setIfInBounds_toArray, List.set_cons_zero, List.set_cons_succ]; done) | (simp only [putAll, Act.put, List.setIfInBounds_toArray, List.set_cons_zero, List.set_cons_succ]; rfl)) (hJ5_9_10 (v432, gb438, gb439) _ ⟨hHeld, (kr HO433), (kr HO_407000), (kb BK406), (kb BK407), (kb BK438), (kb BK439), GW438.out, GE438.out, NB406_438.out, NB438_406.out, NB407_438.out, NB438_407.out, NB439_438.out, NB438_439.out, GW439.out, GE439.out, NB406_439.out, NB439_406.out, NB407_439.out, NB439_407.out, (kl HB)⟩)
                 ·skip
                  rintro ⟨v432, gb438⟩ w70 ⟨hS_, h0_, h1_, h2_, h3_, h4_, h5_, h6_, h7_, h8_, h9_, h10_, h11_⟩
                  have n0_ : Aside0 (Kd.R (Kd.int .u8) 5 w70 w.heap.size (fun k_ => some k_ ≠ (.slice Ao54 t426.length co54 : Value).ownBlock) v432 t431) := ⟨h0_⟩
                  have n1_ : Aside0 (Kd.R (Kd.int .u8) 5 w70 w.heap.size (fun k_ => some k_ ≠ (v432 : Value).ownBlock) (.slice Ao54 t426.length co54) t426) := ⟨h1_⟩
                  have n2_ : Aside0 (w70.heap[gb406]? = some (.cells #[.slice Ao54 t426.length co54, .int .i64 t429] 31 (0, 0))) := ⟨h2_⟩
                  have n3_ : Aside0 (w70.heap[gb407]? = some (.cells #[.int .u64 x408000_3, .int .i64 x408001_3, .int .i64 x408002_3] 24 (0, 0))) := ⟨h3_⟩
                  have n4_ : Aside0 (w70.heap[gb438]? = some (.cells #[.slice none 0 0, .int .i64 0] 31 (0, 0))) := ⟨h4_⟩
                  have n5_ : Aside0 (w.heap.size ≤ gb438) := ⟨h5_⟩
                  have n6_ : Aside0 (w.heap.size ≤ gb438) := ⟨h6_⟩
                  have n7_ : Aside0 (gb406 ≠ gb438) := ⟨h7_⟩
                  have n8_ : Aside0 (gb438 ≠ gb406) := ⟨h8_⟩
                  have n9_ : Aside0 (gb407 ≠ gb438) := ⟨h9_⟩
                  have n10_ : Aside0 (gb438 ≠ gb407) := ⟨h10_⟩
                  have n11_ : Aside0 (Below w.heap.size w w70) := ⟨h11_⟩
                  clear HO_407000
                  clear BK406
                  clear BK407
                  clear HB
                  clear h0_ h1_ h2_ h3_ h4_ h5_ h6_ h7_ h8_ h9_ h10_ h11_
                  have HO433 := n0_
                  have HO_407000 := n1_
                  have BK406 := n2_
                  have BK407 := n3_
                  have BK438 := n4_
                  have GW438 := n5_
                  have GE438 := n6_
                  have NB406_438 := n7_
                  have NB438_406 := n8_
                  have NB407_438 := n9_
                  have NB438_407 := n10_
                  have HB := n11_
                  clear n0_ n1_ n2_ n3_ n4_ n5_ n6_ n7_ n8_ n9_ n10_ n11_
                  have hHeld : w70.cell? ⟨gb407, 0, none⟩ = some (.int .u64 x408000_3) ∧ w70.cell? ⟨gb407, 1, none⟩ = some (.int .i64 x408001_3) ∧ w70.cell? ⟨gb407, 2, none⟩ = some (.int .i64 x408002_3) ∧ w70.cell? (ad430.add (x16_3).toNat) = some (.int .u64 (rd l1 x16_3)) := hS_
                  refine norm_ (a' := ?_) ?_ ?_
                  rotate_left
                  ·simp only [putAll, Act.put, List.setIfInBounds_toArray, List.set_cons_zero, List.set_cons_succ]
                   rfl
                  refine one_ (i := 10) (N := some 18) #[true, true, true, true, true, true, true, true, true, true, true, false, false] rfl rfl (one_of HT_.out (by kernel_rfl)) (by decide) (fun K hK => ?_)
                  refine box_step ?hg (N := 18) ?hd (cs := #[.int .u64 0, .int .i64 0, .int .i64 0]) (t := 24) ?hr ?_; (case hd => rfl); (case hg => rfl); (case hr => first | (go_simp; done) | (go_simp; rfl))
                  intro gb439 hg w71 hbox hb
                  replace HO_407000 := Aside0.mk (Kd.R_below (kr HO_407000) hb)
                  replace HO433 := Aside0.mk (Kd.R_below (kr HO433) hb)
                  have BK439 := Aside0.mk (hbox)
                  have GW439 := kG hg HB
                  have GE439 := kG hg HB
                  replace HB := kH HB hb
                  obtain ⟨NB406_439, NB439_406⟩ := kN hg BK406
                  replace BK406 := kB BK406 hb
                  obtain ⟨NB407_439, NB439_407⟩ := kN hg BK407
                  replace BK407 := kB BK407 hb
                  obtain ⟨NB438_439, NB439_438⟩ := kN hg BK438
                  replace BK438 := kB BK438 hb
                  clear hb hbox hg
                  refine hK.out _ _ ⟨(blk_cell BK407.out 0).trans rfl, (blk_cell BK407.out 1).trans rfl, (blk_cell BK407.out 2).trans rfl, ((HB.out.cell (World.block_lt_of_cell? w _ hw430_0)).trans hw430_0)⟩ (fun hHeld => ?_)
                  clear hK K
                  refine norm_ (a' := ?_) ?_ ?_
                  rotate_left
                  ·show Act.put _ (some 18) _ = _
                   simp only [Act.put, List.setIfInBounds_toArray, List.set_cons_zero, List.set_cons_succ, i64_w, i32_w]
                   rfl
                  exact norm_ (by first | (simp only [putAll, Act.put, List.setIfInBounds_toArray, List.set_cons_zero, List.set_cons_succ]; done) | (simp only [putAll, Act.put, List.setIfInBounds_toArray, List.set_cons_zero, List.set_cons_succ]; rfl)) (hJ5_9_10 (v432, gb438, gb439) _ ⟨hHeld, (kr HO433), (kr HO_407000), (kb BK406), (kb BK407), (kb BK438), (kb BK439), GW438.out, GE438.out, NB406_438.out, NB438_406.out, NB407_438.out, NB438_407.out, NB439_438.out, NB438_439.out, GW439.out, GE439.out, NB406_439.out, NB439_406.out, NB407_439.out, NB439_407.out, (kl HB)⟩)
                rintro ⟨v432, gb438, gb439⟩ w71 ⟨hS_, h0_, h1_, h2_, h3_, h4_, h5_, h6_, h7_, h8_, h9_, h10_, h11_, h12_, h13_, h14_, h15_, h16_, h17_, h18_, h19_, h20_⟩
                have n0_ : Aside0 (Kd.R (Kd.int .u8) 5 w71 w.heap.size (fun k_ => some k_ ≠ (.slice Ao54 t426.length co54 : Value).ownBlock) v432 t431) := ⟨h0_⟩
                have n1_ : Aside0 (Kd.R (Kd.int .u8) 5 w71 w.heap.size (fun k_ => some k_ ≠ (v432 : Value).ownBlock) (.slice Ao54 t426.length co54) t426) := ⟨h1_⟩
                have n2_ : Aside0 (w71.heap[gb406]? = some (.cells #[.slice Ao54 t426.length co54, .int .i64 t429] 31 (0, 0))) := ⟨h2_⟩
                have n3_ : Aside0 (w71.heap[gb407]? = some (.cells #[.int .u64 x408000_3, .int .i64 x408001_3, .int .i64 x408002_3] 24 (0, 0))) := ⟨h3_⟩
                have n4_ : Aside0 (w71.heap[gb438]? = some (.cells #[.slice none 0 0, .int .i64 0] 31 (0, 0))) := ⟨h4_⟩
                have n5_ : Aside0 (w71.heap[gb439]? = some (.cells #[.int .u64 0, .int .i64 0, .int .i64 0] 24 (0, 0))) := ⟨h5_⟩
                have n6_ : Aside0 (w.heap.size ≤ gb438) := ⟨h6_⟩
                have n7_ : Aside0 (w.heap.size ≤ gb438) := ⟨h7_⟩
                have n8_ : Aside0 (gb406 ≠ gb438) := ⟨h8_⟩
                have n9_ : Aside0 (gb438 ≠ gb406) := ⟨h9_⟩
                have n10_ : Aside0 (gb407 ≠ gb438) := ⟨h10_⟩
                have n11_ : Aside0 (gb438 ≠ gb407) := ⟨h11_⟩
                have n12_ : Aside0 (gb439 ≠ gb438) := ⟨h12_⟩
                have n13_ : Aside0 (gb438 ≠ gb439) := ⟨h13_⟩
                have n14_ : Aside0 (w.heap.size ≤ gb439) := ⟨h14_⟩
                have n15_ : Aside0 (w.heap.size ≤ gb439) := ⟨h15_⟩
                have n16_ : Aside0 (gb406 ≠ gb439) := ⟨h16_⟩
                have n17_ : Aside0 (gb439 ≠ gb406) := ⟨h17_⟩
                have n18_ : Aside0 (gb407 ≠ gb439) := ⟨h18_⟩
                have n19_ : Aside0 (gb439 ≠ gb407) := ⟨h19_⟩
                have n20_ : Aside0 (Below w.heap.size w w71) := ⟨h20_⟩
                clear HO_407000
                clear BK406
                clear BK407
                clear HB
                clear h0_ h1_ h2_ h3_ h4_ h5_ h6_ h7_ h8_ h9_ h10_ h11_ h12_ h13_ h14_ h15_ h16_ h17_ h18_ h19_ h20_
                have HO433 := n0_
                have HO_407000 := n1_
                have BK406 := n2_
                have BK407 := n3_
                have BK438 := n4_
                have BK439 := n5_
                have GW438 := n6_
                have GE438 := n7_
                have NB406_438 := n8_
                have NB438_406 := n9_
                have NB407_438 := n10_
                have NB438_407 := n11_
                have NB439_438 := n12_
                have NB438_439 := n13_
                have GW439 := n14_
                have GE439 := n15_
                have NB406_439 := n16_
                have NB439_406 := n17_
                have NB407_439 := n18_
                have NB439_407 := n19_
                have HB := n20_
                clear n0_ n1_ n2_ n3_ n4_ n5_ n6_ n7_ n8_ n9_ n10_ n11_ n12_ n13_ n14_ n15_ n16_ n17_ n18_ n19_ n20_
                have hHeld : w71.cell? ⟨gb407, 0, none⟩ = some (.int .u64 x408000_3) ∧ w71.cell? ⟨gb407, 1, none⟩ = some (.int .i64 x408001_3) ∧ w71.cell? ⟨gb407, 2, none⟩ = some (.int .i64 x408002_3) ∧ w71.cell? (ad430.add (x16_3).toNat) = some (.int .u64 (rd l1 x16_3)) := hS_
                obtain ⟨Ao72, co72, eo72⟩ := Kd.R_slice HO433.out
                (first | subst eo72 | (injection eo72 with f1_ f2_ f3_; have f4_ := f1_.symm; have f5_ := f3_.symm; clear f1_ f2_ f3_; subst f4_; subst f5_))
                refine norm_ (a' := ?_) ?_ ?_
                rotate_left
                ·simp only [putAll, Act.put, List.setIfInBounds_toArray, List.set_cons_zero, List.set_cons_succ]
                 rfl
                refine one_ (i := 11) (N := none) #[true, true, true, true, true, true, true, true, true, true, true, true, false] rfl rfl (one_of HT_.out (by kernel_rfl)) (by decide) (fun K hK => ?_)
                have hs73 : w71.cell? ⟨gb438, 0, none⟩ = some (.slice none 0 0) := (blk_cell BK438.out 0).trans rfl
                have hfs73 := blk_frozen BK438.out 0
                have hns73_0 := NB406_438.out
                have hns73_1 := NB407_438.out
                have hns73_3 := NB439_438.out
                have hms73_0 := NB438_406.out
                have hms73_1 := NB438_407.out
                have hms73_3 := NB438_439.out
                have hs74 : w71.cell? ⟨gb438, 1, none⟩ = some (.int .i64 0) := (blk_cell BK438.out 1).trans rfl
                have hfs74 := blk_frozen BK438.out 1
                refine skip_ (w1 := ?_) (by rfl) rfl ?_ ?_
                rotate_left
                ·go_simp
                 rfl
                refine hK.out _ _ ⟨(kf hHeld.1), (kf hHeld.2.1), (kf hHeld.2.2.1), ((cell_far (p := ⟨gb438, _, none⟩) (by first | exact Nat.ne_of_lt (Nat.lt_of_lt_of_le (by have := World.block_lt_of_cell? _ _ hw430_0; first | rwa [add_block] at this | exact this) GW438.out) | (rw [add_block]; exact Nat.ne_of_lt (Nat.lt_of_lt_of_le (by have := World.block_lt_of_cell? _ _ hw430_0; first | rwa [add_block] at this | exact this) GW438.out)) | (show (Addr.add _ _).block ≠ _; rw [add_block]; exact Nat.ne_of_lt (Nat.lt_of_lt_of_le (by have := World.block_lt_of_cell? _ _ hw430_0; first | rwa [add_block] at this | exact this) GW438.out)) | (dsimp only; exact Nat.ne_of_lt (Nat.lt_of_lt_of_le (by have := World.block_lt_of_cell? _ _ hw430_0; first | rwa [add_block] at this | exact this) GW438.out))) _).trans (((cell_far (p := ⟨gb438, _, none⟩) (by first | exact Nat.ne_of_lt (Nat.lt_of_lt_of_le (by have := World.block_lt_of_cell? _ _ hw430_0; first | rwa [add_block] at this | exact this) GW438.out) | (rw [add_block]; exact Nat.ne_of_lt (Nat.lt_of_lt_of_le (by have := World.block_lt_of_cell? _ _ hw430_0; first | rwa [add_block] at this | exact this) GW438.out)) | (show (Addr.add _ _).block ≠ _; rw [add_block]; exact Nat.ne_of_lt (Nat.lt_of_lt_of_le (by have := World.block_lt_of_cell? _ _ hw430_0; first | rwa [add_block] at this | exact this) GW438.out)) | (dsimp only; exact Nat.ne_of_lt (Nat.lt_of_lt_of_le (by have := World.block_lt_of_cell? _ _ hw430_0; first | rwa [add_block] at this | exact this) GW438.out))) _).trans (hHeld.2.2.2))))⟩ (fun hHeld => ?_)
                clear hK K
                refine one_ (i := 12) (N := none) #[true, true, true, true, true, true, true, true, true, true, true, true, true] rfl rfl (one_of HT_.out (by kernel_rfl)) (by decide) (fun K hK => ?_)
                have hs75 : w71.cell? ⟨gb439, 0, none⟩ = some (.int .u64 0) := (blk_cell BK439.out 0).trans rfl
                have hfs75 := blk_frozen BK439.out 0
                have hns75_0 := NB406_439.out
                have hns75_1 := NB407_439.out
                have hns75_2 := NB438_439.out
                have hms75_0 := NB439_406.out
                have hms75_1 := NB439_407.out
                have hms75_2 := NB439_438.out
                have hs76 : w71.cell? ⟨gb439, 1, none⟩ = some (.int .i64 0) := (blk_cell BK439.out 1).trans rfl
                have hfs76 := blk_frozen BK439.out 1
                have hs77 : w71.cell? ⟨gb439, 2, none⟩ = some (.int .i64 0) := (blk_cell BK439.out 2).trans rfl
                have hfs77 := blk_frozen BK439.out 2
                refine skip_ (w1 := ?_) (by rfl) rfl ?_ ?_
                rotate_left
                ·go_simp
                 rfl
                refine hK.out _ _ ⟨(kf hHeld.1), (kf hHeld.2.1), (kf hHeld.2.2.1), ((cell_far (p := ⟨gb439, _, none⟩) (by first | exact Nat.ne_of_lt (Nat.lt_of_lt_of_le (by have := World.block_lt_of_cell? _ _ hw430_0; first | rwa [add_block] at this | exact this) GW439.out) | (rw [add_block]; exact Nat.ne_of_lt (Nat.lt_of_lt_of_le (by have := World.block_lt_of_cell? _ _ hw430_0; first | rwa [add_block] at this | exact this) GW439.out)) | (show (Addr.add _ _).block ≠ _; rw [add_block]; exact Nat.ne_of_lt (Nat.lt_of_lt_of_le (by have := World.block_lt_of_cell? _ _ hw430_0; first | rwa [add_block] at this | exact this) GW439.out)) | (dsimp only; exact Nat.ne_of_lt (Nat.lt_of_lt_of_le (by have := World.block_lt_of_cell? _ _ hw430_0; first | rwa [add_block] at this | exact this) GW439.out))) _).trans (((cell_far (p := ⟨gb439, _, none⟩) (by first | exact Nat.ne_of_lt (Nat.lt_of_lt_of_le (by have := World.block_lt_of_cell? _ _ hw430_0; first | rwa [add_block] at this | exact this) GW439.out) | (rw [add_block]; exact Nat.ne_of_lt (Nat.lt_of_lt_of_le (by have := World.block_lt_of_cell? _ _ hw430_0; first | rwa [add_block] at this | exact this) GW439.out)) | (show (Addr.add _ _).block ≠ _; rw [add_block]; exact Nat.ne_of_lt (Nat.lt_of_lt_of_le (by have := World.block_lt_of_cell? _ _ hw430_0; first | rwa [add_block] at this | exact this) GW439.out)) | (dsimp only; exact Nat.ne_of_lt (Nat.lt_of_lt_of_le (by have := World.block_lt_of_cell? _ _ hw430_0; first | rwa [add_block] at this | exact this) GW439.out))) _).trans (((cell_far (p := ⟨gb439, _, none⟩) (by first | exact Nat.ne_of_lt (Nat.lt_of_lt_of_le (by have := World.block_lt_of_cell? _ _ hw430_0; first | rwa [add_block] at this | exact this) GW439.out) | (rw [add_block]; exact Nat.ne_of_lt (Nat.lt_of_lt_of_le (by have := World.block_lt_of_cell? _ _ hw430_0; first | rwa [add_block] at this | exact this) GW439.out)) | (show (Addr.add _ _).block ≠ _; rw [add_block]; exact Nat.ne_of_lt (Nat.lt_of_lt_of_le (by have := World.block_lt_of_cell? _ _ hw430_0; first | rwa [add_block] at this | exact this) GW439.out)) | (dsimp only; exact Nat.ne_of_lt (Nat.lt_of_lt_of_le (by have := World.block_lt_of_cell? _ _ hw430_0; first | rwa [add_block] at this | exact this) GW439.out))) _).trans (hHeld.2.2.2))))))⟩ (fun hHeld => ?_)
                clear hK K
                refine done_ (done_of HT_.out (by kernel_rfl)) ?_
                have hnb78 := NB407_406.out
                have hnc78 := NB406_407.out
                have hnb79 := NB407_438.out
                have hnc79 := NB438_407.out
                have hnb80 := NB407_439.out
                have hnc80 := NB439_407.out
                obtain ⟨hcz81_0, hcz81_1, hcz81_2⟩ := kc3 BK407
                obtain ⟨hfz81_0, hfz81_1, hfz81_2⟩ := kf3 BK407
                have hnb82 := NB406_438.out
                have hnc82 := NB438_406.out
                have hnb83 := NB406_439.out
                have hnc83 := NB439_406.out
                obtain ⟨hcz84_0, hcz84_1⟩ := kc2 BK406
                obtain ⟨hfz84_0, hfz84_1⟩ := kf2 BK406
                try go_wp2_with (first | ((with_reducible refine gate_callee (f := 16) rfl ?_); refine goesL_ (some 97) rfl rfl Tryd.func16 (by kernel_rfl) rfl #[.agg #[.int .u64 x408000_3, .int .i64 x408001_3, .int .i64 x408002_3], .slice Ao54 t426.length co54, .int .i64 x15_3] rfl km ?_; (with_reducible refine (xor_Get.calls k3 x408000_3 x408001_3 x408002_3 _ _ t426 x15_3 t440 t441 t442 t443 t444 none _ ?side1 ?side2 ?side3 A62.out).mono ?_); (case side1 => exact TabOk.below HT.out (kl HB) (Nat.le_refl _)); (case side2 => refine (Kd.R_reads' (e := 5) (base := w.heap.size) (ok := fun k_ => some k_ ≠ (.slice Ao72 t431.length co72 : Value).ownBlock) (n := t426.length) (c := co54) ?_).2.2; exact (by (with_reducible repeat (first | apply Kd.R_alloc | apply Kd.R_drewN | apply Kd.R_drew)); exact (Kd.R_mono (Kd.R_mono (Kd.R_far (p := ⟨gb439, 2, none⟩) (Kd.R_far (p := ⟨gb439, 1, none⟩) (Kd.R_far (p := ⟨gb439, 0, none⟩) (Kd.R_far (p := ⟨gb438, 1, none⟩) (Kd.R_far (p := ⟨gb438, 0, none⟩) (Kd.R_types (Kd.R_types HO_407000.out BK438.out (by decide)) BK439.out (by decide)) (fun _ hk => hk.1.2) (.slice Ao72 t431.length co72)) (fun _ hk => hk.1.2) (.int .i64 t434)) (fun _ hk => hk.2) (.int .u64 t435)) (fun _ hk => hk.2) (.int .i64 t436)) (fun _ hk => hk.2) (.int .i64 t437)) (fun _ h_ => h_.1)) (fun _ h_ => h_.1)))); (case side3 => exact (Kd.R_reads' HO_407000.out).2.1); rintro e w85 ⟨rfl, hb⟩; refine ⟨_, rfl, ?_⟩; replace HO_407000 := Aside0.mk (Kd.R_below (by (with_reducible repeat (first | apply Kd.R_alloc | apply Kd.R_drewN | apply Kd.R_drew)); exact (Kd.R_mono (Kd.R_mono (Kd.R_far (p := ⟨gb439, 2, none⟩) (Kd.R_far (p := ⟨gb439, 1, none⟩) (Kd.R_far (p := ⟨gb439, 0, none⟩) (Kd.R_far (p := ⟨gb438, 1, none⟩) (Kd.R_far (p := ⟨gb438, 0, none⟩) (Kd.R_types (Kd.R_types HO_407000.out BK438.out (by decide)) BK439.out (by decide)) (fun _ hk => hk.1.2) (.slice Ao72 t431.length co72)) (fun _ hk => hk.1.2) (.int .i64 t434)) (fun _ hk => hk.2) (.int .u64 t435)) (fun _ hk => hk.2) (.int .i64 t436)) (fun _ hk => hk.2) (.int .i64 t437)) (fun _ h_ => h_.1)) (fun _ h_ => h_.1))) hb); replace HO433 := Aside0.mk (Kd.R_below (by (with_reducible repeat (first | apply Kd.R_alloc | apply Kd.R_drewN | apply Kd.R_drew)); exact (Kd.R_mono (Kd.R_mono (Kd.R_far (p := ⟨gb439, 2, none⟩) (Kd.R_far (p := ⟨gb439, 1, none⟩) (Kd.R_far (p := ⟨gb439, 0, none⟩) (Kd.R_far (p := ⟨gb438, 1, none⟩) (Kd.R_far (p := ⟨gb438, 0, none⟩) (Kd.R_types (Kd.R_types HO433.out BK438.out (by decide)) BK439.out (by decide)) (fun _ hk => hk.1.2) (.slice Ao72 t431.length co72)) (fun _ hk => hk.1.2) (.int .i64 t434)) (fun _ hk => hk.2) (.int .u64 t435)) (fun _ hk => hk.2) (.int .i64 t436)) (fun _ hk => hk.2) (.int .i64 t437)) (fun _ h_ => h_.1)) (fun _ h_ => h_.1))) hb); replace BK406 := Aside0.mk (blk_below (g := gb406) (o := .cells #[.slice Ao54 t426.length co54, .int .i64 t429] 31 (0, 0)) (kb BK406) hb); replace BK407 := Aside0.mk (blk_below (g := gb407) (o := .cells #[.int .u64 x408000_3, .int .i64 x408001_3, .int .i64 x408002_3] 24 (0, 0)) (kb BK407) hb); replace BK438 := Aside0.mk (blk_below (g := gb438) (o := .cells #[.slice Ao72 t431.length co72, .int .i64 t434] 31 (0, 0)) (kb BK438) hb); replace BK439 := Aside0.mk (blk_below (g := gb439) (o := .cells #[.int .u64 t435, .int .i64 t436, .int .i64 t437] 24 (0, 0)) (kb BK439) hb); replace HB := kH HB hb; (try clear hb); (try clear hb2); (try clear hk); (try clear hi); (try simp only [errW_none, errW_some])) | ((with_reducible refine gate_dst (N := 20) rfl ?_); (try (refine gate_guard (by rfl) ?_; dsimp only)); refine box_event ?hg (N := 20) ?hd (cs := #[.int .u64 0, .int .i64 0, .int .i64 0]) (t := 24) ?hr ?_; (case hd => rfl); (case hg => rfl); (case hr => first | (go_simp; done) | (go_simp; rfl)); intro gb446 hg w86 hbox hb; replace HO_407000 := Aside0.mk (Kd.R_below (kr HO_407000) hb); replace HO433 := Aside0.mk (Kd.R_below (kr HO433) hb); have BK446 := Aside0.mk (hbox); have GW446 := kG hg HB; have GE446 := kG hg HB; replace HB := kH HB hb; obtain ⟨NB406_446, NB446_406⟩ := kN hg BK406; replace BK406 := kB BK406 hb; obtain ⟨NB407_446, NB446_407⟩ := kN hg BK407; replace BK407 := kB BK407 hb; obtain ⟨NB438_446, NB446_438⟩ := kN hg BK438; replace BK438 := kB BK438 hb; obtain ⟨NB439_446, NB446_439⟩ := kN hg BK439; replace BK439 := kB BK439 hb; clear hb hbox hg; have hnb87 := NB446_406.out; have hnc87 := NB406_446.out; have hnb88 := NB446_407.out; have hnc88 := NB407_446.out; have hnb89 := NB446_438.out; have hnc89 := NB438_446.out; have hnb90 := NB446_439.out; have hnc90 := NB439_446.out; have hcz91_0 : w86.cell? ⟨gb446, 0, none⟩ = some (.int .u64 0) := (blk_cell BK446.out 0).trans rfl; have hcz91_1 : w86.cell? ⟨gb446, 1, none⟩ = some (.int .i64 0) := (blk_cell BK446.out 1).trans rfl; have hcz91_2 : w86.cell? ⟨gb446, 2, none⟩ = some (.int .i64 0) := (blk_cell BK446.out 2).trans rfl; have hfz91_0 := blk_frozen BK446.out 0; have hfz91_1 := blk_frozen BK446.out 1; have hfz91_2 := blk_frozen BK446.out 2; have p448 : 0 ≤ (x16_3 : Int) := of_decide_eq_true (by first | (with_reducible assumption) | assumption); have q448 : x16_3 < (l1.length : Int) := of_decide_eq_true (by first | (with_reducible assumption) | assumption); obtain ⟨ad448, e448, hx448_0⟩ := Kd.at_int HR1.out x16_3 p448 q448; obtain rfl : ad430 = ad448 := (by injection e448); have hn448_0 : ad430.block ≠ gb446 := Nat.ne_of_lt (Nat.lt_of_lt_of_le (by have := World.block_lt_of_cell? _ _ hx448_0; first | rwa [add_block] at this | exact this) GW446.out); have hn448_1 : ad430.block ≠ gb446 := Nat.ne_of_lt (Nat.lt_of_lt_of_le (by have := World.block_lt_of_cell? _ _ hx448_0; first | rwa [add_block] at this | exact this) GW446.out); have hn448_2 : ad430.block ≠ gb446 := Nat.ne_of_lt (Nat.lt_of_lt_of_le (by have := World.block_lt_of_cell? _ _ hx448_0; first | rwa [add_block] at this | exact this) GW446.out); replace hx448_0 := (HB.out.cell (World.block_lt_of_cell? w _ hx448_0)).trans hx448_0; replace hx448_0 := (cell_far (p := ⟨gb446, 0, none⟩) (by first | (rw [add_block]; exact hn448_0) | (show (Addr.add _ _).block ≠ _; rw [add_block]; exact hn448_0) | exact hn448_0) (.int .u64 t441)).trans hx448_0; replace hx448_0 := (cell_far (p := ⟨gb446, 1, none⟩) (by first | (rw [add_block]; exact hn448_1) | (show (Addr.add _ _).block ≠ _; rw [add_block]; exact hn448_1) | exact hn448_1) (.int .i64 t442)).trans hx448_0; replace hx448_0 := (cell_far (p := ⟨gb446, 2, none⟩) (by first | (rw [add_block]; exact hn448_2) | (show (Addr.add _ _).block ≠ _; rw [add_block]; exact hn448_2) | exact hn448_2) (.int .i64 t443)).trans hx448_0; clear hn448_0; clear hn448_1; clear hn448_2; replace p448 := eq_true p448; (try (have q448s := q448; simp only [List.length_drop, List.length_take] at q448s; replace q448s := eq_true q448s)); replace q448 := eq_true q448; have hnb92 := NB439_438.out; have hnc92 := NB438_439.out; have hcz93_0 : w86.cell? ⟨gb439, 0, none⟩ = some (.int .u64 t435) := (blk_cell BK439.out 0).trans rfl; have hcz93_1 : w86.cell? ⟨gb439, 1, none⟩ = some (.int .i64 t436) := (blk_cell BK439.out 1).trans rfl; have hcz93_2 : w86.cell? ⟨gb439, 2, none⟩ = some (.int .i64 t437) := (blk_cell BK439.out 2).trans rfl; have hfz93_0 := blk_frozen BK439.out 0; have hfz93_1 := blk_frozen BK439.out 1; have hfz93_2 := blk_frozen BK439.out 2; have hcz94_0 : w86.cell? ⟨gb438, 0, none⟩ = some (.slice Ao72 t431.length co72) := (blk_cell BK438.out 0).trans rfl; have hcz94_1 : w86.cell? ⟨gb438, 1, none⟩ = some (.int .i64 t434) := (blk_cell BK438.out 1).trans rfl; have hfz94_0 := blk_frozen BK438.out 0; have hfz94_1 := blk_frozen BK438.out 1; have hcz95_0 : w86.cell? ⟨gb407, 0, none⟩ = some (.int .u64 x408000_3) := (blk_cell BK407.out 0).trans rfl; have hcz95_1 : w86.cell? ⟨gb407, 1, none⟩ = some (.int .i64 x408001_3) := (blk_cell BK407.out 1).trans rfl; have hcz95_2 : w86.cell? ⟨gb407, 2, none⟩ = some (.int .i64 x408002_3) := (blk_cell BK407.out 2).trans rfl; have hfz95_0 := blk_frozen BK407.out 0; have hfz95_1 := blk_frozen BK407.out 1; have hfz95_2 := blk_frozen BK407.out 2))
                go_roundg k3
                case measure => have := HJ5.out; have := HK2.out; have := HK3.out; omega
                case rel => exact ⟨(wrap64 (x15_3 + t444)), (wrap64 (x16_3 + 1)), (t435), (t436), (t437), (by first | rfl | (simp; done) | (simp [*]; done)), (by first | rfl | (simp; done) | (simp [*]; done)), H', ⟨by have := HJ5.out; have := HK2.out; have := HK3.out; omega⟩, ⟨by (with_reducible repeat (first | apply Kd.R_alloc | apply Kd.R_drewN | apply Kd.R_drew)); exact Kd.R_mono (Kd.R_far (p := ⟨gb407, 2, none⟩) (Kd.R_far (p := ⟨gb407, 1, none⟩) (Kd.R_far (p := ⟨gb407, 0, none⟩) (Kd.R_far (p := ⟨gb446, 2, none⟩) (Kd.R_far (p := ⟨gb446, 1, none⟩) (Kd.R_far (p := ⟨gb446, 0, none⟩) (Kd.R_types (Kd.R_types HO_407000.out BK446.out (by decide)) BK407.out (by decide)) (fun _ hk => hk.1.2) (.int .u64 t441)) (fun _ hk => hk.1.2) (.int .i64 t442)) (fun _ hk => hk.1.2) (.int .i64 t443)) (fun _ hk => hk.2) (.int .u64 t435)) (fun _ hk => hk.2) (.int .i64 t436)) (fun _ hk => hk.2) (.int .i64 t437)) (fun _ hk => trivial)⟩, ⟨by (with_reducible repeat (first | refine blk_drewN ?_ _ | refine blk_drew ?_ | refine blk_alloc ?_ _)); refine blk_far ?_ NB406_407.out _; (with_reducible repeat (first | refine blk_drewN ?_ _ | refine blk_drew ?_ | refine blk_alloc ?_ _)); refine blk_far ?_ NB406_407.out _; (with_reducible repeat (first | refine blk_drewN ?_ _ | refine blk_drew ?_ | refine blk_alloc ?_ _)); refine blk_far ?_ NB406_407.out _; (with_reducible repeat (first | refine blk_drewN ?_ _ | refine blk_drew ?_ | refine blk_alloc ?_ _)); refine blk_far ?_ NB406_446.out _; (with_reducible repeat (first | refine blk_drewN ?_ _ | refine blk_drew ?_ | refine blk_alloc ?_ _)); refine blk_far ?_ NB406_446.out _; (with_reducible repeat (first | refine blk_drewN ?_ _ | refine blk_drew ?_ | refine blk_alloc ?_ _)); refine blk_far ?_ NB406_446.out _; (with_reducible repeat (first | refine blk_drewN ?_ _ | refine blk_drew ?_ | refine blk_alloc ?_ _)); exact BK406.out⟩, ⟨by (with_reducible repeat (first | refine blk_drewN ?_ _ | refine blk_drew ?_ | refine blk_alloc ?_ _)); refine blk_put (cs := #[.int .u64 t435, .int .i64 t436, .int .i64 x408002_3]) ?_ 2 _ rfl; (with_reducible repeat (first | refine blk_drewN ?_ _ | refine blk_drew ?_ | refine blk_alloc ?_ _)); refine blk_put (cs := #[.int .u64 t435, .int .i64 x408001_3, .int .i64 x408002_3]) ?_ 1 _ rfl; (with_reducible repeat (first | refine blk_drewN ?_ _ | refine blk_drew ?_ | refine blk_alloc ?_ _)); refine blk_put (cs := #[.int .u64 x408000_3, .int .i64 x408001_3, .int .i64 x408002_3]) ?_ 0 _ rfl; (with_reducible repeat (first | refine blk_drewN ?_ _ | refine blk_drew ?_ | refine blk_alloc ?_ _)); refine blk_far ?_ NB407_446.out _; (with_reducible repeat (first | refine blk_drewN ?_ _ | refine blk_drew ?_ | refine blk_alloc ?_ _)); refine blk_far ?_ NB407_446.out _; (with_reducible repeat (first | refine blk_drewN ?_ _ | refine blk_drew ?_ | refine blk_alloc ?_ _)); refine blk_far ?_ NB407_446.out _; (with_reducible repeat (first | refine blk_drewN ?_ _ | refine blk_drew ?_ | refine blk_alloc ?_ _)); exact BK407.out⟩, ⟨by repeat (first | (with_reducible first | exact HB.out | apply below_alloc | apply pw_below_drewN | apply below_drew1 | refine below_set ?_ GE406.out | refine below_set ?_ GE407.out | refine below_set ?_ GE438.out | refine below_set ?_ GE439.out | refine below_set ?_ GE446.out) | exact HB.out)⟩⟩
               ·rw [if_neg c66] at H
                exact absurd H (by simp)
              ·rw [if_neg c65] at H
               exact absurd H (by simp)
            ·rw [if_neg c63] at H
             exact absurd H (by simp)
           ·have H1 : (none) = some r := by rw [if_neg (show ¬ (some q447).isNone = true by simp)] at H; exact H
            clear H
            have H := H1
            clear H1
            try simp only [errW_none, errW_some]
            exact absurd H (by simp)
          ·rw [if_neg c60] at H
           exact absurd H (by simp)
         ·rw [if_neg c59] at H
          have c59b0 : decide (x16_3 < (l1.length : Int)) = false := decide_eq_false c59
          clear c59
          replace H := Option.bind_eq_some_iff.mp H
          obtain ⟨⟨t449, t450, t451, t452, t453, t454⟩, A960, H⟩ := H
          replace H : (if t454.isNone = true then (if t453 < 1 then (gaiterlaw07_XorBack.j3 k3 l3 t401 t449 t453 true x408000_3 x408001_3 x408002_3 t450 t451 t452) else (gaiterlaw07_XorBack.j3 k3 l3 t401 t449 t453 (decide (t453 > (wrap64 (8 * (l3.length : Int))))) x408000_3 x408001_3 x408002_3 t450 t451 t452)) else (some t401)) = some r := H
          have A96 := Aside0.mk A960
          clear A960
          rcases t454 with _ | q456
          ·have H1 : (if t453 < 1 then (gaiterlaw07_XorBack.j3 k3 l3 t401 t449 t453 true x408000_3 x408001_3 x408002_3 t450 t451 t452) else (gaiterlaw07_XorBack.j3 k3 l3 t401 t449 t453 (decide (t453 > (wrap64 (8 * (l3.length : Int))))) x408000_3 x408001_3 x408002_3 t450 t451 t452)) = some r := by rw [if_pos (show (none : Option Int).isNone = true by rfl)] at H; exact H
           clear H
           have H := H1
           clear H1
           try simp only [errW_none, errW_some]
           have HC97 := Aside0.mk H
           clear H
           have hnb98 := NB407_406.out
           have hnc98 := NB406_407.out
           obtain ⟨hcz99_0, hcz99_1, hcz99_2⟩ := kc3 BK407
           obtain ⟨hfz99_0, hfz99_1, hfz99_2⟩ := kf3 BK407
           go_upto_region 27 with (first | ((with_reducible refine gate_callee (f := 16) rfl ?_); refine goesL_ (some 136) rfl rfl Tryd.func16 (by kernel_rfl) rfl #[.agg #[.int .u64 x408000_3, .int .i64 x408001_3, .int .i64 x408002_3], .slice A3 l3.length c3, .int .i64 0] rfl km ?_; (with_reducible refine (xor_Get.calls k3 x408000_3 x408001_3 x408002_3 _ _ l3 0 t449 t450 t451 t452 t453 none _ ?side1 ?side2 ?side3 A96.out).mono ?_); (case side1 => exact TabOk.below HT.out (kl HB) (Nat.le_refl _)); (case side2 => repeat (first | exact (Kd.C_below HR3.out HB.out) | (with_reducible refine Kd.C_alloc ?_ _) | (with_reducible refine Kd.C_drewN ?_ _) | (with_reducible refine Kd.C_drew ?_))); (case side3 => exact HC3.out); rintro e w100 ⟨rfl, hb⟩; refine ⟨_, rfl, ?_⟩; replace HO_407000 := Aside0.mk (Kd.R_below (kr HO_407000) hb); replace BK406 := kB BK406 hb; replace BK407 := kB BK407 hb; replace HB := kH HB hb; (try clear hb); (try clear hb2); (try clear hk); (try clear hi); (try simp only [errW_none, errW_some])) | ((with_reducible refine gate_dst (N := 24) rfl ?_); (try (refine gate_guard (by rfl) ?_; dsimp only)); refine box_event ?hg (N := 24) ?hd (cs := #[.int .u64 0, .int .i64 0, .int .i64 0]) (t := 24) ?hr ?_; (case hd => rfl); (case hg => rfl); (case hr => first | (go_simp; done) | (go_simp; rfl)); intro gb455 hg w101 hbox hb; replace HO_407000 := Aside0.mk (Kd.R_below (kr HO_407000) hb); have BK455 := Aside0.mk (hbox); have GW455 := kG hg HB; have GE455 := kG hg HB; replace HB := kH HB hb; obtain ⟨NB406_455, NB455_406⟩ := kN hg BK406; replace BK406 := kB BK406 hb; obtain ⟨NB407_455, NB455_407⟩ := kN hg BK407; replace BK407 := kB BK407 hb; clear hb hbox hg; have hnb102 := NB455_406.out; have hnc102 := NB406_455.out; have hnb103 := NB455_407.out; have hnc103 := NB407_455.out; have hcz104_0 : w101.cell? ⟨gb455, 0, none⟩ = some (.int .u64 0) := (blk_cell BK455.out 0).trans rfl; have hcz104_1 : w101.cell? ⟨gb455, 1, none⟩ = some (.int .i64 0) := (blk_cell BK455.out 1).trans rfl; have hcz104_2 : w101.cell? ⟨gb455, 2, none⟩ = some (.int .i64 0) := (blk_cell BK455.out 2).trans rfl; have hfz104_0 := blk_frozen BK455.out 0; have hfz104_1 := blk_frozen BK455.out 1; have hfz104_2 := blk_frozen BK455.out 2))
           (try simp only [Act.put, List.setIfInBounds_toArray, List.set_cons_zero, List.set_cons_succ])
           go_cut [152] (fun v152 wc => ∃ (kq : Nat) (x152_96 : Bool), v152 = .bool x152_96 ∧ Aside0 (gaiterlaw07_XorBack.j3 kq l3 t401 t449 t453 x152_96 x408000_3 x408001_3 x408002_3 t450 t451 t452 = some r) ∧ Aside0 (kq ≤ k3) ∧ Aside0 (Kd.R (Kd.int .u8) 5 wc w.heap.size (fun _ => True) (.slice Ao54 t426.length co54) t426) ∧ Aside0 (wc.heap[gb406]? = some (.cells #[(.slice Ao54 t426.length co54), .int .i64 t429] 31 (0, 0))) ∧ Aside0 (wc.heap[gb407]? = some (.cells #[.int .u64 x408000_3, .int .i64 x408001_3, .int .i64 x408002_3] 24 (0, 0))) ∧ Aside0 (wc.heap[gb455]? = some (.cells #[.int .u64 t450, .int .i64 t451, .int .i64 t452] 24 (0, 0))) ∧ Aside0 (Below w.heap.size w wc))
           case first =>
            have H := HC97.out
            clear HC97
            by_cases c105 : t453 < 1
            ·rw [if_pos c105] at H
             have c105b0 : decide (t453 < 1) = true := decide_eq_true c105
             clear c105
             (first | rw [c105b0] | (simp only [i64_w, i32_w]; rw [c105b0]) | skip)
             have H' := Aside0.mk H
             clear H
             go_wp2
             go_meet
             case rel => exact ⟨_, (true), (by first | rfl | (simp; done) | (simp [*]; done)), H', ⟨by have := HJ5.out; have := HK2.out; have := HK3.out; first | omega | exact Nat.le_refl _⟩, ⟨by (with_reducible repeat (first | apply Kd.R_alloc | apply Kd.R_drewN | apply Kd.R_drew)); exact Kd.R_mono (Kd.R_far (p := ⟨gb455, 2, none⟩) (Kd.R_far (p := ⟨gb455, 1, none⟩) (Kd.R_far (p := ⟨gb455, 0, none⟩) (Kd.R_types HO_407000.out BK455.out (by decide)) (fun _ hk => hk.2) (.int .u64 t450)) (fun _ hk => hk.2) (.int .i64 t451)) (fun _ hk => hk.2) (.int .i64 t452)) (fun _ hk => trivial)⟩, ⟨by (with_reducible repeat (first | refine blk_drewN ?_ _ | refine blk_drew ?_ | refine blk_alloc ?_ _)); refine blk_far ?_ NB406_455.out _; (with_reducible repeat (first | refine blk_drewN ?_ _ | refine blk_drew ?_ | refine blk_alloc ?_ _)); refine blk_far ?_ NB406_455.out _; (with_reducible repeat (first | refine blk_drewN ?_ _ | refine blk_drew ?_ | refine blk_alloc ?_ _)); refine blk_far ?_ NB406_455.out _; (with_reducible repeat (first | refine blk_drewN ?_ _ | refine blk_drew ?_ | refine blk_alloc ?_ _)); exact BK406.out⟩, ⟨by (with_reducible repeat (first | refine blk_drewN ?_ _ | refine blk_drew ?_ | refine blk_alloc ?_ _)); refine blk_far ?_ NB407_455.out _; (with_reducible repeat (first | refine blk_drewN ?_ _ | refine blk_drew ?_ | refine blk_alloc ?_ _)); refine blk_far ?_ NB407_455.out _; (with_reducible repeat (first | refine blk_drewN ?_ _ | refine blk_drew ?_ | refine blk_alloc ?_ _)); refine blk_far ?_ NB407_455.out _; (with_reducible repeat (first | refine blk_drewN ?_ _ | refine blk_drew ?_ | refine blk_alloc ?_ _)); exact BK407.out⟩, ⟨by (with_reducible repeat (first | refine blk_drewN ?_ _ | refine blk_drew ?_ | refine blk_alloc ?_ _)); refine blk_put (cs := #[.int .u64 t450, .int .i64 t451, .int .i64 0]) ?_ 2 _ rfl; (with_reducible repeat (first | refine blk_drewN ?_ _ | refine blk_drew ?_ | refine blk_alloc ?_ _)); refine blk_put (cs := #[.int .u64 t450, .int .i64 0, .int .i64 0]) ?_ 1 _ rfl; (with_reducible repeat (first | refine blk_drewN ?_ _ | refine blk_drew ?_ | refine blk_alloc ?_ _)); refine blk_put (cs := #[.int .u64 0, .int .i64 0, .int .i64 0]) ?_ 0 _ rfl; (with_reducible repeat (first | refine blk_drewN ?_ _ | refine blk_drew ?_ | refine blk_alloc ?_ _)); exact BK455.out⟩, ⟨by repeat (first | (with_reducible first | exact HB.out | apply below_alloc | apply pw_below_drewN | apply below_drew1 | refine below_set ?_ GE406.out | refine below_set ?_ GE407.out | refine below_set ?_ GE455.out) | exact HB.out)⟩⟩
            ·rw [if_neg c105] at H
             have c105b0 : decide (t453 < 1) = false := decide_eq_false c105
             clear c105
             (first | rw [c105b0] | (simp only [i64_w, i32_w]; rw [c105b0]) | skip)
             have H' := Aside0.mk H
             clear H
             go_wp2
             go_meet
             case rel => exact ⟨_, (decide (t453 > (wrap64 (8 * (l3.length : Int))))), (by first | rfl | (simp; done) | (simp [*]; done)), H', ⟨by have := HJ5.out; have := HK2.out; have := HK3.out; first | omega | exact Nat.le_refl _⟩, ⟨by (with_reducible repeat (first | apply Kd.R_alloc | apply Kd.R_drewN | apply Kd.R_drew)); exact Kd.R_mono (Kd.R_far (p := ⟨gb455, 2, none⟩) (Kd.R_far (p := ⟨gb455, 1, none⟩) (Kd.R_far (p := ⟨gb455, 0, none⟩) (Kd.R_types HO_407000.out BK455.out (by decide)) (fun _ hk => hk.2) (.int .u64 t450)) (fun _ hk => hk.2) (.int .i64 t451)) (fun _ hk => hk.2) (.int .i64 t452)) (fun _ hk => trivial)⟩, ⟨by (with_reducible repeat (first | refine blk_drewN ?_ _ | refine blk_drew ?_ | refine blk_alloc ?_ _)); refine blk_far ?_ NB406_455.out _; (with_reducible repeat (first | refine blk_drewN ?_ _ | refine blk_drew ?_ | refine blk_alloc ?_ _)); refine blk_far ?_ NB406_455.out _; (with_reducible repeat (first | refine blk_drewN ?_ _ | refine blk_drew ?_ | refine blk_alloc ?_ _)); refine blk_far ?_ NB406_455.out _; (with_reducible repeat (first | refine blk_drewN ?_ _ | refine blk_drew ?_ | refine blk_alloc ?_ _)); exact BK406.out⟩, ⟨by (with_reducible repeat (first | refine blk_drewN ?_ _ | refine blk_drew ?_ | refine blk_alloc ?_ _)); refine blk_far ?_ NB407_455.out _; (with_reducible repeat (first | refine blk_drewN ?_ _ | refine blk_drew ?_ | refine blk_alloc ?_ _)); refine blk_far ?_ NB407_455.out _; (with_reducible repeat (first | refine blk_drewN ?_ _ | refine blk_drew ?_ | refine blk_alloc ?_ _)); refine blk_far ?_ NB407_455.out _; (with_reducible repeat (first | refine blk_drewN ?_ _ | refine blk_drew ?_ | refine blk_alloc ?_ _)); exact BK407.out⟩, ⟨by (with_reducible repeat (first | refine blk_drewN ?_ _ | refine blk_drew ?_ | refine blk_alloc ?_ _)); refine blk_put (cs := #[.int .u64 t450, .int .i64 t451, .int .i64 0]) ?_ 2 _ rfl; (with_reducible repeat (first | refine blk_drewN ?_ _ | refine blk_drew ?_ | refine blk_alloc ?_ _)); refine blk_put (cs := #[.int .u64 t450, .int .i64 0, .int .i64 0]) ?_ 1 _ rfl; (with_reducible repeat (first | refine blk_drewN ?_ _ | refine blk_drew ?_ | refine blk_alloc ?_ _)); refine blk_put (cs := #[.int .u64 0, .int .i64 0, .int .i64 0]) ?_ 0 _ rfl; (with_reducible repeat (first | refine blk_drewN ?_ _ | refine blk_drew ?_ | refine blk_alloc ?_ _)); exact BK455.out⟩, ⟨by repeat (first | (with_reducible first | exact HB.out | apply below_alloc | apply pw_below_drewN | apply below_drew1 | refine below_set ?_ GE406.out | refine below_set ?_ GE407.out | refine below_set ?_ GE455.out) | exact HB.out)⟩⟩
           case rest =>
            clear HC97
            try clear c1
            try clear p2
            try clear c3
            try clear p4
            try clear q4
            try clear hx4
            try clear c5
            try clear c6
            try clear p6
            try clear c7
            try clear c8
            try clear c9
            try clear c10
            try clear c14
            try clear c16
            try clear p44
            try clear q44
            try clear hx44
            try clear q45
            try clear c59
            try clear c59b0
            try clear c60
            try clear c63
            try clear p64
            try clear c65
            try clear c66
            try clear c78
            try clear c79
            try clear c80
            try clear c82
            try clear c83
            try clear c87
            try clear c88
            try clear c89
            try clear c90
            try clear c92
            try clear c98
            try clear c102
            try clear c103
            try clear c105
            try clear c105b0
            try clear hcz104_0
            try clear hcz104_1
            try clear hcz104_2
            try clear hcz81_0
            try clear hcz81_1
            try clear hcz81_2
            try clear hcz84_0
            try clear hcz84_1
            try clear hcz91_0
            try clear hcz91_1
            try clear hcz91_2
            try clear hcz93_0
            try clear hcz93_1
            try clear hcz93_2
            try clear hcz94_0
            try clear hcz94_1
            try clear hcz95_0
            try clear hcz95_1
            try clear hcz95_2
            try clear hcz99_0
            try clear hcz99_1
            try clear hcz99_2
            try clear hfz104_0
            try clear hfz104_1
            try clear hfz104_2
            try clear hfz81_0
            try clear hfz81_1
            try clear hfz81_2
            try clear hfz84_0
            try clear hfz84_1
            try clear hfz91_0
            try clear hfz91_1
            try clear hfz91_2
            try clear hfz93_0
            try clear hfz93_1
            try clear hfz93_2
            try clear hfz94_0
            try clear hfz94_1
            try clear hfz95_0
            try clear hfz95_1
            try clear hfz95_2
            try clear hfz99_0
            try clear hfz99_1
            try clear hfz99_2
            try clear hx448_0
            try clear p448
            try clear q447
            try clear q448
            try clear q456
            obtain ⟨kq, x152_96, rfl, HA, HJ96, HO_407000, BK406, BK407, BK455, HB⟩ := hcut
            cases kq with
            | zero => exact absurd HA.out (by simp [gaiterlaw07_XorBack.j3])
            | succ kj96 =>
             have H := HA.out
             clear HA
             simp only [gaiterlaw07_XorBack.j3] at H
             by_cases c106 : x152_96 = true
             ·subst c106
              have H1 : (none) = some r := by rw [if_pos rfl] at H; exact H
              clear H
              have H := H1
              clear H1
              exact absurd H (by simp)
             ·replace c106 := Bool.eq_false_iff.mpr c106
              subst c106
              have H1 : ((xor_Code.f kj96 x408000_3 x408001_3 x408002_3 t449).bind fun bt457 => (if t401 = true then (if (t450 == bt457.2.2.1 && (t451 == bt457.2.2.2.1 && (t452 == bt457.2.2.2.2))) = true then ((gaiterref01_Flat.f kj96 l3).bind fun t466 => (if 0 ≤ t453 then (if t453 ≤ (t466.length : Int) then ((gaiterlaw00_Is.f kj96 bt457.1 bt457.2.1 (t466.take (t453 : Int).toNat)).bind fun t473 => (some (t473 == 1))) else (none)) else (none))) else (none)) else (none))) = some r := by rw [if_neg (show ¬ (false = true) by decide)] at H; exact H
              clear H
              have H := H1
              clear H1
              replace H := Option.bind_eq_some_iff.mp H
              obtain ⟨⟨t457, t460, t461, t462, t463⟩, A1070, H⟩ := H
              replace H : (if t401 = true then (if (t450 == t461 && (t451 == t462 && (t452 == t463))) = true then ((gaiterref01_Flat.f kj96 l3).bind fun t466 => (if 0 ≤ t453 then (if t453 ≤ (t466.length : Int) then ((gaiterlaw00_Is.f kj96 t457 t460 (t466.take (t453 : Int).toNat)).bind fun t473 => (some (t473 == 1))) else (none)) else (none))) else (none)) else (none)) = some r := H
              have A107 := Aside0.mk A1070
              clear A1070
              by_cases c108 : t401 = true
              ·subst c108
               have H1 : (if (t450 == t461 && (t451 == t462 && (t452 == t463))) = true then ((gaiterref01_Flat.f kj96 l3).bind fun t466 => (if 0 ≤ t453 then (if t453 ≤ (t466.length : Int) then ((gaiterlaw00_Is.f kj96 t457 t460 (t466.take (t453 : Int).toNat)).bind fun t473 => (some (t473 == 1))) else (none)) else (none))) else (none)) = some r := by rw [if_pos rfl] at H; exact H
               clear H
               have H := H1
               clear H1
               by_cases c109 : (t450 == t461 && (t451 == t462 && (t452 == t463))) = true
               ·rw [if_pos c109] at H
                have c109b0 : (t450 == t461 && (t451 == t462 && (t452 == t463))) = true := c109
                (try (have c109b1 : decide (t450 = t461 && (t451 == t462 && (t452 == t463))) = true := by simpa using c109))
                (try (have c109b2 : (t450 == t461 && (t451 == t462 && (t452 == t463))) = true := by simpa using c109))
                clear c109
                replace H := Option.bind_eq_some_iff.mp H
                obtain ⟨t466, A1100, H⟩ := H
                replace H : (if 0 ≤ t453 then (if t453 ≤ (t466.length : Int) then ((gaiterlaw00_Is.f kj96 t457 t460 (t466.take (t453 : Int).toNat)).bind fun t473 => (some (t473 == 1))) else (none)) else (none)) = some r := H
                have A110 := Aside0.mk A1100
                clear A1100
                by_cases c111 : 0 ≤ t453
                ·rw [if_pos c111] at H
                 have c111b0 := eq_true c111
                 have c111b1 : decide (0 ≤ t453) = true := decide_eq_true c111
                 clear c111
                 by_cases c112 : t453 ≤ (t466.length : Int)
                 ·rw [if_pos c112] at H
                  have c112b0 := eq_true c112
                  have c112b1 : decide (t453 ≤ (t466.length : Int)) = true := decide_eq_true c112
                  clear c112
                  obtain ⟨y469, hy469⟩ : ∃ y_ : List Int, y_ = (t466.take (t453 : Int).toNat) := ⟨_, rfl⟩
                  replace H : ((gaiterlaw00_Is.f kj96 t457 t460 y469).bind fun t473 => (some (t473 == 1))) = some r := by first | (rw [hy469]; with_reducible exact H) | (have H2_ := (Option.bind_some _ _).symm.trans H; rw [hy469]; with_reducible exact H2_) | (have H2_ := (Option.bind_some _ _).symm.trans H; with_reducible exact H2_) | with_reducible exact H | (rw [hy469]; exact H) | exact H
                  have Ny469 := Aside0.mk hy469
                  clear hy469
                  replace H := Option.bind_eq_some_iff.mp H
                  obtain ⟨t473, A1130, H⟩ := H
                  replace H : (some (t473 == 1)) = some r := H
                  have A113 := Aside0.mk A1130
                  clear A1130
                  obtain rfl := Option.some.inj H
                  have hnb114 := NB407_406.out
                  have hnc114 := NB406_407.out
                  have hnb115 := NB407_455.out
                  have hnc115 := NB455_407.out
                  obtain ⟨hcz116_0, hcz116_1, hcz116_2⟩ := kc3 BK407
                  obtain ⟨hfz116_0, hfz116_1, hfz116_2⟩ := kf3 BK407
                  try go_wp2_with (first | ((with_reducible refine gate_callee (f := 14) rfl ?_); refine goesL_ (some 156) rfl rfl Tryd.func14 (by kernel_rfl) rfl #[.agg #[.int .u64 x408000_3, .int .i64 x408001_3, .int .i64 x408002_3], .int .u64 t449] rfl km ?_; (with_reducible refine (xor_Code.calls kj96 x408000_3 x408001_3 x408002_3 t449 t457 t460 t461 t462 t463 _ ?side1 A107.out).mono ?_); (case side1 => exact TabOk.below HT.out (kl HB) (Nat.le_refl _)); rintro e w117 ⟨v458, rfl, ho0, hb⟩; refine ⟨_, rfl, ?_⟩; have HO459 := Aside0.mk (Kd.R_lower (Kd.R_new' ho0 (Kd.R_lt (kr HO_407000))) (below_size (kl HB))); replace HO_407000 := Aside0.mk (Kd.R_elder' (kr HO_407000) (Kd.R_base ho0) hb); replace BK406 := kB BK406 hb; replace BK407 := kB BK407 hb; replace BK455 := kB BK455 hb; replace HB := kH HB hb; (try clear hb); (try clear hb2); (try clear hk); (try clear hi); (try clear ho0)) | ((with_reducible refine gate_dst (N := 27) rfl ?_); (try (refine gate_guard (by rfl) ?_; dsimp only)); refine box_event ?hg (N := 27) ?hd (cs := #[.slice none 0 0, .int .i64 0]) (t := 31) ?hr ?_; (case hd => rfl); (case hg => rfl); (case hr => first | (go_simp; done) | (go_simp; rfl)); intro gb464 hg w118 hbox hb; replace HO_407000 := Aside0.mk (Kd.R_below (kr HO_407000) hb); replace HO459 := Aside0.mk (Kd.R_below (kr HO459) hb); have BK464 := Aside0.mk (hbox); have GW464 := kG hg HB; have GE464 := kG hg HB; replace HB := kH HB hb; obtain ⟨NB406_464, NB464_406⟩ := kN hg BK406; replace BK406 := kB BK406 hb; obtain ⟨NB407_464, NB464_407⟩ := kN hg BK407; replace BK407 := kB BK407 hb; obtain ⟨NB455_464, NB464_455⟩ := kN hg BK455; replace BK455 := kB BK455 hb; clear hb hbox hg) | ((with_reducible refine gate_dst (N := 28) rfl ?_); (try (refine gate_guard (by rfl) ?_; dsimp only)); refine box_event ?hg (N := 28) ?hd (cs := #[.int .u64 0, .int .i64 0, .int .i64 0]) (t := 24) ?hr ?_; (case hd => rfl); (case hg => rfl); (case hr => first | (go_simp; done) | (go_simp; rfl)); intro gb465 hg w119 hbox hb; replace HO_407000 := Aside0.mk (Kd.R_below (kr HO_407000) hb); replace HO459 := Aside0.mk (Kd.R_below (kr HO459) hb); have BK465 := Aside0.mk (hbox); have GW465 := kG hg HB; have GE465 := kG hg HB; replace HB := kH HB hb; obtain ⟨NB406_465, NB465_406⟩ := kN hg BK406; replace BK406 := kB BK406 hb; obtain ⟨NB407_465, NB465_407⟩ := kN hg BK407; replace BK407 := kB BK407 hb; obtain ⟨NB455_465, NB465_455⟩ := kN hg BK455; replace BK455 := kB BK455 hb; obtain ⟨NB464_465, NB465_464⟩ := kN hg BK464; replace BK464 := kB BK464 hb; clear hb hbox hg; obtain ⟨Ao120, co120, eo120⟩ := Kd.R_slice HO459.out; subst eo120; have hnb121 := NB464_406.out; have hnc121 := NB406_464.out; have hnb122 := NB464_407.out; have hnc122 := NB407_464.out; have hnb123 := NB464_455.out; have hnc123 := NB455_464.out; have hnb124 := NB464_465.out; have hnc124 := NB465_464.out; have hcz125_0 : w119.cell? ⟨gb464, 0, none⟩ = some (.slice none 0 0) := (blk_cell BK464.out 0).trans rfl; have hcz125_1 : w119.cell? ⟨gb464, 1, none⟩ = some (.int .i64 0) := (blk_cell BK464.out 1).trans rfl; have hfz125_0 := blk_frozen BK464.out 0; have hfz125_1 := blk_frozen BK464.out 1; have hnb126 := NB465_406.out; have hnc126 := NB406_465.out; have hnb127 := NB465_407.out; have hnc127 := NB407_465.out; have hnb128 := NB465_455.out; have hnc128 := NB455_465.out; have hcz129_0 : w119.cell? ⟨gb465, 0, none⟩ = some (.int .u64 0) := (blk_cell BK465.out 0).trans rfl; have hcz129_1 : w119.cell? ⟨gb465, 1, none⟩ = some (.int .i64 0) := (blk_cell BK465.out 1).trans rfl; have hcz129_2 : w119.cell? ⟨gb465, 2, none⟩ = some (.int .i64 0) := (blk_cell BK465.out 2).trans rfl; have hfz129_0 := blk_frozen BK465.out 0; have hfz129_1 := blk_frozen BK465.out 1; have hfz129_2 := blk_frozen BK465.out 2))
                  have n0_ : Aside0 (Kd.R (Kd.int .u8) 5 (((((w119.setCell ⟨gb464, 0, none⟩ (.slice Ao120 t457.length co120)).setCell ⟨gb464, 1, none⟩ (.int .i64 t460)).setCell ⟨gb465, 0, none⟩ (.int .u64 t461)).setCell ⟨gb465, 1, none⟩ (.int .i64 t462)).setCell ⟨gb465, 2, none⟩ (.int .i64 t463)) w.heap.size (fun k_ => some k_ ≠ (.slice Ao120 t457.length co120 : Value).ownBlock) (.slice Ao54 t426.length co54) t426) := ⟨by (with_reducible repeat (first | apply Kd.R_alloc | apply Kd.R_drewN | apply Kd.R_drew)); exact Kd.R_mono (Kd.R_far (p := ⟨gb465, 2, none⟩) (Kd.R_far (p := ⟨gb465, 1, none⟩) (Kd.R_far (p := ⟨gb465, 0, none⟩) (Kd.R_far (p := ⟨gb464, 1, none⟩) (Kd.R_far (p := ⟨gb464, 0, none⟩) (Kd.R_types (Kd.R_types HO_407000.out BK464.out (by decide)) BK465.out (by decide)) (fun _ hk => hk.1.2) (.slice Ao120 t457.length co120)) (fun _ hk => hk.1.2) (.int .i64 t460)) (fun _ hk => hk.2) (.int .u64 t461)) (fun _ hk => hk.2) (.int .i64 t462)) (fun _ hk => hk.2) (.int .i64 t463)) (fun _ hk => hk.1.1.2)⟩
                  have n1_ : Aside0 (Kd.R (Kd.int .u8) 5 (((((w119.setCell ⟨gb464, 0, none⟩ (.slice Ao120 t457.length co120)).setCell ⟨gb464, 1, none⟩ (.int .i64 t460)).setCell ⟨gb465, 0, none⟩ (.int .u64 t461)).setCell ⟨gb465, 1, none⟩ (.int .i64 t462)).setCell ⟨gb465, 2, none⟩ (.int .i64 t463)) w.heap.size (fun k_ => some k_ ≠ (.slice Ao54 t426.length co54 : Value).ownBlock) (.slice Ao120 t457.length co120) t457) := ⟨by (with_reducible repeat (first | apply Kd.R_alloc | apply Kd.R_drewN | apply Kd.R_drew)); exact Kd.R_mono (Kd.R_far (p := ⟨gb465, 2, none⟩) (Kd.R_far (p := ⟨gb465, 1, none⟩) (Kd.R_far (p := ⟨gb465, 0, none⟩) (Kd.R_far (p := ⟨gb464, 1, none⟩) (Kd.R_far (p := ⟨gb464, 0, none⟩) (Kd.R_types (Kd.R_types HO459.out BK464.out (by decide)) BK465.out (by decide)) (fun _ hk => hk.1.2) (.slice Ao120 t457.length co120)) (fun _ hk => hk.1.2) (.int .i64 t460)) (fun _ hk => hk.2) (.int .u64 t461)) (fun _ hk => hk.2) (.int .i64 t462)) (fun _ hk => hk.2) (.int .i64 t463)) (fun _ hk => hk.1.1.2)⟩
                  have n2_ : Aside0 ((((((w119.setCell ⟨gb464, 0, none⟩ (.slice Ao120 t457.length co120)).setCell ⟨gb464, 1, none⟩ (.int .i64 t460)).setCell ⟨gb465, 0, none⟩ (.int .u64 t461)).setCell ⟨gb465, 1, none⟩ (.int .i64 t462)).setCell ⟨gb465, 2, none⟩ (.int .i64 t463)).heap[gb406]? = some (.cells #[.slice Ao54 t426.length co54, .int .i64 t429] 31 (0, 0))) := ⟨by (with_reducible repeat (first | refine blk_drewN ?_ _ | refine blk_drew ?_ | refine blk_alloc ?_ _)); refine blk_far ?_ NB406_465.out _; (with_reducible repeat (first | refine blk_drewN ?_ _ | refine blk_drew ?_ | refine blk_alloc ?_ _)); refine blk_far ?_ NB406_465.out _; (with_reducible repeat (first | refine blk_drewN ?_ _ | refine blk_drew ?_ | refine blk_alloc ?_ _)); refine blk_far ?_ NB406_465.out _; (with_reducible repeat (first | refine blk_drewN ?_ _ | refine blk_drew ?_ | refine blk_alloc ?_ _)); refine blk_far ?_ NB406_464.out _; (with_reducible repeat (first | refine blk_drewN ?_ _ | refine blk_drew ?_ | refine blk_alloc ?_ _)); refine blk_far ?_ NB406_464.out _; (with_reducible repeat (first | refine blk_drewN ?_ _ | refine blk_drew ?_ | refine blk_alloc ?_ _)); exact BK406.out⟩
                  have n3_ : Aside0 ((((((w119.setCell ⟨gb464, 0, none⟩ (.slice Ao120 t457.length co120)).setCell ⟨gb464, 1, none⟩ (.int .i64 t460)).setCell ⟨gb465, 0, none⟩ (.int .u64 t461)).setCell ⟨gb465, 1, none⟩ (.int .i64 t462)).setCell ⟨gb465, 2, none⟩ (.int .i64 t463)).heap[gb407]? = some (.cells #[.int .u64 x408000_3, .int .i64 x408001_3, .int .i64 x408002_3] 24 (0, 0))) := ⟨by (with_reducible repeat (first | refine blk_drewN ?_ _ | refine blk_drew ?_ | refine blk_alloc ?_ _)); refine blk_far ?_ NB407_465.out _; (with_reducible repeat (first | refine blk_drewN ?_ _ | refine blk_drew ?_ | refine blk_alloc ?_ _)); refine blk_far ?_ NB407_465.out _; (with_reducible repeat (first | refine blk_drewN ?_ _ | refine blk_drew ?_ | refine blk_alloc ?_ _)); refine blk_far ?_ NB407_465.out _; (with_reducible repeat (first | refine blk_drewN ?_ _ | refine blk_drew ?_ | refine blk_alloc ?_ _)); refine blk_far ?_ NB407_464.out _; (with_reducible repeat (first | refine blk_drewN ?_ _ | refine blk_drew ?_ | refine blk_alloc ?_ _)); refine blk_far ?_ NB407_464.out _; (with_reducible repeat (first | refine blk_drewN ?_ _ | refine blk_drew ?_ | refine blk_alloc ?_ _)); exact BK407.out⟩
                  have n4_ : Aside0 ((((((w119.setCell ⟨gb464, 0, none⟩ (.slice Ao120 t457.length co120)).setCell ⟨gb464, 1, none⟩ (.int .i64 t460)).setCell ⟨gb465, 0, none⟩ (.int .u64 t461)).setCell ⟨gb465, 1, none⟩ (.int .i64 t462)).setCell ⟨gb465, 2, none⟩ (.int .i64 t463)).heap[gb455]? = some (.cells #[.int .u64 t450, .int .i64 t451, .int .i64 t452] 24 (0, 0))) := ⟨by (with_reducible repeat (first | refine blk_drewN ?_ _ | refine blk_drew ?_ | refine blk_alloc ?_ _)); refine blk_far ?_ NB455_465.out _; (with_reducible repeat (first | refine blk_drewN ?_ _ | refine blk_drew ?_ | refine blk_alloc ?_ _)); refine blk_far ?_ NB455_465.out _; (with_reducible repeat (first | refine blk_drewN ?_ _ | refine blk_drew ?_ | refine blk_alloc ?_ _)); refine blk_far ?_ NB455_465.out _; (with_reducible repeat (first | refine blk_drewN ?_ _ | refine blk_drew ?_ | refine blk_alloc ?_ _)); refine blk_far ?_ NB455_464.out _; (with_reducible repeat (first | refine blk_drewN ?_ _ | refine blk_drew ?_ | refine blk_alloc ?_ _)); refine blk_far ?_ NB455_464.out _; (with_reducible repeat (first | refine blk_drewN ?_ _ | refine blk_drew ?_ | refine blk_alloc ?_ _)); exact BK455.out⟩
                  have n5_ : Aside0 ((((((w119.setCell ⟨gb464, 0, none⟩ (.slice Ao120 t457.length co120)).setCell ⟨gb464, 1, none⟩ (.int .i64 t460)).setCell ⟨gb465, 0, none⟩ (.int .u64 t461)).setCell ⟨gb465, 1, none⟩ (.int .i64 t462)).setCell ⟨gb465, 2, none⟩ (.int .i64 t463)).heap[gb464]? = some (.cells #[.slice Ao120 t457.length co120, .int .i64 t460] 31 (0, 0))) := ⟨by (with_reducible repeat (first | refine blk_drewN ?_ _ | refine blk_drew ?_ | refine blk_alloc ?_ _)); refine blk_far ?_ NB464_465.out _; (with_reducible repeat (first | refine blk_drewN ?_ _ | refine blk_drew ?_ | refine blk_alloc ?_ _)); refine blk_far ?_ NB464_465.out _; (with_reducible repeat (first | refine blk_drewN ?_ _ | refine blk_drew ?_ | refine blk_alloc ?_ _)); refine blk_far ?_ NB464_465.out _; (with_reducible repeat (first | refine blk_drewN ?_ _ | refine blk_drew ?_ | refine blk_alloc ?_ _)); refine blk_put (cs := #[.slice Ao120 t457.length co120, .int .i64 0]) ?_ 1 _ rfl; (with_reducible repeat (first | refine blk_drewN ?_ _ | refine blk_drew ?_ | refine blk_alloc ?_ _)); refine blk_put (cs := #[.slice none 0 0, .int .i64 0]) ?_ 0 _ rfl; (with_reducible repeat (first | refine blk_drewN ?_ _ | refine blk_drew ?_ | refine blk_alloc ?_ _)); exact BK464.out⟩
                  have n6_ : Aside0 ((((((w119.setCell ⟨gb464, 0, none⟩ (.slice Ao120 t457.length co120)).setCell ⟨gb464, 1, none⟩ (.int .i64 t460)).setCell ⟨gb465, 0, none⟩ (.int .u64 t461)).setCell ⟨gb465, 1, none⟩ (.int .i64 t462)).setCell ⟨gb465, 2, none⟩ (.int .i64 t463)).heap[gb465]? = some (.cells #[.int .u64 t461, .int .i64 t462, .int .i64 t463] 24 (0, 0))) := ⟨by (with_reducible repeat (first | refine blk_drewN ?_ _ | refine blk_drew ?_ | refine blk_alloc ?_ _)); refine blk_put (cs := #[.int .u64 t461, .int .i64 t462, .int .i64 0]) ?_ 2 _ rfl; (with_reducible repeat (first | refine blk_drewN ?_ _ | refine blk_drew ?_ | refine blk_alloc ?_ _)); refine blk_put (cs := #[.int .u64 t461, .int .i64 0, .int .i64 0]) ?_ 1 _ rfl; (with_reducible repeat (first | refine blk_drewN ?_ _ | refine blk_drew ?_ | refine blk_alloc ?_ _)); refine blk_put (cs := #[.int .u64 0, .int .i64 0, .int .i64 0]) ?_ 0 _ rfl; (with_reducible repeat (first | refine blk_drewN ?_ _ | refine blk_drew ?_ | refine blk_alloc ?_ _)); refine blk_far ?_ NB465_464.out _; (with_reducible repeat (first | refine blk_drewN ?_ _ | refine blk_drew ?_ | refine blk_alloc ?_ _)); refine blk_far ?_ NB465_464.out _; (with_reducible repeat (first | refine blk_drewN ?_ _ | refine blk_drew ?_ | refine blk_alloc ?_ _)); exact BK465.out⟩
                  have n7_ : Aside0 (Below w.heap.size w (((((w119.setCell ⟨gb464, 0, none⟩ (.slice Ao120 t457.length co120)).setCell ⟨gb464, 1, none⟩ (.int .i64 t460)).setCell ⟨gb465, 0, none⟩ (.int .u64 t461)).setCell ⟨gb465, 1, none⟩ (.int .i64 t462)).setCell ⟨gb465, 2, none⟩ (.int .i64 t463))) := ⟨by repeat (first | (with_reducible first | exact HB.out | apply below_alloc | apply pw_below_drewN | apply below_drew1 | refine below_set ?_ GE406.out | refine below_set ?_ GE407.out | refine below_set ?_ GE455.out | refine below_set ?_ GE464.out | refine below_set ?_ GE465.out) | exact HB.out)⟩
                  (try clear HO_407000)
                  (try clear HO459)
                  (try clear BK406)
                  (try clear BK407)
                  (try clear BK455)
                  (try clear BK464)
                  (try clear BK465)
                  (try clear HB)
                  generalize (((((w119.setCell ⟨gb464, 0, none⟩ (.slice Ao120 t457.length co120)).setCell ⟨gb464, 1, none⟩ (.int .i64 t460)).setCell ⟨gb465, 0, none⟩ (.int .u64 t461)).setCell ⟨gb465, 1, none⟩ (.int .i64 t462)).setCell ⟨gb465, 2, none⟩ (.int .i64 t463)) = w130 at n0_ n1_ n2_ n3_ n4_ n5_ n6_ n7_ ⊢
                  have HO_407000 := n0_
                  have HO459 := n1_
                  have BK406 := n2_
                  have BK407 := n3_
                  have BK455 := n4_
                  have BK464 := n5_
                  have BK465 := n6_
                  have HB := n7_
                  clear n0_ n1_ n2_ n3_ n4_ n5_ n6_ n7_
                  replace HO_407000 := Aside0.mk (Kd.R_drew HO_407000.out)
                  replace HO459 := Aside0.mk (Kd.R_drew HO459.out)
                  replace BK406 := Aside0.mk (blk_drew BK406.out)
                  replace BK407 := Aside0.mk (blk_drew BK407.out)
                  replace BK455 := Aside0.mk (blk_drew BK455.out)
                  replace BK464 := Aside0.mk (blk_drew BK464.out)
                  replace BK465 := Aside0.mk (blk_drew BK465.out)
                  replace HB := Aside0.mk (below_drew1 HB.out)
                  refine start_ (n := 16) (S := fun w' => w'.cell? ⟨gb455, 0, none⟩ = some (.int .u64 t450) ∧ w'.cell? ⟨gb455, 1, none⟩ = some (.int .i64 t451) ∧ w'.cell? ⟨gb455, 2, none⟩ = some (.int .i64 t452) ∧ w'.cell? ⟨gb465, 0, none⟩ = some (.int .u64 t461) ∧ w'.cell? ⟨gb465, 1, none⟩ = some (.int .i64 t462) ∧ w'.cell? ⟨gb465, 2, none⟩ = some (.int .i64 t463) ∧ w'.cell? ⟨gb464, 0, none⟩ = some (.slice Ao120 t457.length co120) ∧ w'.cell? ⟨gb464, 1, none⟩ = some (.int .i64 t460)) (ds := []) (bl 16 0) (by kernel_rfl) rfl rfl kz (fun hHeld => ?_); refine with_tabW gaiterlaw07_XorBack.tab30 gaiterlaw07_XorBack.bits30 (fun HT_ HW_ => ?_)
                  generalize w130.drew = w131 at HO_407000 HO459 BK406 BK407 BK455 BK464 BK465 HB hHeld ⊢
                  refine pu 0 (some 159) (bl 16 1) (h := ?_)
                  refine pu 1 (some 160) (bl 16 3) (h := ?_)
                  refine ta 2 (some 161) (bl 16 7) (h := ?_)
                  refine ta 3 (some 162) (bl 16 15) (h := ?_)
                  refine pu 4 (some 163) (bl 16 31) (h := ?_)
                  refine pu 5 (some 164) (bl 16 63) (h := ?_)
                  refine pu 6 (some 165) (bl 16 127) (h := ?_)
                  refine pu 8 (some 167) (bl 16 383) (h := ?_)
                  refine pu 10 (some 169) (bl 16 1407) (h := ?_)
                  refine ta 7 (some 166) (bl 16 1535) (h := ?_)
                  refine one_ (i := 9) (N := some 168) #[true, true, true, true, true, true, true, true, true, true, true, false, false, false, false, false] rfl rfl (one_of HT_.out (by kernel_rfl)) (by decide) (fun K hK => ?_)
                  refine goes_ Tryd.func23 (by kernel_rfl) rfl #[.slice A3 l3.length c3] (by rfl) rfl rfl km ?_
                  with_reducible refine (gaiterref01_Flat.calls kj96 _ _ l3 t466 _ ?side1 ?side2 A110.out).mono ?_
                  (case side1 => repeat (first | exact (Kd.C_below HR3.out HB.out) | (with_reducible refine Kd.C_alloc ?_ _) | (with_reducible refine Kd.C_drewN ?_ _) | (with_reducible refine Kd.C_drew ?_)))
                  (case side2 => exact HC3.out)
                  rintro e w132 ⟨v467, rfl, ho0, hb⟩
                  refine ⟨_, rfl, ?_⟩
                  have HO468 := Aside0.mk (Kd.R_lower (Kd.R_new' (Kd.R_new' ho0 (Kd.R_lt (kr HO_407000))) (Kd.R_lt (kr HO459))) (below_size (kl HB)))
                  replace HO_407000 := Aside0.mk (Kd.R_elder' (kr HO_407000) (Kd.R_base ho0) hb)
                  replace HO459 := Aside0.mk (Kd.R_elder' (kr HO459) (Kd.R_base ho0) hb)
                  replace BK406 := kB BK406 hb
                  replace BK407 := kB BK407 hb
                  replace BK455 := kB BK455 hb
                  replace BK464 := kB BK464 hb
                  replace BK465 := kB BK465 hb
                  replace HB := kH HB hb
                  (try clear hb)
                  (try clear hb2)
                  (try clear hk)
                  (try clear hi)
                  (try clear ho0)
                  obtain ⟨Ao134, co134, eo134⟩ := Kd.R_slice HO468.out
                  (first | subst eo134 | (injection eo134 with f1_ f2_ f3_; have f4_ := f1_.symm; have f5_ := f3_.symm; clear f1_ f2_ f3_; subst f4_; subst f5_))
                  have q133 : (t453 : Int) ≤ ((t466.length : Int) : Int) := of_decide_eq_true (by first | (with_reducible assumption) | assumption)
                  obtain ⟨i0133, hi0133, _, hsz133, _⟩ := info_parts info5
                  have hroom133 : t466.length ≤ co134 := (Kd.R_reads' HO468.out).2.1
                  have hC133 : Kd.C (Kd.int .u8) _ Ao134 t466.length t466 := (Kd.R_reads' HO468.out).2.2
                  have hcut133 := cut_to (P := Tryd.prog) 25 5 .i64 Tryd.underlying25 hi0133 Ao134 t466.length co134 t453 (of_decide_eq_true (by first | (with_reducible assumption) | assumption)) q133 hroom133
                  have hr133 := Kd.C_take (m := (t453 : Int).toNat) hC133 (by omega)
                  have hy133 : y469.length = (t453 : Int).toNat := (by rw [Ny469.out, List.length_take]; omega)
                  rw [← Ny469.out] at hr133
                  rw [← hy133] at hcut133
                  have HR472 := Aside0.mk hr133
                  have HC472 := Aside0.mk (show y469.length ≤ co134 from by omega)
                  clear hr133 hC133 hroom133 hi0133 hsz133
                  have KY133 := Aside0.mk hy133
                  clear hy133
                  have KL133 := Aside0.mk (show (t453 : Int).toNat ≤ t466.length from by omega)
                  (try (have q133s := q133; simp only [List.length_drop, List.length_take] at q133s; replace q133s := eq_true q133s)); replace q133 := eq_true q133
                  refine hK.out _ _ kz (fun hHeld => ?_)
                  clear hK K
                  refine norm_ (a' := ?_) ?_ ?_
                  rotate_left
                  ·show Act.put _ (some 168) _ = _
                   simp only [Act.put, List.setIfInBounds_toArray, List.set_cons_zero, List.set_cons_succ, i64_w, i32_w]
                   rfl
                  refine pu 11 (some 170) (bl 16 4095) (h := ?_)
                  refine one_ (i := 12) (N := some 171) #[true, true, true, true, true, true, true, true, true, true, true, true, true, false, false, false] rfl rfl (one_of HT_.out (by kernel_rfl)) (by decide) (fun K hK => ?_)
                  refine goes_ Tryd.func19 (by kernel_rfl) rfl #[.agg #[.slice Ao120 t457.length co120, .int .i64 t460], .slice Ao134 y469.length co134] (by rfl) rfl rfl km ?_
                  with_reducible refine (gaiterlaw00_Is.calls kj96 _ _ t457 t460 _ _ y469 t473 _ ?side1 ?side2 ?side3 ?side4 A113.out).mono ?_
                  (case side1 => repeat (first | exact (Kd.R_reads' HO459.out).2.2 | (with_reducible refine Kd.C_alloc ?_ _) | (with_reducible refine Kd.C_drewN ?_ _) | (with_reducible refine Kd.C_drew ?_)))
                  (case side2 => exact (Kd.R_reads' HO459.out).2.1)
                  (case side3 => repeat (first | exact (by repeat (first | (with_reducible exact HR472.out) | (with_reducible refine Kd.C_alloc ?_ _) | (with_reducible refine Kd.C_drewN ?_ _) | (with_reducible refine Kd.C_drew ?_) | exact HR472.out)) | (with_reducible refine Kd.C_alloc ?_ _) | (with_reducible refine Kd.C_drewN ?_ _) | (with_reducible refine Kd.C_drew ?_)))
                  (case side4 => exact HC472.out)
                  rintro e w135 ⟨rfl, hb⟩
                  refine ⟨_, rfl, ?_⟩
                  replace HO_407000 := Aside0.mk (Kd.R_below (kr HO_407000) hb)
                  replace HO459 := Aside0.mk (Kd.R_below (kr HO459) hb)
                  replace HO468 := Aside0.mk (Kd.R_below (kr HO468) hb)
                  replace BK406 := kB BK406 hb
                  replace BK407 := kB BK407 hb
                  replace BK455 := kB BK455 hb
                  replace BK464 := kB BK464 hb
                  replace BK465 := kB BK465 hb
                  replace HR472 := Aside0.mk (Kd.C_below (by repeat (first | (with_reducible exact HR472.out) | (with_reducible refine Kd.C_alloc ?_ _) | (with_reducible refine Kd.C_drewN ?_ _) | (with_reducible refine Kd.C_drew ?_) | exact HR472.out)) hb)
                  replace HB := kH HB hb
                  (try clear hb)
                  (try clear hb2)
                  (try clear hk)
                  (try clear hi)
                  refine hK.out _ _ kz (fun hHeld => ?_)
                  clear hK K
                  refine norm_ (a' := ?_) ?_ ?_
                  rotate_left
                  ·show Act.put _ (some 171) _ = _
                   simp only [Act.put, List.setIfInBounds_toArray, List.set_cons_zero, List.set_cons_succ, i64_w, i32_w]
                   rfl
                  refine pu 13 (some 172) (bl 16 16383) (h := ?_)
                  refine pu 14 (some 173) (bl 16 32767) (h := ?_)
                  refine pu 15 (some 8) (bl 16 65535) (h := ?_)
                  refine done_ (done_of HT_.out (by kernel_rfl)) ?_
                  try go_wp2
                  go_ret
                  exact ⟨by first | rfl | (simp [errW_none, errW_some] <;> rfl) | (simp [*, errW_none, errW_some] <;> rfl), by repeat (first | (with_reducible first | exact HB.out | apply below_alloc | apply pw_below_drewN | apply below_drew1 | refine below_set ?_ GE406.out | refine below_set ?_ GE407.out | refine below_set ?_ GE455.out | refine below_set ?_ GE464.out | refine below_set ?_ GE465.out) | exact HB.out)⟩
                 ·rw [if_neg c112] at H
                  exact absurd H (by simp)
                ·rw [if_neg c111] at H
                 exact absurd H (by simp)
               ·rw [if_neg c109] at H
                have c109b0 : (t450 == t461 && (t451 == t462 && (t452 == t463))) = false := by simpa using c109
                (try (have c109b1 : decide (t450 = t461 && (t451 == t462 && (t452 == t463))) = false := by simpa using c109))
                (try (have c109b2 : (t450 == t461 && (t451 == t462 && (t452 == t463))) = false := by simpa using c109))
                (try (have c109b3 : ¬ (t450 = t461 && (t451 == t462 && (t452 == t463))) := by simpa using c109))
                clear c109
                exact absurd H (by simp)
              ·replace c108 := Bool.eq_false_iff.mpr c108
               subst c108
               have H1 : (none) = some r := by rw [if_neg (show ¬ (false = true) by decide)] at H; exact H
               clear H
               have H := H1
               clear H1
               exact absurd H (by simp)
          ·have H1 : (some t401) = some r := by rw [if_neg (show ¬ (some q456).isNone = true by simp)] at H; exact H
           clear H
           have H := H1
           clear H1
           try simp only [errW_none, errW_some]
           obtain rfl := Option.some.inj H
           have hnb136 := NB407_406.out
           have hnc136 := NB406_407.out
           obtain ⟨hcz137_0, hcz137_1, hcz137_2⟩ := kc3 BK407
           obtain ⟨hfz137_0, hfz137_1, hfz137_2⟩ := kf3 BK407
           go_wp2_with (first | ((with_reducible refine gate_callee (f := 16) rfl ?_); refine goesL_ (some 136) rfl rfl Tryd.func16 (by kernel_rfl) rfl #[.agg #[.int .u64 x408000_3, .int .i64 x408001_3, .int .i64 x408002_3], .slice A3 l3.length c3, .int .i64 0] rfl km ?_; (with_reducible refine (xor_Get.calls k3 x408000_3 x408001_3 x408002_3 _ _ l3 0 t449 t450 t451 t452 t453 (some q456) _ ?side1 ?side2 ?side3 A96.out).mono ?_); (case side1 => exact TabOk.below HT.out (kl HB) (Nat.le_refl _)); (case side2 => repeat (first | exact (Kd.C_below HR3.out HB.out) | (with_reducible refine Kd.C_alloc ?_ _) | (with_reducible refine Kd.C_drewN ?_ _) | (with_reducible refine Kd.C_drew ?_))); (case side3 => exact HC3.out); rintro e w138 ⟨rfl, hb⟩; refine ⟨_, rfl, ?_⟩; replace HO_407000 := Aside0.mk (Kd.R_below (kr HO_407000) hb); replace BK406 := kB BK406 hb; replace BK407 := kB BK407 hb; replace HB := kH HB hb; (try clear hb); (try clear hb2); (try clear hk); (try clear hi); (try simp only [errW_none, errW_some])) | ((with_reducible refine gate_dst (N := 24) rfl ?_); (try (refine gate_guard (by rfl) ?_; dsimp only)); refine box_event ?hg (N := 24) ?hd (cs := #[.int .u64 0, .int .i64 0, .int .i64 0]) (t := 24) ?hr ?_; (case hd => rfl); (case hg => rfl); (case hr => first | (go_simp; done) | (go_simp; rfl)); intro gb455 hg w139 hbox hb; replace HO_407000 := Aside0.mk (Kd.R_below (kr HO_407000) hb); have BK455 := Aside0.mk (hbox); have GW455 := kG hg HB; have GE455 := kG hg HB; replace HB := kH HB hb; obtain ⟨NB406_455, NB455_406⟩ := kN hg BK406; replace BK406 := kB BK406 hb; obtain ⟨NB407_455, NB455_407⟩ := kN hg BK407; replace BK407 := kB BK407 hb; clear hb hbox hg; have hnb140 := NB455_406.out; have hnc140 := NB406_455.out; have hnb141 := NB455_407.out; have hnc141 := NB407_455.out; have hcz142_0 : w139.cell? ⟨gb455, 0, none⟩ = some (.int .u64 0) := (blk_cell BK455.out 0).trans rfl; have hcz142_1 : w139.cell? ⟨gb455, 1, none⟩ = some (.int .i64 0) := (blk_cell BK455.out 1).trans rfl; have hcz142_2 : w139.cell? ⟨gb455, 2, none⟩ = some (.int .i64 0) := (blk_cell BK455.out 2).trans rfl; have hfz142_0 := blk_frozen BK455.out 0; have hfz142_1 := blk_frozen BK455.out 1; have hfz142_2 := blk_frozen BK455.out 2))
           go_ret
           exact ⟨by first | rfl | (simp [errW_none, errW_some] <;> rfl) | (simp [*, errW_none, errW_some] <;> rfl), by repeat (first | (with_reducible first | exact HB.out | apply below_alloc | apply pw_below_drewN | apply below_drew1 | refine below_set ?_ GE406.out | refine below_set ?_ GE407.out | refine below_set ?_ GE455.out) | exact HB.out)⟩

/-- THE ONE PURE STATEMENT of gaiterlaw07_XorBack: yours. -/
def gaiterlaw07_XorBack.Pure : Prop := ∀ (l0 : List Int) (l1 : List Int) (l2 : List Int) (l3 : List Int), l0.length ≤ maxLen → l0.length * 1 ≤ 140737488351232 → (∀ x ∈ l0, (Lit.int .u8 x).wf = true) → l1.length ≤ maxLen → l1.length * 8 ≤ 140737488351232 → (∀ x ∈ l1, (Lit.int .u64 x).wf = true) → l2.length ≤ maxLen → l2.length * 1 ≤ 140737488351232 → (∀ x ∈ l2, (Lit.int .u8 x).wf = true) → l3.length ≤ maxLen → l3.length * 1 ≤ 140737488351232 → (∀ x ∈ l3, (Lit.int .u8 x).wf = true) → ∃ k, gaiterlaw07_XorBack.f k l0 l1 l2 l3 = some true
theorem gaiterlaw07_XorBack.walk (P : gaiterlaw07_XorBack.Pure) (a0 : Option Addr) (len0 cap0 : Nat) (z0 : List Int) (a1 : Option Addr) (len1 cap1 : Nat) (z1 : List Int) (a2 : Option Addr) (len2 cap2 : Nat) (z2 : List Int) (a3 : Option Addr) (len3 cap3 : Nat) (z3 : List Int) (w : World) (hT : TabOk w) (w0 : (a0 = none ∧ len0 = 0 ∧ cap0 = 0 ∧ z0 = []) ∨ ∃ x, a0 = some x ∧ len0 ≤ cap0 ∧ cap0 ≤ maxLen ∧ z0.length = cap0 ∧ (∀ i, i < z0.length → w.cell? (x.add i) = some (.int .u8 (z0.getD i 0))) ∧ ∀ n ∈ z0, (Lit.int .u8 n).wf = true) (y0 : len0 * 1 ≤ 140737488351232) (w1 : (a1 = none ∧ len1 = 0 ∧ cap1 = 0 ∧ z1 = []) ∨ ∃ x, a1 = some x ∧ len1 ≤ cap1 ∧ cap1 ≤ maxLen ∧ z1.length = cap1 ∧ (∀ i, i < z1.length → w.cell? (x.add i) = some (.int .u64 (z1.getD i 0))) ∧ ∀ n ∈ z1, (Lit.int .u64 n).wf = true) (y1 : len1 * 8 ≤ 140737488351232) (w2 : (a2 = none ∧ len2 = 0 ∧ cap2 = 0 ∧ z2 = []) ∨ ∃ x, a2 = some x ∧ len2 ≤ cap2 ∧ cap2 ≤ maxLen ∧ z2.length = cap2 ∧ (∀ i, i < z2.length → w.cell? (x.add i) = some (.int .u8 (z2.getD i 0))) ∧ ∀ n ∈ z2, (Lit.int .u8 n).wf = true) (y2 : len2 * 1 ≤ 140737488351232) (w3 : (a3 = none ∧ len3 = 0 ∧ cap3 = 0 ∧ z3 = []) ∨ ∃ x, a3 = some x ∧ len3 ≤ cap3 ∧ cap3 ≤ maxLen ∧ z3.length = cap3 ∧ (∀ i, i < z3.length → w.cell? (x.add i) = some (.int .u8 (z3.getD i 0))) ∧ ∀ n ∈ z3, (Lit.int .u8 n).wf = true) (y3 : len3 * 1 ≤ 140737488351232) :
  Calls Tryd.prog 4 #[.slice a0 len0 cap0, .slice a1 len1 cap1, .slice a2 len2 cap2, .slice a3 len3 cap3] w fun e w' => e = .returned (.bool true) ∧ Below w.heap.size w w' := by
 obtain ⟨l0, rfl, hr0, hm0, hw0, hc0⟩ := ReadsInt.ofRowC w0
 obtain ⟨l1, rfl, hr1, hm1, hw1, hc1⟩ := ReadsInt.ofRowC w1
 obtain ⟨l2, rfl, hr2, hm2, hw2, hc2⟩ := ReadsInt.ofRowC w2
 obtain ⟨l3, rfl, hr3, hm3, hw3, hc3⟩ := ReadsInt.ofRowC w3
 obtain ⟨k, h⟩ := P l0 l1 l2 l3 hm0 y0 hw0 hm1 y1 hw1 hm2 y2 hw2 hm3 y3 hw3
 refine (gaiterlaw07_XorBack.calls k _ _ l0 _ _ l1 _ _ l2 _ _ l3 true w hT (Kd.C_of_reads (d := (0 : Int)) (h1 := fun _ => rfl) hr0) hc0 (Kd.C_of_reads (d := (0 : Int)) (h1 := fun _ => rfl) hr1) hc1 (Kd.C_of_reads (d := (0 : Int)) (h1 := fun _ => rfl) hr2) hc2 (Kd.C_of_reads (d := (0 : Int)) (h1 := fun _ => rfl) hr3) hc3 h).mono ?_
 rintro e w' ⟨rfl, hd⟩
 exact ⟨rfl, hd⟩

end Go.Proofs.YtiahbcaoikoogaaDoor.All
