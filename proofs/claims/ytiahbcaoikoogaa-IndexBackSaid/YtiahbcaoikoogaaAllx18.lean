-- written by a program of the session out of the translation; Lean checks it
import Derived.Test.YtiahbcaoikoogaaAllx0
import Derived.Test.YtiahbcaoikoogaaAllx9
import Derived.Test.YtiahbcaoikoogaaAllx11
import Derived.Test.YtiahbcaoikoogaaAllx12
import Derived.Test.YtiahbcaoikoogaaAllx15
import Derived.Test.YtiahbcaoikoogaaAllx16
import Derived.Test.YtiahbcaoikoogaaAllx17
namespace Go.Proofs.Ytiahbcaoikoogaa.All
open Go.RowKit Go.Proofs.YtiahbcaoikoogaaW.PrintWords Go.Proofs.YtiahbcaoikoogaaW.PrintLast Go.Proofs.YtiahbcaoikoogaaW.PrintMore
attribute [local go_sem] max2_int min2_int max_two min_two max_three min_three max_four min_four   -- for this text's walks alone
set_option linter.unusedVariables false
set_option linter.unusedSimpArgs false

attribute [local go_sem high] errW_cells errW_match run_store_errW
/-! ### index_Get: function 27 -/
mutual
def index_Get.j0 : Nat → List Int → Bool → List Int → Int → Option Int → Int → Option (Int × (List (S72)) × Int × Option Int)
 | 0, _, _, _, _, _, _ => none
 | k + 1, x0, x42, x307000, x307001, x307002, x312000 => if x42 = true then (index_Get.j1 k x0 x307000 x307001 (some 6) x312000) else (index_Get.j1 k x0 x307000 x307001 x307002 x312000)
def index_Get.j1 : Nat → List Int → List Int → Int → Option Int → Int → Option (Int × (List (S72)) × Int × Option Int)
 | 0, _, _, _, _, _ => none
 | k + 1, x0, x307000, x307001, x307002, x312000 => (index_reader_list.f k x307000 x307001 x307002).bind fun bt313 => ((index_reader_fixed.f k bt313.2.1 bt313.2.2.1 bt313.2.2.2 4).bind fun bt319 => (if bt319.2.2.2.isNone = true then (if 0 ≤ bt313.2.2.1 then (if bt313.2.2.1 ≤ (x0.length : Int) then ((crc_Sum.f k (x0.take (bt313.2.2.1 : Int).toNat)).bind fun t325 => (index_Get.j2 k x0 bt313.1 (bt319.1 != (IntKind.u64.wrap (t325))) bt319.2.1 bt319.2.2.1 none x312000)) else (none)) else (none)) else (index_Get.j2 k x0 bt313.1 false bt319.2.1 bt319.2.2.1 (some (bt319.2.2.2.getD 0)) x312000)))
def index_Get.j2 : Nat → List Int → List (S89) → Bool → List Int → Int → Option Int → Int → Option (Int × (List (S72)) × Int × Option Int)
 | 0, _, _, _, _, _, _, _ => none
 | k + 1, x0, x7, x68, x307000, x307001, x307002, x312000 => if x68 = true then (index_Get.j3 k x0 x7 x307000 x307001 (some 7) x312000) else (index_Get.j3 k x0 x7 x307000 x307001 x307002 x312000)
def index_Get.j3 : Nat → List Int → List (S89) → List Int → Int → Option Int → Int → Option (Int × (List (S72)) × Int × Option Int)
 | 0, _, _, _, _, _, _ => none
 | k + 1, x0, x7, x307000, x307001, x307002, x312000 => if x307002.isNone = true then (index_Get.l0 k (wrap64 ((x0.length : Int) - x307001)) x7 (x7.length : Int) 0 x307000 x307001 none x312000 ([] : List (S72))) else (some (0, ([] : List (S72)), 0, some (x307002.getD 0)))
def index_Get.l0 : Nat → Int → List (S89) → Int → Int → List Int → Int → Option Int → Int → List (S72) → Option (Int × (List (S72)) × Int × Option Int)
 | 0, _, _, _, _, _, _, _, _, _ => none
 | k + 1, x10, x90, x91, x92, x307000, x307001, x307002, x312000, x312001 => if x92 < x91 then (if 0 ≤ x92 then (if x92 < (x90.length : Int) then ((index_entry.f ((rd_T89 x90 x92).f0) ((rd_T89 x90 x92).f1) ((rd_T89 x90 x92).f2) ((rd_T89 x90 x92).f3)).bind fun bt329 => (if bt329.2.2.2.2 = true then (if bt329.2.2.2.1 > x10 then (some (0, ([] : List (S72)), 0, some 8)) else (if x312001.length < 4398046511104 then (index_Get.l0 k (wrap64 (x10 - bt329.2.2.2.1)) x90 x91 (wrap64 (x92 + 1)) x307000 x307001 x307002 x312000 (x312001 ++ [(⟨bt329.1, bt329.2.1, bt329.2.2.1, bt329.2.2.2.1⟩ : S72)])) else (none))) else (some (0, ([] : List (S72)), 0, some 8)))) else (none)) else (none)) else (if x10 = 0 then ((index_may.f k x312000 x312001).bind fun t338 => (if t338 = true then (some (x312000, x312001, x307001, none)) else (some (0, ([] : List (S72)), 0, some 8)))) else (some (0, ([] : List (S72)), 0, some 8)))
end
def index_Get.f (k : Nat) (l0 : List Int) : Option (Int × (List (S72)) × Int × Option Int) := (strings_HasPrefix.f (strOfNums l0) (⟨#[71, 84, 83, 49]⟩ : ByteArray)).bind fun t305 => (if t305 = true then ((index_reader_fixed.f k l0 4 none 1).bind fun bt307 => (if bt307.2.2.2.isNone = true then (if (wrap64 (bt307.1)) = 1 then (index_Get.j0 k l0 false bt307.2.1 bt307.2.2.1 none (wrap64 (bt307.1))) else (index_Get.j0 k l0 ((wrap64 (bt307.1)) != 2) bt307.2.1 bt307.2.2.1 none (wrap64 (bt307.1)))) else (index_Get.j0 k l0 false bt307.2.1 bt307.2.2.1 (some (bt307.2.2.2.getD 0)) (wrap64 (bt307.1))))) else (some (0, ([] : List (S72)), 0, some 5)))
theorem index_Get.mono_l : ∀ k, (∀ y0 y1 y2 y3 y4 y5, LeO (index_Get.j0 k y0 y1 y2 y3 y4 y5) (index_Get.j0 (k + 1) y0 y1 y2 y3 y4 y5)) ∧ (∀ y0 y1 y2 y3 y4, LeO (index_Get.j1 k y0 y1 y2 y3 y4) (index_Get.j1 (k + 1) y0 y1 y2 y3 y4)) ∧ (∀ y0 y1 y2 y3 y4 y5 y6, LeO (index_Get.j2 k y0 y1 y2 y3 y4 y5 y6) (index_Get.j2 (k + 1) y0 y1 y2 y3 y4 y5 y6)) ∧ (∀ y0 y1 y2 y3 y4 y5, LeO (index_Get.j3 k y0 y1 y2 y3 y4 y5) (index_Get.j3 (k + 1) y0 y1 y2 y3 y4 y5)) ∧ (∀ y0 y1 y2 y3 y4 y5 y6 y7 y8, LeO (index_Get.l0 k y0 y1 y2 y3 y4 y5 y6 y7 y8) (index_Get.l0 (k + 1) y0 y1 y2 y3 y4 y5 y6 y7 y8))
 | 0 => ⟨fun _ _ _ _ _ _ r h => by simp [index_Get.j0] at h, fun _ _ _ _ _ r h => by simp [index_Get.j1] at h, fun _ _ _ _ _ _ _ r h => by simp [index_Get.j2] at h, fun _ _ _ _ _ _ r h => by simp [index_Get.j3] at h, fun _ _ _ _ _ _ _ _ _ r h => by simp [index_Get.l0] at h⟩
 | k + 1 => by
  obtain ⟨ih0, ih1, ih2, ih3, ih4⟩ := index_Get.mono_l k
  refine ⟨?_, ?_, ?_, ?_, ?_⟩
  ·intro y0 y1 y2 y3 y4 y5
   unfold index_Get.j0
   repeat' first
   | (with_reducible exact ih0 _ _ _ _ _ _)
   | (with_reducible exact ih1 _ _ _ _ _)
   | (with_reducible exact ih2 _ _ _ _ _ _ _)
   | (with_reducible exact ih3 _ _ _ _ _ _)
   | (with_reducible exact ih4 _ _ _ _ _ _ _ _ _)
   | (with_reducible exact crc_Sum.mono _ _)
   | (with_reducible exact index_may.mono _ _ _)
   | (with_reducible exact index_reader_fixed.mono _ _ _ _ _)
   | (with_reducible exact index_reader_list.mono _ _ _ _)
   | (with_reducible exact LeO.refl _)
   | (with_reducible exact LeO.none _)
   | (with_reducible refine LeO.ite ?_ ?_)
   | (with_reducible refine LeO.bind ?_ (fun _ => ?_))
   | exact ih0 _ _ _ _ _ _
   | exact ih1 _ _ _ _ _
   | exact ih2 _ _ _ _ _ _ _
   | exact ih3 _ _ _ _ _ _
   | exact ih4 _ _ _ _ _ _ _ _ _
   | exact crc_Sum.mono _ _
   | exact index_may.mono _ _ _
   | exact index_reader_fixed.mono _ _ _ _ _
   | exact index_reader_list.mono _ _ _ _
   | exact LeO.none _
   | refine LeO.ite ?_ ?_
   | refine LeO.bind ?_ (fun _ => ?_)
  ·intro y0 y1 y2 y3 y4
   unfold index_Get.j1
   repeat' first
   | (with_reducible exact ih0 _ _ _ _ _ _)
   | (with_reducible exact ih1 _ _ _ _ _)
   | (with_reducible exact ih2 _ _ _ _ _ _ _)
   | (with_reducible exact ih3 _ _ _ _ _ _)
   | (with_reducible exact ih4 _ _ _ _ _ _ _ _ _)
   | (with_reducible exact crc_Sum.mono _ _)
   | (with_reducible exact index_may.mono _ _ _)
   | (with_reducible exact index_reader_fixed.mono _ _ _ _ _)
   | (with_reducible exact index_reader_list.mono _ _ _ _)
   | (with_reducible exact LeO.refl _)
   | (with_reducible exact LeO.none _)
   | (with_reducible refine LeO.ite ?_ ?_)
   | (with_reducible refine LeO.bind ?_ (fun _ => ?_))
   | exact ih0 _ _ _ _ _ _
   | exact ih1 _ _ _ _ _
   | exact ih2 _ _ _ _ _ _ _
   | exact ih3 _ _ _ _ _ _
   | exact ih4 _ _ _ _ _ _ _ _ _
   | exact crc_Sum.mono _ _
   | exact index_may.mono _ _ _
   | exact index_reader_fixed.mono _ _ _ _ _
   | exact index_reader_list.mono _ _ _ _
   | exact LeO.none _
   | refine LeO.ite ?_ ?_
   | refine LeO.bind ?_ (fun _ => ?_)
  ·intro y0 y1 y2 y3 y4 y5 y6
   unfold index_Get.j2
   repeat' first
   | (with_reducible exact ih0 _ _ _ _ _ _)
   | (with_reducible exact ih1 _ _ _ _ _)
   | (with_reducible exact ih2 _ _ _ _ _ _ _)
   | (with_reducible exact ih3 _ _ _ _ _ _)
   | (with_reducible exact ih4 _ _ _ _ _ _ _ _ _)
   | (with_reducible exact crc_Sum.mono _ _)
   | (with_reducible exact index_may.mono _ _ _)
   | (with_reducible exact index_reader_fixed.mono _ _ _ _ _)
   | (with_reducible exact index_reader_list.mono _ _ _ _)
   | (with_reducible exact LeO.refl _)
   | (with_reducible exact LeO.none _)
   | (with_reducible refine LeO.ite ?_ ?_)
   | (with_reducible refine LeO.bind ?_ (fun _ => ?_))
   | exact ih0 _ _ _ _ _ _
   | exact ih1 _ _ _ _ _
   | exact ih2 _ _ _ _ _ _ _
   | exact ih3 _ _ _ _ _ _
   | exact ih4 _ _ _ _ _ _ _ _ _
   | exact crc_Sum.mono _ _
   | exact index_may.mono _ _ _
   | exact index_reader_fixed.mono _ _ _ _ _
   | exact index_reader_list.mono _ _ _ _
   | exact LeO.none _
   | refine LeO.ite ?_ ?_
   | refine LeO.bind ?_ (fun _ => ?_)
  ·intro y0 y1 y2 y3 y4 y5
   unfold index_Get.j3
   repeat' first
   | (with_reducible exact ih0 _ _ _ _ _ _)
   | (with_reducible exact ih1 _ _ _ _ _)
   | (with_reducible exact ih2 _ _ _ _ _ _ _)
   | (with_reducible exact ih3 _ _ _ _ _ _)
   | (with_reducible exact ih4 _ _ _ _ _ _ _ _ _)
   | (with_reducible exact crc_Sum.mono _ _)
   | (with_reducible exact index_may.mono _ _ _)
   | (with_reducible exact index_reader_fixed.mono _ _ _ _ _)
   | (with_reducible exact index_reader_list.mono _ _ _ _)
   | (with_reducible exact LeO.refl _)
   | (with_reducible exact LeO.none _)
   | (with_reducible refine LeO.ite ?_ ?_)
   | (with_reducible refine LeO.bind ?_ (fun _ => ?_))
   | exact ih0 _ _ _ _ _ _
   | exact ih1 _ _ _ _ _
   | exact ih2 _ _ _ _ _ _ _
   | exact ih3 _ _ _ _ _ _
   | exact ih4 _ _ _ _ _ _ _ _ _
   | exact crc_Sum.mono _ _
   | exact index_may.mono _ _ _
   | exact index_reader_fixed.mono _ _ _ _ _
   | exact index_reader_list.mono _ _ _ _
   | exact LeO.none _
   | refine LeO.ite ?_ ?_
   | refine LeO.bind ?_ (fun _ => ?_)
  ·intro y0 y1 y2 y3 y4 y5 y6 y7 y8
   unfold index_Get.l0
   repeat' first
   | (with_reducible exact ih0 _ _ _ _ _ _)
   | (with_reducible exact ih1 _ _ _ _ _)
   | (with_reducible exact ih2 _ _ _ _ _ _ _)
   | (with_reducible exact ih3 _ _ _ _ _ _)
   | (with_reducible exact ih4 _ _ _ _ _ _ _ _ _)
   | (with_reducible exact crc_Sum.mono _ _)
   | (with_reducible exact index_may.mono _ _ _)
   | (with_reducible exact index_reader_fixed.mono _ _ _ _ _)
   | (with_reducible exact index_reader_list.mono _ _ _ _)
   | (with_reducible exact LeO.refl _)
   | (with_reducible exact LeO.none _)
   | (with_reducible refine LeO.ite ?_ ?_)
   | (with_reducible refine LeO.bind ?_ (fun _ => ?_))
   | exact ih0 _ _ _ _ _ _
   | exact ih1 _ _ _ _ _
   | exact ih2 _ _ _ _ _ _ _
   | exact ih3 _ _ _ _ _ _
   | exact ih4 _ _ _ _ _ _ _ _ _
   | exact crc_Sum.mono _ _
   | exact index_may.mono _ _ _
   | exact index_reader_fixed.mono _ _ _ _ _
   | exact index_reader_list.mono _ _ _ _
   | exact LeO.none _
   | refine LeO.ite ?_ ?_
   | refine LeO.bind ?_ (fun _ => ?_)
theorem index_Get.mono : ∀ a0 k, LeO (index_Get.f k a0) (index_Get.f (k + 1) a0) := by
 intro a0 k
 obtain ⟨ih0, ih1, ih2, ih3, ih4⟩ := index_Get.mono_l k
 unfold index_Get.f
 repeat' first
   | (with_reducible exact ih0 _ _ _ _ _ _)
   | (with_reducible exact ih1 _ _ _ _ _)
   | (with_reducible exact ih2 _ _ _ _ _ _ _)
   | (with_reducible exact ih3 _ _ _ _ _ _)
   | (with_reducible exact ih4 _ _ _ _ _ _ _ _ _)
   | (with_reducible exact crc_Sum.mono _ _)
   | (with_reducible exact index_may.mono _ _ _)
   | (with_reducible exact index_reader_fixed.mono _ _ _ _ _)
   | (with_reducible exact index_reader_list.mono _ _ _ _)
   | (with_reducible exact LeO.refl _)
   | (with_reducible exact LeO.none _)
   | (with_reducible refine LeO.ite ?_ ?_)
   | (with_reducible refine LeO.bind ?_ (fun _ => ?_))
   | exact ih0 _ _ _ _ _ _
   | exact ih1 _ _ _ _ _
   | exact ih2 _ _ _ _ _ _ _
   | exact ih3 _ _ _ _ _ _
   | exact ih4 _ _ _ _ _ _ _ _ _
   | exact crc_Sum.mono _ _
   | exact index_may.mono _ _ _
   | exact index_reader_fixed.mono _ _ _ _ _
   | exact index_reader_list.mono _ _ _ _
   | exact LeO.none _
   | refine LeO.ite ?_ ?_
   | refine LeO.bind ?_ (fun _ => ?_)
def index_Get.T13 : Bool × List (List Nat × List Nat) := (true, [([], []), ([], []), ([1], [1]), ([2], [2]), ([3], [3]), ([0, 0], [0]), ([5, 0, 5], []), ([4, 6, 0, 1, 2, 3, 4, 5, 6], [4])])
def index_Get.B13 : List Nat := [0, 0, 2, 6, 14, 1, 33, 127]
theorem index_Get.tab13 : rtab .any (opsOf Try.f27 13) = index_Get.T13 := by kernel_rfl
theorem index_Get.bits13 : waitsOk index_Get.T13.2 index_Get.B13 = true := by kernel_rfl
def index_Get.T26 : Bool × List (List Nat × List Nat) := (true, [([], []), ([], []), ([1], [1]), ([2], [2]), ([3], [3]), ([0, 0], [0]), ([4, 5, 0, 1, 2, 3, 4, 5], [4]), ([6, 0, 1, 2, 3, 4, 5, 6], [])])
def index_Get.B26 : List Nat := [0, 0, 2, 6, 14, 1, 63, 127]
theorem index_Get.tab26 : rtab .any (opsOf Try.f27 26) = index_Get.T26 := by kernel_rfl
theorem index_Get.bits26 : waitsOk index_Get.T26.2 index_Get.B26 = true := by kernel_rfl
set_option maxHeartbeats 8000000 in
set_option maxRecDepth 100000 in
theorem index_Get.calls (k : Nat) (A0 : Option Addr) (c0 : Nat) (l0 : List Int) (r1 : Int) (r2 : List (S72)) (r3 : Int) (r4 : Option Int) (w : World) (hr0 : Kd.C (Kd.int .u8) w A0 l0.length l0) (hc0 : l0.length ≤ c0) (h : index_Get.f k l0 = some (r1, r2, r3, r4)) :
  Calls Try.prog 27 #[.slice A0 l0.length c0] w fun e w' => ∃ v1_ : Value, e = .returned (.tuple #[.agg #[.int .i64 r1, v1_], .int .i64 r3, errW r4]) ∧ Kd.R k72 72 w' w.heap.size (fun _ => True) v1_ r2 ∧ Below w.heap.size w w' := by
 have hu53 := Try.underlying53
 have hu84 := Try.underlying84
 have hu89 := Try.underlying89
 have hu72 := Try.underlying72
 have hu27 := Try.underlying27
 have hu29 := Try.underlying29
 have HR0 := Aside0.mk hr0
 have HC0 := Aside0.mk hc0
 clear hr0 hc0
 have HB := Aside0.mk (Below.refl w.heap.size w)
 have H : ((strings_HasPrefix.f (strOfNums l0) (⟨#[71, 84, 83, 49]⟩ : ByteArray)).bind fun t305 => (if t305 = true then ((index_reader_fixed.f k l0 4 none 1).bind fun bt307 => (if bt307.2.2.2.isNone = true then (if (wrap64 (bt307.1)) = 1 then (index_Get.j0 k l0 false bt307.2.1 bt307.2.2.1 none (wrap64 (bt307.1))) else (index_Get.j0 k l0 ((wrap64 (bt307.1)) != 2) bt307.2.1 bt307.2.2.1 none (wrap64 (bt307.1)))) else (index_Get.j0 k l0 false bt307.2.1 bt307.2.2.1 (some (bt307.2.2.2.getD 0)) (wrap64 (bt307.1))))) else (some (0, ([] : List (S72)), 0, some 5)))) = some (r1, r2, r3, r4) := h
 clear h
 replace H := Option.bind_eq_some_iff.mp H
 obtain ⟨t305, A20, H⟩ := H
 replace H : (if t305 = true then ((index_reader_fixed.f k l0 4 none 1).bind fun bt307 => (if bt307.2.2.2.isNone = true then (if (wrap64 (bt307.1)) = 1 then (index_Get.j0 k l0 false bt307.2.1 bt307.2.2.1 none (wrap64 (bt307.1))) else (index_Get.j0 k l0 ((wrap64 (bt307.1)) != 2) bt307.2.1 bt307.2.2.1 none (wrap64 (bt307.1)))) else (index_Get.j0 k l0 false bt307.2.1 bt307.2.2.1 (some (bt307.2.2.2.getD 0)) (wrap64 (bt307.1))))) else (some (0, ([] : List (S72)), 0, some 5))) = some (r1, r2, r3, r4) := H
 have A2 := Aside0.mk A20
 clear A20
 by_cases c3 : t305 = true
 ·subst c3
  have H1 : ((index_reader_fixed.f k l0 4 none 1).bind fun bt307 => (if bt307.2.2.2.isNone = true then (if (wrap64 (bt307.1)) = 1 then (index_Get.j0 k l0 false bt307.2.1 bt307.2.2.1 none (wrap64 (bt307.1))) else (index_Get.j0 k l0 ((wrap64 (bt307.1)) != 2) bt307.2.1 bt307.2.2.1 none (wrap64 (bt307.1)))) else (index_Get.j0 k l0 false bt307.2.1 bt307.2.2.1 (some (bt307.2.2.2.getD 0)) (wrap64 (bt307.1))))) = some (r1, r2, r3, r4) := by rw [if_pos rfl] at H; exact H
  clear H
  have H := H1
  clear H1
  replace H := Option.bind_eq_some_iff.mp H
  obtain ⟨⟨t307, t308, t309, t310⟩, A40, H⟩ := H
  replace H : (if t310.isNone = true then (if (wrap64 (t307)) = 1 then (index_Get.j0 k l0 false t308 t309 none (wrap64 (t307))) else (index_Get.j0 k l0 ((wrap64 (t307)) != 2) t308 t309 none (wrap64 (t307)))) else (index_Get.j0 k l0 false t308 t309 (some (t310.getD 0)) (wrap64 (t307)))) = some (r1, r2, r3, r4) := H
  have A4 := Aside0.mk A40
  clear A40
  have HC5 := Aside0.mk H
  clear H
  go_enter Try.func27, Try.ntmps27
  go_upto_region 5 with (first | ((with_reducible refine gate_dst (N := 2) rfl ?_); refine box_event ?hg (N := 2) ?hd (cs := #[.int .i64 0, .slice none 0 0]) (t := 53) ?hr ?_; (case hd => rfl); (case hg => rfl); (case hr => first | (go_simp; done) | (go_simp; rfl)); intro gb304 hg w6 hbox hb; have BK304 := Aside0.mk (hbox); have GW304 := kG hg HB; have GE304 := kG hg HB; replace HB := kH HB hb; clear hb hbox hg; have hcv7 := Kd.C_string (P := Try.prog) (A := A0) (c := c0) Try.underlying54 Try.underlying5 Try.underlying9 (Kd.C_below HR0.out HB.out); have hcv7d := fun (m_ : Nat) => Kd.C_string (P := Try.prog) (A := A0) (c := c0) Try.underlying54 Try.underlying5 Try.underlying9 (Kd.C_drewN (Kd.C_below HR0.out HB.out) m_); (try (have hcv7e := Kd.C_string (P := Try.prog) (A := A0) (c := c0) Try.underlying54 Try.underlying5 Try.underlying9 (Kd.C_drew (Kd.C_below HR0.out HB.out))))) | ((with_reducible refine gate_callee (f := 36) rfl ?_); refine goesL_ (some 17) rfl rfl Try.func36 (by kernel_rfl) rfl #[.string (strOfNums l0), .string (⟨#[71, 84, 83, 49]⟩ : ByteArray)] rfl km ?_; (with_reducible refine (strings_HasPrefix.calls (strOfNums l0) (⟨#[71, 84, 83, 49]⟩ : ByteArray) true _ A2.out).mono ?_); rintro e w' ⟨rfl, ⟨nd, rfl⟩⟩; refine ⟨_, rfl, ?_⟩; (try (rw [drewN_self w6]; generalize hq_ : World.drewN w6 _ = w6; have n0_ : Aside0 (w6.heap[gb304]? = some (.cells #[.int .i64 0, .slice none 0 0] 53 (0, 0))) := ⟨by rw [← hq_]; exact (kb BK304)⟩; have n1_ : Aside0 (Below w.heap.size w w6) := ⟨by rw [← hq_]; exact (kl HB)⟩; clear BK304 HB hq_; have BK304 := n0_; have HB := n1_; clear n0_ n1_))) | ((with_reducible refine gate_dst (N := 23) rfl ?_); refine box_event ?hg (N := 23) ?hd (cs := #[.slice A0 l0.length c0, .int .i64 4, errW none]) (t := 84) ?hr ?_; (case hd => rfl); (case hg => rfl); (case hr => first | (go_simp; done) | (go_simp; rfl)); intro gb306 hg w8 hbox hb; have GW306 := kG hg HB; have GE306 := kG hg HB; obtain ⟨NB304_306, NB306_304⟩ := kN hg BK304; replace BK304 := kB BK304 hb; have HI306 := Aside0.mk ((show IsS84 w w8 gb306 l0 4 none from ⟨_, _, hbox, (by rw [hg]; exact (below_size (kl HB))), HR0.out, HC0.out⟩)); replace HB := kH HB hb; clear hb hbox hg) | ((with_reducible refine gate_callee (f := 37) rfl ?_); refine goesL_ (some 25) rfl rfl Try.func37 (by kernel_rfl) rfl #[.pointer (some ⟨gb306, 0, none⟩), .int .i64 1] rfl km ?_; (with_reducible refine (index_reader_fixed.calls k gb306 l0 4 none 1 t307 t308 t309 t310 w _ ?side1 ?side2 A4.out).mono ?_); (case side1 => repeat (first | (with_reducible first | exact HI306.out | apply IsS84.alloc | apply IsS84.drewN | apply IsS84.drew | apply IsS84.set_1 | apply IsS84.set_2 | refine IsS84.far ?_ NB306_304.out _) | exact HI306.out | apply IsS84.set_2 (x := some _) | apply IsS84.set_2 (x := none))); (case side2 => repeat (first | (with_reducible first | exact HB.out | apply below_alloc | apply pw_below_drewN | apply below_drew1 | refine below_set ?_ (IsS84.ge HI306.out) | refine below_set ?_ GE304.out) | exact HB.out)); rintro e w9 ⟨rfl, hi, hb, hk⟩; refine ⟨_, rfl, ?_⟩; replace BK304 := Aside0.mk (KeepBut.blk hk (g' := gb304) (o := .cells #[.int .i64 0, .slice none 0 0] 53 (0, 0)) (kb BK304) NB304_306.out (by simp)); replace HB := Aside0.mk (hb); replace HI306 := Aside0.mk (hi); (try clear hb); (try clear hb2); (try clear hk); (try clear hi); (try simp only [errW_none, errW_some])) | ((with_reducible refine gate_dst (N := 6) rfl ?_); refine box_event ?hg (N := 6) ?hd (cs := #[.int .i64 0, .slice none 0 0]) (t := 53) ?hr ?_; (case hd => rfl); (case hg => rfl); (case hr => first | (go_simp; done) | (go_simp; rfl)); intro gb311 hg w10 hbox hb; have BK311 := Aside0.mk (hbox); have GW311 := Aside0.mk ((by rw [hg]; exact (below_size (IsS84.kl HB)) : w.heap.size ≤ gb311)); have GE311 := Aside0.mk ((by rw [hg]; exact (below_size (IsS84.kl HB)) : w.heap.size ≤ gb311)); replace HB := Aside0.mk (below_step (IsS84.kl HB) hb); obtain ⟨NB304_311, NB311_304⟩ := kN hg BK304; replace BK304 := kB BK304 hb; have NB306_311 := Aside0.mk ((by rw [hg]; exact Nat.ne_of_lt (IsS84.lt (show IsS84 w _ gb306 t308 t309 t310 from by repeat (first | (with_reducible first | exact HI306.out | apply IsS84.alloc | apply IsS84.drewN | apply IsS84.drew | apply IsS84.set_1 | apply IsS84.set_2 | refine IsS84.far ?_ NB306_304.out _) | exact HI306.out | apply IsS84.set_2 (x := some _) | apply IsS84.set_2 (x := none)))) : gb306 ≠ gb311)); have NB311_306 := Aside0.mk ((by rw [hg]; exact Nat.ne_of_gt (IsS84.lt (show IsS84 w _ gb306 t308 t309 t310 from by repeat (first | (with_reducible first | exact HI306.out | apply IsS84.alloc | apply IsS84.drewN | apply IsS84.drew | apply IsS84.set_1 | apply IsS84.set_2 | refine IsS84.far ?_ NB306_304.out _) | exact HI306.out | apply IsS84.set_2 (x := some _) | apply IsS84.set_2 (x := none)))) : gb311 ≠ gb306)); replace HI306 := Aside0.mk (IsS84.below (IsS84.k HI306) hb); clear hb hbox hg; have hnb11 := NB311_304.out; have hnc11 := NB304_311.out; have hnb12 := NB311_306.out; have hnc12 := NB306_311.out; have hcz13_0 : w10.cell? ⟨gb311, 0, none⟩ = some (.int .i64 0) := (blk_cell BK311.out 0).trans rfl; have hcz13_1 : w10.cell? ⟨gb311, 1, none⟩ = some (.slice none 0 0) := (blk_cell BK311.out 1).trans rfl; have hfz13_0 := blk_frozen BK311.out 0; have hfz13_1 := blk_frozen BK311.out 1))
  (try simp only [Act.put, List.setIfInBounds_toArray, List.set_cons_zero, List.set_cons_succ])
  go_cut [42] (fun v42 wc => ∃ (kq : Nat) (x42_4 : Bool), v42 = .bool x42_4 ∧ Aside0 (index_Get.j0 kq l0 x42_4 t308 t309 t310 (wrap64 (t307)) = some (r1, r2, r3, r4)) ∧ Aside0 (kq ≤ k) ∧ Aside0 (wc.heap[gb304]? = some (.cells #[.int .i64 0, (.slice none 0 0)] 53 (0, 0))) ∧ Aside0 (wc.heap[gb311]? = some (.cells #[.int .i64 (wrap64 (t307)), (.slice none 0 0)] 53 (0, 0))) ∧ Aside0 (IsS84 w wc gb306 t308 t309 t310) ∧ Aside0 (Below w.heap.size w wc))
  case first =>
   have H := HC5.out
   clear HC5
   rcases t310 with _ | q312
   ·have H1 : (if (wrap64 (t307)) = 1 then (index_Get.j0 k l0 false t308 t309 none (wrap64 (t307))) else (index_Get.j0 k l0 ((wrap64 (t307)) != 2) t308 t309 none (wrap64 (t307)))) = some (r1, r2, r3, r4) := by rw [if_pos (show (none : Option Int).isNone = true by rfl)] at H; exact H
    clear H
    have H := H1
    clear H1
    try simp only [errW_none, errW_some]
    by_cases c14 : (wrap64 (t307)) = 1
    ·rw [if_pos c14] at H
     have c14b0 : ((wrap64 (t307)) == 1) = true := beq_iff_eq.mpr c14
     have c14b1 : ((wrap64 (t307)) != 1) = false := bne_eq_false_iff_eq.mpr c14
     clear c14
     (first | rw [c14b0] | (simp only [i64_w, i32_w]; rw [c14b0]) | skip)
     have H' := Aside0.mk H
     clear H
     obtain ⟨ASz15_0, cSz15_0, HGz15, hgz15, HSz15_0, HLSz15_0⟩ := HI306.out
     have hcz15_0 := cellS84_0 HGz15
     have hcz15_1 := cellS84_1 HGz15
     have hcz15_2 := cellS84_2 HGz15
     try simp only [errW_none, errW_some] at hcz15_2
     have hfz15_0 := blk_frozen HGz15 0
     have hfz15_1 := blk_frozen HGz15 1
     have hfz15_2 := blk_frozen HGz15 2
     clear HGz15 hgz15
     have hnb16 := NB311_304.out
     have hnc16 := NB304_311.out
     have hnb17 := NB311_306.out
     have hnc17 := NB306_311.out
     obtain ⟨hcz18_0, hcz18_1⟩ := kc2 BK311
     obtain ⟨hfz18_0, hfz18_1⟩ := kf2 BK311
     go_wp2
     go_meet
     case rel => exact ⟨_, (false), (by first | rfl | (simp; done) | (simp [*]; done)), H', ⟨by first | omega | exact Nat.le_refl _⟩, ⟨by (with_reducible repeat (first | refine blk_drewN ?_ _ | refine blk_drew ?_ | refine blk_alloc ?_ _)); refine blk_far ?_ NB304_311.out _; (with_reducible repeat (first | refine blk_drewN ?_ _ | refine blk_drew ?_ | refine blk_alloc ?_ _)); refine blk_far ?_ NB304_311.out _; (with_reducible repeat (first | refine blk_drewN ?_ _ | refine blk_drew ?_ | refine blk_alloc ?_ _)); exact BK304.out⟩, ⟨by (with_reducible repeat (first | refine blk_drewN ?_ _ | refine blk_drew ?_ | refine blk_alloc ?_ _)); refine blk_put (cs := #[.int .i64 (wrap64 (t307)), .slice none 0 0]) ?_ 1 _ rfl; (with_reducible repeat (first | refine blk_drewN ?_ _ | refine blk_drew ?_ | refine blk_alloc ?_ _)); refine blk_put (cs := #[.int .i64 0, .slice none 0 0]) ?_ 0 _ rfl; (with_reducible repeat (first | refine blk_drewN ?_ _ | refine blk_drew ?_ | refine blk_alloc ?_ _)); exact BK311.out⟩, ⟨(IsS84.k HI306)⟩, ⟨(IsS84.kl HB)⟩⟩
    ·rw [if_neg c14] at H
     have c14b0 : ((wrap64 (t307)) == 1) = false := beq_eq_false_iff_ne.mpr c14
     have c14b1 : ((wrap64 (t307)) != 1) = true := bne_iff_ne.mpr c14
     (first | rw [c14b0] | (simp only [i64_w, i32_w]; rw [c14b0]) | skip)
     have H' := Aside0.mk H
     clear H
     obtain ⟨ASz19_0, cSz19_0, HGz19, hgz19, HSz19_0, HLSz19_0⟩ := HI306.out
     have hcz19_0 := cellS84_0 HGz19
     have hcz19_1 := cellS84_1 HGz19
     have hcz19_2 := cellS84_2 HGz19
     try simp only [errW_none, errW_some] at hcz19_2
     have hfz19_0 := blk_frozen HGz19 0
     have hfz19_1 := blk_frozen HGz19 1
     have hfz19_2 := blk_frozen HGz19 2
     clear HGz19 hgz19
     have hnb20 := NB311_304.out
     have hnc20 := NB304_311.out
     have hnb21 := NB311_306.out
     have hnc21 := NB306_311.out
     obtain ⟨hcz22_0, hcz22_1⟩ := kc2 BK311
     obtain ⟨hfz22_0, hfz22_1⟩ := kf2 BK311
     go_wp2
     go_meet
     case rel => exact ⟨_, (((wrap64 (t307)) != 2)), (by first | rfl | (simp; done) | (simp [*]; done)), H', ⟨by first | omega | exact Nat.le_refl _⟩, ⟨by (with_reducible repeat (first | refine blk_drewN ?_ _ | refine blk_drew ?_ | refine blk_alloc ?_ _)); refine blk_far ?_ NB304_311.out _; (with_reducible repeat (first | refine blk_drewN ?_ _ | refine blk_drew ?_ | refine blk_alloc ?_ _)); refine blk_far ?_ NB304_311.out _; (with_reducible repeat (first | refine blk_drewN ?_ _ | refine blk_drew ?_ | refine blk_alloc ?_ _)); exact BK304.out⟩, ⟨by (with_reducible repeat (first | refine blk_drewN ?_ _ | refine blk_drew ?_ | refine blk_alloc ?_ _)); refine blk_put (cs := #[.int .i64 (wrap64 (t307)), .slice none 0 0]) ?_ 1 _ rfl; (with_reducible repeat (first | refine blk_drewN ?_ _ | refine blk_drew ?_ | refine blk_alloc ?_ _)); refine blk_put (cs := #[.int .i64 0, .slice none 0 0]) ?_ 0 _ rfl; (with_reducible repeat (first | refine blk_drewN ?_ _ | refine blk_drew ?_ | refine blk_alloc ?_ _)); exact BK311.out⟩, ⟨(IsS84.k HI306)⟩, ⟨(IsS84.kl HB)⟩⟩
   ·have H1 : (index_Get.j0 k l0 false t308 t309 (some q312) (wrap64 (t307))) = some (r1, r2, r3, r4) := by rw [if_neg (show ¬ (some q312).isNone = true by simp)] at H; exact H
    clear H
    have H := H1
    clear H1
    try simp only [errW_none, errW_some]
    have H' := Aside0.mk H
    clear H
    obtain ⟨ASz23_0, cSz23_0, HGz23, hgz23, HSz23_0, HLSz23_0⟩ := HI306.out
    have hcz23_0 := cellS84_0 HGz23
    have hcz23_1 := cellS84_1 HGz23
    have hcz23_2 := cellS84_2 HGz23
    try simp only [errW_none, errW_some] at hcz23_2
    have hfz23_0 := blk_frozen HGz23 0
    have hfz23_1 := blk_frozen HGz23 1
    have hfz23_2 := blk_frozen HGz23 2
    clear HGz23 hgz23
    go_wp2
    go_meet
    case rel => exact ⟨_, (false), (by first | rfl | (simp; done) | (simp [*]; done)), H', ⟨by first | omega | exact Nat.le_refl _⟩, ⟨by (with_reducible repeat (first | refine blk_drewN ?_ _ | refine blk_drew ?_ | refine blk_alloc ?_ _)); refine blk_far ?_ NB304_311.out _; (with_reducible repeat (first | refine blk_drewN ?_ _ | refine blk_drew ?_ | refine blk_alloc ?_ _)); refine blk_far ?_ NB304_311.out _; (with_reducible repeat (first | refine blk_drewN ?_ _ | refine blk_drew ?_ | refine blk_alloc ?_ _)); exact BK304.out⟩, ⟨by (with_reducible repeat (first | refine blk_drewN ?_ _ | refine blk_drew ?_ | refine blk_alloc ?_ _)); refine blk_put (cs := #[.int .i64 (wrap64 (t307)), .slice none 0 0]) ?_ 1 _ rfl; (with_reducible repeat (first | refine blk_drewN ?_ _ | refine blk_drew ?_ | refine blk_alloc ?_ _)); refine blk_put (cs := #[.int .i64 0, .slice none 0 0]) ?_ 0 _ rfl; (with_reducible repeat (first | refine blk_drewN ?_ _ | refine blk_drew ?_ | refine blk_alloc ?_ _)); exact BK311.out⟩, ⟨(IsS84.k HI306)⟩, ⟨(IsS84.kl HB)⟩⟩
  case rest =>
   clear HC5
   try clear c1
   try clear c2
   try clear p2
   try clear c3
   try clear q3
   try clear p6
   try clear hcv7
   try clear c11
   try clear c12
   try clear c14
   try clear c14b0
   try clear c14b1
   try clear c16
   try clear c17
   try clear c20
   try clear c21
   try clear hcz13_0
   try clear hcz13_1
   try clear hcz15_0
   try clear hcz15_1
   try clear hcz15_2
   try clear hcz18_0
   try clear hcz18_1
   try clear hcz19_0
   try clear hcz19_1
   try clear hcz19_2
   try clear hcz22_0
   try clear hcz22_1
   try clear hcz23_0
   try clear hcz23_1
   try clear hcz23_2
   try clear hfz13_0
   try clear hfz13_1
   try clear hfz15_0
   try clear hfz15_1
   try clear hfz15_2
   try clear hfz18_0
   try clear hfz18_1
   try clear hfz19_0
   try clear hfz19_1
   try clear hfz19_2
   try clear hfz22_0
   try clear hfz22_1
   try clear hfz23_0
   try clear hfz23_1
   try clear hfz23_2
   try clear q312
   obtain ⟨kq, x42_4, rfl, HA, HJ4, BK304, BK311, HI306, HB⟩ := hcut
   cases kq with
   | zero => exact absurd HA.out (by simp [index_Get.j0])
   | succ kj4 =>
    have H := HA.out
    clear HA
    simp only [index_Get.j0] at H
    have HC24 := Aside0.mk H
    clear H
    go_upto_if 42 with (fail)
    go_cut [] (fun wc => ∃ (kq : Nat) (x307002_23 : Option Int), Aside0 (index_Get.j1 kq l0 t308 t309 x307002_23 (wrap64 (t307)) = some (r1, r2, r3, r4)) ∧ Aside0 (kq ≤ kj4) ∧ Aside0 (wc.heap[gb304]? = some (.cells #[.int .i64 0, (.slice none 0 0)] 53 (0, 0))) ∧ Aside0 (wc.heap[gb311]? = some (.cells #[.int .i64 (wrap64 (t307)), (.slice none 0 0)] 53 (0, 0))) ∧ Aside0 (IsS84 w wc gb306 t308 t309 x307002_23) ∧ Aside0 (Below w.heap.size w wc))
    case first =>
     have H := HC24.out
     clear HC24
     by_cases c25 : x42_4 = true
     ·subst c25
      have H1 : (index_Get.j1 kj4 l0 t308 t309 (some 6) (wrap64 (t307))) = some (r1, r2, r3, r4) := by rw [if_pos rfl] at H; exact H
      clear H
      have H := H1
      clear H1
      have H' := Aside0.mk H
      clear H
      obtain ⟨ASz26_0, cSz26_0, HGz26, hgz26, HSz26_0, HLSz26_0⟩ := HI306.out
      have hcz26_0 := cellS84_0 HGz26
      have hcz26_1 := cellS84_1 HGz26
      have hcz26_2 := cellS84_2 HGz26
      try simp only [errW_none, errW_some] at hcz26_2
      have hfz26_0 := blk_frozen HGz26 0
      have hfz26_1 := blk_frozen HGz26 1
      have hfz26_2 := blk_frozen HGz26 2
      clear HGz26 hgz26
      go_wp2
      go_meet
      case rel => exact ⟨_, (some 6), H', ⟨by have := HJ4.out; first | omega | exact Nat.le_refl _⟩, ⟨by (with_reducible repeat (first | refine blk_drewN ?_ _ | refine blk_drew ?_ | refine blk_alloc ?_ _)); refine blk_far ?_ NB304_306.out _; (with_reducible repeat (first | refine blk_drewN ?_ _ | refine blk_drew ?_ | refine blk_alloc ?_ _)); exact BK304.out⟩, ⟨by (with_reducible repeat (first | refine blk_drewN ?_ _ | refine blk_drew ?_ | refine blk_alloc ?_ _)); refine blk_far ?_ NB311_306.out _; (with_reducible repeat (first | refine blk_drewN ?_ _ | refine blk_drew ?_ | refine blk_alloc ?_ _)); exact BK311.out⟩, ⟨(IsS84.k HI306)⟩, ⟨(IsS84.kl HB)⟩⟩
     ·replace c25 := Bool.eq_false_iff.mpr c25
      subst c25
      have H1 : (index_Get.j1 kj4 l0 t308 t309 t310 (wrap64 (t307))) = some (r1, r2, r3, r4) := by rw [if_neg (show ¬ (false = true) by decide)] at H; exact H
      clear H
      have H := H1
      clear H1
      have H' := Aside0.mk H
      clear H
      go_wp2
      go_meet
      case rel => exact ⟨_, (t310), H', ⟨by have := HJ4.out; first | omega | exact Nat.le_refl _⟩, ⟨kb BK304⟩, ⟨kb BK311⟩, ⟨(IsS84.k HI306)⟩, ⟨(IsS84.kl HB)⟩⟩
    case rest =>
     clear HC24
     try clear c1
     try clear c2
     try clear p2
     try clear c3
     try clear q3
     try clear p6
     try clear hcv7
     try clear c11
     try clear c12
     try clear c14
     try clear c14b0
     try clear c14b1
     try clear c16
     try clear c17
     try clear c20
     try clear c21
     try clear c25
     try clear hcz13_0
     try clear hcz13_1
     try clear hcz15_0
     try clear hcz15_1
     try clear hcz15_2
     try clear hcz18_0
     try clear hcz18_1
     try clear hcz19_0
     try clear hcz19_1
     try clear hcz19_2
     try clear hcz22_0
     try clear hcz22_1
     try clear hcz23_0
     try clear hcz23_1
     try clear hcz23_2
     try clear hcz26_0
     try clear hcz26_1
     try clear hcz26_2
     try clear hfz13_0
     try clear hfz13_1
     try clear hfz15_0
     try clear hfz15_1
     try clear hfz15_2
     try clear hfz18_0
     try clear hfz18_1
     try clear hfz19_0
     try clear hfz19_1
     try clear hfz19_2
     try clear hfz22_0
     try clear hfz22_1
     try clear hfz23_0
     try clear hfz23_1
     try clear hfz23_2
     try clear hfz26_0
     try clear hfz26_1
     try clear hfz26_2
     try clear p2
     try clear p6
     try clear q3
     try clear q312
     obtain ⟨kq, x307002_23, HA, HJ23, BK304, BK311, HI306, HB⟩ := hcut
     cases kq with
     | zero => exact absurd HA.out (by simp [index_Get.j1])
     | succ kj23 =>
      have H := HA.out
      clear HA
      simp only [index_Get.j1] at H
      replace H := Option.bind_eq_some_iff.mp H
      obtain ⟨⟨t313, t316, t317, t318⟩, A270, H⟩ := H
      replace H : ((index_reader_fixed.f kj23 t316 t317 t318 4).bind fun bt319 => (if bt319.2.2.2.isNone = true then (if 0 ≤ t317 then (if t317 ≤ (l0.length : Int) then ((crc_Sum.f kj23 (l0.take (t317 : Int).toNat)).bind fun t325 => (index_Get.j2 kj23 l0 t313 (bt319.1 != (IntKind.u64.wrap (t325))) bt319.2.1 bt319.2.2.1 none (wrap64 (t307)))) else (none)) else (none)) else (index_Get.j2 kj23 l0 t313 false bt319.2.1 bt319.2.2.1 (some (bt319.2.2.2.getD 0)) (wrap64 (t307))))) = some (r1, r2, r3, r4) := H
      have A27 := Aside0.mk A270
      clear A270
      replace H := Option.bind_eq_some_iff.mp H
      obtain ⟨⟨t319, t320, t321, t322⟩, A280, H⟩ := H
      replace H : (if t322.isNone = true then (if 0 ≤ t317 then (if t317 ≤ (l0.length : Int) then ((crc_Sum.f kj23 (l0.take (t317 : Int).toNat)).bind fun t325 => (index_Get.j2 kj23 l0 t313 (t319 != (IntKind.u64.wrap (t325))) t320 t321 none (wrap64 (t307)))) else (none)) else (none)) else (index_Get.j2 kj23 l0 t313 false t320 t321 (some (t322.getD 0)) (wrap64 (t307)))) = some (r1, r2, r3, r4) := H
      have A28 := Aside0.mk A280
      clear A280
      have HC29 := Aside0.mk H
      clear H
      go_upto_region 10 with (first | ((with_reducible refine gate_callee (f := 38) rfl ?_); refine goesL_ (some 48) rfl rfl Try.func38 (by kernel_rfl) rfl #[.pointer (some ⟨gb306, 0, none⟩)] rfl km ?_; (with_reducible refine (index_reader_list.calls kj23 gb306 t308 t309 x307002_23 t313 t316 t317 t318 w _ ?side1 ?side2 A27.out).mono ?_); (case side1 => repeat (first | (with_reducible first | exact HI306.out | apply IsS84.alloc | apply IsS84.drewN | apply IsS84.drew | apply IsS84.set_1 | apply IsS84.set_2 | refine IsS84.far ?_ NB306_304.out _ | refine IsS84.far ?_ NB306_311.out _) | exact HI306.out | apply IsS84.set_2 (x := some _) | apply IsS84.set_2 (x := none))); (case side2 => repeat (first | (with_reducible first | exact HB.out | apply below_alloc | apply pw_below_drewN | apply below_drew1 | refine below_set ?_ (IsS84.ge HI306.out) | refine below_set ?_ GE304.out | refine below_set ?_ GE311.out) | exact HB.out)); rintro e w30 ⟨v314, rfl, ho0, hi, hb, hk⟩; refine ⟨_, rfl, ?_⟩; replace BK304 := Aside0.mk (KeepBut.blk hk (g' := gb304) (o := .cells #[.int .i64 0, .slice none 0 0] 53 (0, 0)) (kb BK304) NB304_306.out (by simp)); replace BK311 := Aside0.mk (KeepBut.blk hk (g' := gb311) (o := .cells #[.int .i64 (wrap64 (t307)), .slice none 0 0] 53 (0, 0)) (kb BK311) NB311_306.out (by simp)); have HO315 := Aside0.mk (Kd.R_lower ho0 (below_size (IsS84.kl HB))); replace HB := Aside0.mk (hb); replace HI306 := Aside0.mk (hi); (try clear hb); (try clear hb2); (try clear hk); (try clear hi); (try clear ho0); (try simp only [errW_none, errW_some]); obtain ⟨ASz31_0, cSz31_0, HGz31, hgz31, HSz31_0, HLSz31_0⟩ := HI306.out; have hcz31_0 := cellS84_0 HGz31; have hcz31_1 := cellS84_1 HGz31; have hcz31_2 := cellS84_2 HGz31; try simp only [errW_none, errW_some] at hcz31_2; have hfz31_0 := blk_frozen HGz31 0; have hfz31_1 := blk_frozen HGz31 1; have hfz31_2 := blk_frozen HGz31 2; clear HGz31 hgz31) | ((with_reducible refine gate_callee (f := 37) rfl ?_); refine goesL_ (some 54) rfl rfl Try.func37 (by kernel_rfl) rfl #[.pointer (some ⟨gb306, 0, none⟩), .int .i64 4] rfl km ?_; (with_reducible refine (index_reader_fixed.calls kj23 gb306 t316 t317 t318 4 t319 t320 t321 t322 w _ ?side1 ?side2 A28.out).mono ?_); (case side1 => repeat (first | (with_reducible first | exact HI306.out | apply IsS84.alloc | apply IsS84.drewN | apply IsS84.drew | apply IsS84.set_1 | apply IsS84.set_2 | refine IsS84.far ?_ NB306_304.out _ | refine IsS84.far ?_ NB306_311.out _) | exact HI306.out | apply IsS84.set_2 (x := some _) | apply IsS84.set_2 (x := none))); (case side2 => repeat (first | (with_reducible first | exact HB.out | apply below_alloc | apply pw_below_drewN | apply below_drew1 | refine below_set ?_ (IsS84.ge HI306.out) | refine below_set ?_ GE304.out | refine below_set ?_ GE311.out) | exact HB.out)); rintro e w32 ⟨rfl, hi, hb, hk⟩; refine ⟨_, rfl, ?_⟩; replace BK304 := Aside0.mk (KeepBut.blk hk (g' := gb304) (o := .cells #[.int .i64 0, .slice none 0 0] 53 (0, 0)) (kb BK304) NB304_306.out (by simp)); replace BK311 := Aside0.mk (KeepBut.blk hk (g' := gb311) (o := .cells #[.int .i64 (wrap64 (t307)), .slice none 0 0] 53 (0, 0)) (kb BK311) NB311_306.out (by simp)); replace HO315 := Aside0.mk (Kd.R_mono (Kd.R_keep (IsS84.apart (show IsS84 w _ gb306 t316 t317 t318 from by repeat (first | (with_reducible first | exact HI306.out | apply IsS84.alloc | apply IsS84.drewN | apply IsS84.drew | apply IsS84.set_1 | apply IsS84.set_2 | refine IsS84.far ?_ NB306_304.out _ | refine IsS84.far ?_ NB306_311.out _) | exact HI306.out | apply IsS84.set_2 (x := some _) | apply IsS84.set_2 (x := none))) (kr HO315) (by decide)) hk (fun _ h => h.2)) (fun _ h => h.1)); replace HB := Aside0.mk (hb); replace HI306 := Aside0.mk (hi); (try clear hb); (try clear hb2); (try clear hk); (try clear hi); (try simp only [errW_none, errW_some])))
      (try simp only [Act.put, List.setIfInBounds_toArray, List.set_cons_zero, List.set_cons_succ])
      go_cut [68] (fun v68 wc => ∃ (kq : Nat) (x68_28 : Bool), v68 = .bool x68_28 ∧ Aside0 (index_Get.j2 kq l0 t313 x68_28 t320 t321 t322 (wrap64 (t307)) = some (r1, r2, r3, r4)) ∧ Aside0 (kq ≤ kj23) ∧ Aside0 (Kd.R k89 89 wc w.heap.size (fun _ => True) v314 t313) ∧ Aside0 (wc.heap[gb304]? = some (.cells #[.int .i64 0, (.slice none 0 0)] 53 (0, 0))) ∧ Aside0 (wc.heap[gb311]? = some (.cells #[.int .i64 (wrap64 (t307)), (.slice none 0 0)] 53 (0, 0))) ∧ Aside0 (IsS84 w wc gb306 t320 t321 t322) ∧ Aside0 (Below w.heap.size w wc))
      case first =>
       have H := HC29.out
       clear HC29
       rcases t322 with _ | q323
       ·have H1 : (if 0 ≤ t317 then (if t317 ≤ (l0.length : Int) then ((crc_Sum.f kj23 (l0.take (t317 : Int).toNat)).bind fun t325 => (index_Get.j2 kj23 l0 t313 (t319 != (IntKind.u64.wrap (t325))) t320 t321 none (wrap64 (t307)))) else (none)) else (none)) = some (r1, r2, r3, r4) := by rw [if_pos (show (none : Option Int).isNone = true by rfl)] at H; exact H
        clear H
        have H := H1
        clear H1
        try simp only [errW_none, errW_some]
        by_cases c33 : 0 ≤ t317
        ·rw [if_pos c33] at H
         have c33b0 := eq_true c33
         have c33b1 : decide (0 ≤ t317) = true := decide_eq_true c33
         clear c33
         by_cases c34 : t317 ≤ (l0.length : Int)
         ·rw [if_pos c34] at H
          have c34b0 := eq_true c34
          have c34b1 : decide (t317 ≤ (l0.length : Int)) = true := decide_eq_true c34
          clear c34
          replace H := Option.bind_eq_some_iff.mp H
          obtain ⟨t325, A350, H⟩ := H
          replace H : (index_Get.j2 kj23 l0 t313 (t319 != (IntKind.u64.wrap (t325))) t320 t321 none (wrap64 (t307))) = some (r1, r2, r3, r4) := H
          have A35 := Aside0.mk A350
          clear A350
          have H' := Aside0.mk H
          clear H
          obtain ⟨ASz36_0, cSz36_0, HGz36, hgz36, HSz36_0, HLSz36_0⟩ := HI306.out
          have hcz36_0 := cellS84_0 HGz36
          have hcz36_1 := cellS84_1 HGz36
          have hcz36_2 := cellS84_2 HGz36
          try simp only [errW_none, errW_some] at hcz36_2
          have hfz36_0 := blk_frozen HGz36 0
          have hfz36_1 := blk_frozen HGz36 1
          have hfz36_2 := blk_frozen HGz36 2
          clear HGz36 hgz36
          obtain ⟨i037, hi037, _, hsz37, _⟩ := info_parts info5
          obtain ⟨hcut37, hA37, hC37⟩ := print_take_of (P := Try.prog) (Value.int .u8) 0 54 5 .i64 Try.underlying54 hi037 hsz37 A0 c0 l0 t317 (of_decide_eq_true (by first | (with_reducible assumption) | assumption)) (of_decide_eq_true (by first | (with_reducible assumption) | assumption)) HC0.out
          have HR324 := Aside0.mk (Kd.C_of_reads (h1 := fun _ => rfl) (hA37 _ (Kd.reads_of_C HR0.out)))
          have HC324 := Aside0.mk hC37
          clear hA37 hC37 hi037 hsz37
          go_wp2_with (first | (go_at_call 33; refine calls_of_args (args' := #[.slice A0 (l0.take (t317 : Int).toNat).length c0]) (by first | rfl | (rw [show (l0.take (t317 : Int).toNat).length = t317.toNat from (by rw [List.length_take]; have h_ : (t317 : Int) ≤ (l0.length : Int) := of_decide_eq_true (by first | (with_reducible assumption) | assumption); omega)] <;> rfl) | rfl) ?_; (with_reducible refine (crc_Sum.calls kj23 _ _ (l0.take (t317 : Int).toNat) t325 _ ?side1 ?side2 A35.out).mono ?_); (case side1 => repeat (first | exact (Kd.C_below HR324.out HB.out) | (with_reducible refine Kd.C_alloc ?_ _) | (with_reducible refine Kd.C_drewN ?_ _) | (with_reducible refine Kd.C_drew ?_))); (case side2 => exact HC324.out); rintro e w' ⟨rfl, ⟨nd, rfl⟩⟩))
          go_meet
          case rel => exact ⟨_, ((t319 != (IntKind.u64.wrap (t325)))), (by first | rfl | (simp; done) | (simp [*]; done)), H', ⟨by have := HJ4.out; have := HJ23.out; first | omega | exact Nat.le_refl _⟩, ⟨kr HO315⟩, ⟨kb BK304⟩, ⟨kb BK311⟩, ⟨(IsS84.k HI306)⟩, ⟨(IsS84.kl HB)⟩⟩
         ·rw [if_neg c34] at H
          exact absurd H (by simp)
        ·rw [if_neg c33] at H
         exact absurd H (by simp)
       ·have H1 : (index_Get.j2 kj23 l0 t313 false t320 t321 (some q323) (wrap64 (t307))) = some (r1, r2, r3, r4) := by rw [if_neg (show ¬ (some q323).isNone = true by simp)] at H; exact H
        clear H
        have H := H1
        clear H1
        try simp only [errW_none, errW_some]
        have H' := Aside0.mk H
        clear H
        obtain ⟨ASz38_0, cSz38_0, HGz38, hgz38, HSz38_0, HLSz38_0⟩ := HI306.out
        have hcz38_0 := cellS84_0 HGz38
        have hcz38_1 := cellS84_1 HGz38
        have hcz38_2 := cellS84_2 HGz38
        try simp only [errW_none, errW_some] at hcz38_2
        have hfz38_0 := blk_frozen HGz38 0
        have hfz38_1 := blk_frozen HGz38 1
        have hfz38_2 := blk_frozen HGz38 2
        clear HGz38 hgz38
        go_wp2
        go_meet
        case rel => exact ⟨_, (false), (by first | rfl | (simp; done) | (simp [*]; done)), H', ⟨by have := HJ4.out; have := HJ23.out; first | omega | exact Nat.le_refl _⟩, ⟨kr HO315⟩, ⟨kb BK304⟩, ⟨kb BK311⟩, ⟨(IsS84.k HI306)⟩, ⟨(IsS84.kl HB)⟩⟩
      case rest =>
       clear HC29
       try clear c1
       try clear c2
       try clear p2
       try clear c3
       try clear q3
       try clear p6
       try clear hcv7
       try clear c11
       try clear c12
       try clear c14
       try clear c14b0
       try clear c14b1
       try clear c16
       try clear c17
       try clear c20
       try clear c21
       try clear c25
       try clear c27
       try clear q31
       try clear q32
       try clear c33
       try clear c33b0
       try clear c33b1
       try clear c34
       try clear c34b0
       try clear c34b1
       try clear c36
       try clear c37
       try clear c38
       try clear hcz13_0
       try clear hcz13_1
       try clear hcz15_0
       try clear hcz15_1
       try clear hcz15_2
       try clear hcz18_0
       try clear hcz18_1
       try clear hcz19_0
       try clear hcz19_1
       try clear hcz19_2
       try clear hcz22_0
       try clear hcz22_1
       try clear hcz23_0
       try clear hcz23_1
       try clear hcz23_2
       try clear hcz26_0
       try clear hcz26_1
       try clear hcz26_2
       try clear hcz31_0
       try clear hcz31_1
       try clear hcz31_2
       try clear hcz36_0
       try clear hcz36_1
       try clear hcz36_2
       try clear hcz38_0
       try clear hcz38_1
       try clear hcz38_2
       try clear hfz13_0
       try clear hfz13_1
       try clear hfz15_0
       try clear hfz15_1
       try clear hfz15_2
       try clear hfz18_0
       try clear hfz18_1
       try clear hfz19_0
       try clear hfz19_1
       try clear hfz19_2
       try clear hfz22_0
       try clear hfz22_1
       try clear hfz23_0
       try clear hfz23_1
       try clear hfz23_2
       try clear hfz26_0
       try clear hfz26_1
       try clear hfz26_2
       try clear hfz31_0
       try clear hfz31_1
       try clear hfz31_2
       try clear hfz36_0
       try clear hfz36_1
       try clear hfz36_2
       try clear hfz38_0
       try clear hfz38_1
       try clear hfz38_2
       try clear p2
       try clear p6
       try clear q3
       try clear q312
       try clear q323
       obtain ⟨kq, x68_28, rfl, HA, HJ28, HO_7, BK304, BK311, HI306, HB⟩ := hcut
       cases kq with
       | zero => exact absurd HA.out (by simp [index_Get.j2])
       | succ kj28 =>
        have H := HA.out
        clear HA
        simp only [index_Get.j2] at H
        have HC39 := Aside0.mk H
        clear H
        go_upto_if 68 with (fail)
        go_cut [] (fun wc => ∃ (kq : Nat) (x307002_38 : Option Int), Aside0 (index_Get.j3 kq l0 t313 t320 t321 x307002_38 (wrap64 (t307)) = some (r1, r2, r3, r4)) ∧ Aside0 (kq ≤ kj28) ∧ Aside0 (Kd.R k89 89 wc w.heap.size (fun _ => True) v314 t313) ∧ Aside0 (wc.heap[gb304]? = some (.cells #[.int .i64 0, (.slice none 0 0)] 53 (0, 0))) ∧ Aside0 (wc.heap[gb311]? = some (.cells #[.int .i64 (wrap64 (t307)), (.slice none 0 0)] 53 (0, 0))) ∧ Aside0 (IsS84 w wc gb306 t320 t321 x307002_38) ∧ Aside0 (Below w.heap.size w wc))
        case first =>
         have H := HC39.out
         clear HC39
         by_cases c40 : x68_28 = true
         ·subst c40
          have H1 : (index_Get.j3 kj28 l0 t313 t320 t321 (some 7) (wrap64 (t307))) = some (r1, r2, r3, r4) := by rw [if_pos rfl] at H; exact H
          clear H
          have H := H1
          clear H1
          have H' := Aside0.mk H
          clear H
          obtain ⟨ASz41_0, cSz41_0, HGz41, hgz41, HSz41_0, HLSz41_0⟩ := HI306.out
          have hcz41_0 := cellS84_0 HGz41
          have hcz41_1 := cellS84_1 HGz41
          have hcz41_2 := cellS84_2 HGz41
          try simp only [errW_none, errW_some] at hcz41_2
          have hfz41_0 := blk_frozen HGz41 0
          have hfz41_1 := blk_frozen HGz41 1
          have hfz41_2 := blk_frozen HGz41 2
          clear HGz41 hgz41
          go_wp2
          go_meet
          case rel => exact ⟨_, (some 7), H', ⟨by have := HJ4.out; have := HJ23.out; have := HJ28.out; first | omega | exact Nat.le_refl _⟩, ⟨by (with_reducible repeat (first | apply Kd.R_alloc | apply Kd.R_drewN | apply Kd.R_drew)); exact Kd.R_mono (Kd.R_far (p := ⟨gb306, 2, none⟩) (IsS84.apart HI306.out HO_7.out (by decide)) (fun _ hk => hk.2) (errW (some 7))) (fun _ hk => trivial)⟩, ⟨by (with_reducible repeat (first | refine blk_drewN ?_ _ | refine blk_drew ?_ | refine blk_alloc ?_ _)); refine blk_far ?_ NB304_306.out _; (with_reducible repeat (first | refine blk_drewN ?_ _ | refine blk_drew ?_ | refine blk_alloc ?_ _)); exact BK304.out⟩, ⟨by (with_reducible repeat (first | refine blk_drewN ?_ _ | refine blk_drew ?_ | refine blk_alloc ?_ _)); refine blk_far ?_ NB311_306.out _; (with_reducible repeat (first | refine blk_drewN ?_ _ | refine blk_drew ?_ | refine blk_alloc ?_ _)); exact BK311.out⟩, ⟨(IsS84.k HI306)⟩, ⟨(IsS84.kl HB)⟩⟩
         ·replace c40 := Bool.eq_false_iff.mpr c40
          subst c40
          have H1 : (index_Get.j3 kj28 l0 t313 t320 t321 t322 (wrap64 (t307))) = some (r1, r2, r3, r4) := by rw [if_neg (show ¬ (false = true) by decide)] at H; exact H
          clear H
          have H := H1
          clear H1
          have H' := Aside0.mk H
          clear H
          go_wp2
          go_meet
          case rel => exact ⟨_, (t322), H', ⟨by have := HJ4.out; have := HJ23.out; have := HJ28.out; first | omega | exact Nat.le_refl _⟩, ⟨kr HO_7⟩, ⟨kb BK304⟩, ⟨kb BK311⟩, ⟨(IsS84.k HI306)⟩, ⟨(IsS84.kl HB)⟩⟩
        case rest =>
         clear HC39
         try clear c1
         try clear c2
         try clear p2
         try clear c3
         try clear q3
         try clear c4
         try clear p6
         try clear hcv7
         try clear c11
         try clear c12
         try clear c14
         try clear c14b0
         try clear c14b1
         try clear c16
         try clear c17
         try clear c20
         try clear c21
         try clear c25
         try clear c27
         try clear q31
         try clear q32
         try clear c33
         try clear c33b0
         try clear c33b1
         try clear c34
         try clear c34b0
         try clear c34b1
         try clear c36
         try clear c37
         try clear c38
         try clear c40
         try clear hcz13_0
         try clear hcz13_1
         try clear hcz15_0
         try clear hcz15_1
         try clear hcz15_2
         try clear hcz18_0
         try clear hcz18_1
         try clear hcz19_0
         try clear hcz19_1
         try clear hcz19_2
         try clear hcz22_0
         try clear hcz22_1
         try clear hcz23_0
         try clear hcz23_1
         try clear hcz23_2
         try clear hcz26_0
         try clear hcz26_1
         try clear hcz26_2
         try clear hcz31_0
         try clear hcz31_1
         try clear hcz31_2
         try clear hcz36_0
         try clear hcz36_1
         try clear hcz36_2
         try clear hcz38_0
         try clear hcz38_1
         try clear hcz38_2
         try clear hcz41_0
         try clear hcz41_1
         try clear hcz41_2
         try clear hfz13_0
         try clear hfz13_1
         try clear hfz15_0
         try clear hfz15_1
         try clear hfz15_2
         try clear hfz18_0
         try clear hfz18_1
         try clear hfz19_0
         try clear hfz19_1
         try clear hfz19_2
         try clear hfz22_0
         try clear hfz22_1
         try clear hfz23_0
         try clear hfz23_1
         try clear hfz23_2
         try clear hfz26_0
         try clear hfz26_1
         try clear hfz26_2
         try clear hfz31_0
         try clear hfz31_1
         try clear hfz31_2
         try clear hfz36_0
         try clear hfz36_1
         try clear hfz36_2
         try clear hfz38_0
         try clear hfz38_1
         try clear hfz38_2
         try clear hfz41_0
         try clear hfz41_1
         try clear hfz41_2
         try clear p2
         try clear p6
         try clear q3
         try clear q31
         try clear q312
         try clear q32
         try clear q323
         obtain ⟨kq, x307002_38, HA, HJ38, HO_7, BK304, BK311, HI306, HB⟩ := hcut
         cases kq with
         | zero => exact absurd HA.out (by simp [index_Get.j3])
         | succ kj38 =>
          have H := HA.out
          clear HA
          simp only [index_Get.j3] at H
          rcases x307002_38 with _ | q326
          ·have H1 : (index_Get.l0 kj38 (wrap64 ((l0.length : Int) - t321)) t313 (t313.length : Int) 0 t320 t321 none (wrap64 (t307)) ([] : List (S72))) = some (r1, r2, r3, r4) := by rw [if_pos (show (none : Option Int).isNone = true by rfl)] at H; exact H
           clear H
           have H := H1
           clear H1
           try simp only [errW_none, errW_some]
           have H' := Aside0.mk H
           clear H
           obtain ⟨ASz42_0, cSz42_0, HGz42, hgz42, HSz42_0, HLSz42_0⟩ := HI306.out
           have hcz42_0 := cellS84_0 HGz42
           have hcz42_1 := cellS84_1 HGz42
           have hcz42_2 := cellS84_2 HGz42
           try simp only [errW_none, errW_some] at hcz42_2
           have hfz42_0 := blk_frozen HGz42 0
           have hfz42_1 := blk_frozen HGz42 1
           have hfz42_2 := blk_frozen HGz42 2
           clear HGz42 hgz42
           obtain ⟨Ao43, co43, eo43⟩ := Kd.R_slice HO_7.out
           subst eo43
           go_wp2
           go_loopg [10, 92] kj38 (fun kq v10 v92 w' => ∃ (x10_5 : Int) (x92_5 : Int) (x305000_5 : Int) (x312001_5 : List (S72)) (u312001 : Value), v10 = .int .i64 x10_5 ∧ v92 = .int .i64 x92_5 ∧ Aside0 (index_Get.l0 kq x10_5 t313 (t313.length : Int) x92_5 t320 t321 none (wrap64 (t307)) x312001_5 = some (r1, r2, r3, r4)) ∧ Aside0 (kq ≤ kj38) ∧ Aside0 (Kd.R k89 89 w' w.heap.size (fun _ => True) (.slice Ao43 t313.length co43) t313) ∧ Aside0 (Kd.R k72 72 w' w.heap.size (fun _ => True) u312001 x312001_5) ∧ Aside0 (w'.heap[gb304]? = some (.cells #[.int .i64 x305000_5, (.slice none 0 0)] 53 (0, 0))) ∧ Aside0 (w'.heap[gb311]? = some (.cells #[.int .i64 (wrap64 (t307)), u312001] 53 (0, 0))) ∧ Aside0 (IsS84 w w' gb306 t320 t321 none) ∧ Aside0 (Below w.heap.size w w'))
           case atStart => exact ⟨(wrap64 ((l0.length : Int) - t321)), (0), (0), (([] : List (S72))), (.slice none 0 0), (by first | rfl | (simp; done) | (simp [*]; done)), (by first | rfl | (simp; done) | (simp [*]; done)), H', ⟨Nat.le_refl _⟩, ⟨kr HO_7⟩, ⟨by first | exact Kd.R_nil _ _ _ _ _ | exact Kd.N_nil _ _ _ _ _ | exact Kd.V_nil _ _ _ _ _ | exact Kd.Q_nil _ _ _ _ _ | exact Kd.S_nil _ _ _ _ _⟩, ⟨kb BK304⟩, ⟨kb BK311⟩, ⟨(IsS84.k HI306)⟩, ⟨(IsS84.kl HB)⟩⟩
           case round =>
            clear H'
            try clear c1
            try clear c2
            try clear p2
            try clear c3
            try clear q3
            try clear c4
            try clear p6
            try clear hcv7
            try clear c11
            try clear c12
            try clear c14
            try clear c14b0
            try clear c14b1
            try clear c16
            try clear c17
            try clear c20
            try clear c21
            try clear c25
            try clear c27
            try clear q31
            try clear q32
            try clear c33
            try clear c33b0
            try clear c33b1
            try clear c34
            try clear c34b0
            try clear c34b1
            try clear c36
            try clear c37
            try clear c38
            try clear c40
            try clear hcz13_0
            try clear hcz13_1
            try clear hcz15_0
            try clear hcz15_1
            try clear hcz15_2
            try clear hcz18_0
            try clear hcz18_1
            try clear hcz19_0
            try clear hcz19_1
            try clear hcz19_2
            try clear hcz22_0
            try clear hcz22_1
            try clear hcz23_0
            try clear hcz23_1
            try clear hcz23_2
            try clear hcz26_0
            try clear hcz26_1
            try clear hcz26_2
            try clear hcz31_0
            try clear hcz31_1
            try clear hcz31_2
            try clear hcz36_0
            try clear hcz36_1
            try clear hcz36_2
            try clear hcz38_0
            try clear hcz38_1
            try clear hcz38_2
            try clear hcz41_0
            try clear hcz41_1
            try clear hcz41_2
            try clear hcz42_0
            try clear hcz42_1
            try clear hcz42_2
            try clear hfz13_0
            try clear hfz13_1
            try clear hfz15_0
            try clear hfz15_1
            try clear hfz15_2
            try clear hfz18_0
            try clear hfz18_1
            try clear hfz19_0
            try clear hfz19_1
            try clear hfz19_2
            try clear hfz22_0
            try clear hfz22_1
            try clear hfz23_0
            try clear hfz23_1
            try clear hfz23_2
            try clear hfz26_0
            try clear hfz26_1
            try clear hfz26_2
            try clear hfz31_0
            try clear hfz31_1
            try clear hfz31_2
            try clear hfz36_0
            try clear hfz36_1
            try clear hfz36_2
            try clear hfz38_0
            try clear hfz38_1
            try clear hfz38_2
            try clear hfz41_0
            try clear hfz41_1
            try clear hfz41_2
            try clear hfz42_0
            try clear hfz42_1
            try clear hfz42_2
            try clear p2
            try clear p6
            try clear q3
            try clear q31
            try clear q312
            try clear q32
            try clear q323
            try clear q326
            obtain ⟨x10_5, x92_5, x305000_5, x312001_5, u312001, rfl, rfl, HA, HK5, HO_90, HO_312001, BK304, BK311, HI306, HB⟩ := hrel
            cases gk with
            | zero => exact absurd HA.out (by simp [index_Get.l0])
            | succ k5 =>
             have H := HA.out
             clear HA
             simp only [index_Get.l0] at H
             by_cases c44 : x92_5 < (t313.length : Int)
             ·rw [if_pos c44] at H
              have c44b0 : decide (x92_5 < (t313.length : Int)) = true := decide_eq_true c44
              clear c44
              by_cases c45 : 0 ≤ x92_5
              ·rw [if_pos c45] at H
               have c45b0 : decide (0 ≤ x92_5) = true := decide_eq_true c45
               clear c45
               by_cases c46 : x92_5 < (t313.length : Int)
               ·rw [if_pos c46] at H
                have c46b0 : decide (x92_5 < (t313.length : Int)) = true := decide_eq_true c46
                clear c46
                replace H := Option.bind_eq_some_iff.mp H
                obtain ⟨⟨t329, t330, t331, t332, t333⟩, A470, H⟩ := H
                replace H : (if t333 = true then (if t332 > x10_5 then (some (0, ([] : List (S72)), 0, some 8)) else (if x312001_5.length < 4398046511104 then (index_Get.l0 k5 (wrap64 (x10_5 - t332)) t313 (t313.length : Int) (wrap64 (x92_5 + 1)) t320 t321 none (wrap64 (t307)) (x312001_5 ++ [(⟨t329, t330, t331, t332⟩ : S72)])) else (none))) else (some (0, ([] : List (S72)), 0, some 8))) = some (r1, r2, r3, r4) := H
                have A47 := Aside0.mk A470
                clear A470
                by_cases c48 : t333 = true
                ·subst c48
                 have H1 : (if t332 > x10_5 then (some (0, ([] : List (S72)), 0, some 8)) else (if x312001_5.length < 4398046511104 then (index_Get.l0 k5 (wrap64 (x10_5 - t332)) t313 (t313.length : Int) (wrap64 (x92_5 + 1)) t320 t321 none (wrap64 (t307)) (x312001_5 ++ [(⟨t329, t330, t331, t332⟩ : S72)])) else (none))) = some (r1, r2, r3, r4) := by rw [if_pos rfl] at H; exact H
                 clear H
                 have H := H1
                 clear H1
                 by_cases c49 : t332 > x10_5
                 ·rw [if_pos c49] at H
                  have c49b0 : decide (x10_5 < t332) = true := decide_eq_true c49
                  clear c49
                  simp only [Option.some.injEq, Prod.mk.injEq] at H
                  obtain ⟨rfl, rfl, rfl, rfl⟩ := H
                  have p327 : 0 ≤ (x92_5 : Int) := of_decide_eq_true (by first | (with_reducible assumption) | assumption)
                  have q327 : x92_5 < (t313.length : Int) := of_decide_eq_true (by first | (with_reducible assumption) | assumption)
                  obtain ⟨ad327, e327, hx327_0, hx327_1, hx327_2, hx327_3⟩ := at_T89 (Kd.R_reads' HO_90.out).2.2 x92_5 p327 q327
                  cases e327
                  replace p327 := eq_true p327
                  (try (have q327s := q327; simp only [List.length_drop, List.length_take] at q327s; replace q327s := eq_true q327s)); replace q327 := eq_true q327
                  go_wp2_with (first | ((with_reducible refine gate_dst (N := 12) rfl ?_); refine box_event ?hg (N := 12) ?hd (cs := #[.int .i64 0, .int .u64 0, .int .u64 0, .int .u64 0]) (t := 89) ?hr ?_; (case hd => rfl); (case hg => rfl); (case hr => first | (go_simp; done) | (go_simp; rfl)); intro gb328 hg w50 hbox hb; replace HO_90 := Aside0.mk (Kd.R_below (Kd.R_elderB (kr HO_90) gb328 (Nat.le_of_eq hg.symm)) hb); replace HO_312001 := Aside0.mk (Kd.R_below (kr HO_312001) hb); have BK328 := Aside0.mk (hbox); have GW328 := Aside0.mk ((by rw [hg]; exact (below_size (IsS84.kl HB)) : w.heap.size ≤ gb328)); have GE328 := Aside0.mk ((by rw [hg]; exact (below_size (IsS84.kl HB)) : w.heap.size ≤ gb328)); replace HB := Aside0.mk (below_step (IsS84.kl HB) hb); obtain ⟨NB304_328, NB328_304⟩ := kN hg BK304; replace BK304 := kB BK304 hb; obtain ⟨NB311_328, NB328_311⟩ := kN hg BK311; replace BK311 := kB BK311 hb; have NB306_328 := Aside0.mk ((by rw [hg]; exact Nat.ne_of_lt (IsS84.lt (show IsS84 w _ gb306 t320 t321 none from by repeat (first | (with_reducible first | exact HI306.out | apply IsS84.alloc | apply IsS84.drewN | apply IsS84.drew | apply IsS84.set_1 | apply IsS84.set_2 | refine IsS84.far ?_ NB306_304.out _ | refine IsS84.far ?_ NB306_311.out _) | exact HI306.out | apply IsS84.set_2 (x := some _) | apply IsS84.set_2 (x := none)))) : gb306 ≠ gb328)); have NB328_306 := Aside0.mk ((by rw [hg]; exact Nat.ne_of_gt (IsS84.lt (show IsS84 w _ gb306 t320 t321 none from by repeat (first | (with_reducible first | exact HI306.out | apply IsS84.alloc | apply IsS84.drewN | apply IsS84.drew | apply IsS84.set_1 | apply IsS84.set_2 | refine IsS84.far ?_ NB306_304.out _ | refine IsS84.far ?_ NB306_311.out _) | exact HI306.out | apply IsS84.set_2 (x := some _) | apply IsS84.set_2 (x := none)))) : gb328 ≠ gb306)); replace HI306 := Aside0.mk (IsS84.below (IsS84.k HI306) hb); clear hb hbox hg; have hnb51 := NB328_304.out; have hnc51 := NB304_328.out; have hnb52 := NB328_311.out; have hnc52 := NB311_328.out; have hnb53 := NB328_306.out; have hnc53 := NB306_328.out; have hcz54_0 : w50.cell? ⟨gb328, 0, none⟩ = some (.int .i64 0) := (blk_cell BK328.out 0).trans rfl; have hcz54_1 : w50.cell? ⟨gb328, 1, none⟩ = some (.int .u64 0) := (blk_cell BK328.out 1).trans rfl; have hcz54_2 : w50.cell? ⟨gb328, 2, none⟩ = some (.int .u64 0) := (blk_cell BK328.out 2).trans rfl; have hcz54_3 : w50.cell? ⟨gb328, 3, none⟩ = some (.int .u64 0) := (blk_cell BK328.out 3).trans rfl; have hfz54_0 := blk_frozen BK328.out 0; have hfz54_1 := blk_frozen BK328.out 1; have hfz54_2 := blk_frozen BK328.out 2; have hfz54_3 := blk_frozen BK328.out 3) | ((with_reducible refine gate_callee (f := 39) rfl ?_); refine goesL_ (some 98) rfl rfl Try.func39 (by kernel_rfl) rfl #[.agg #[.int .i64 ((rd_T89 t313 x92_5).f0), .int .u64 ((rd_T89 t313 x92_5).f1), .int .u64 ((rd_T89 t313 x92_5).f2), .int .u64 ((rd_T89 t313 x92_5).f3)]] rfl km ?_; (with_reducible refine (index_entry.calls ((rd_T89 t313 x92_5).f0) ((rd_T89 t313 x92_5).f1) ((rd_T89 t313 x92_5).f2) ((rd_T89 t313 x92_5).f3) t329 t330 t331 t332 true _ A47.out).mono ?_); rintro e w55 ⟨rfl, hb⟩; refine ⟨_, rfl, ?_⟩; replace HO_90 := Aside0.mk (Kd.R_below (by (with_reducible repeat (first | apply Kd.R_alloc | apply Kd.R_drewN | apply Kd.R_drew)); exact (Kd.R_mono (Kd.R_far (p := ⟨gb328, 3, none⟩) (Kd.R_far (p := ⟨gb328, 2, none⟩) (Kd.R_far (p := ⟨gb328, 1, none⟩) (Kd.R_far (p := ⟨gb328, 0, none⟩) (Kd.R_mono HO_90.out (fun k_ hk => (⟨hk, hk.2⟩ : _ ∧ k_ ≠ gb328))) (fun _ hk => hk.2) (.int .i64 ((rd_T89 t313 x92_5).f0))) (fun _ hk => hk.2) (.int .u64 ((rd_T89 t313 x92_5).f1))) (fun _ hk => hk.2) (.int .u64 ((rd_T89 t313 x92_5).f2))) (fun _ hk => hk.2) (.int .u64 ((rd_T89 t313 x92_5).f3))) (fun _ h_ => h_.1))) hb); replace HO_312001 := Aside0.mk (Kd.R_below (by (with_reducible repeat (first | apply Kd.R_alloc | apply Kd.R_drewN | apply Kd.R_drew)); exact (Kd.R_mono (Kd.R_far (p := ⟨gb328, 3, none⟩) (Kd.R_far (p := ⟨gb328, 2, none⟩) (Kd.R_far (p := ⟨gb328, 1, none⟩) (Kd.R_far (p := ⟨gb328, 0, none⟩) (Kd.R_types HO_312001.out BK328.out (by decide)) (fun _ hk => hk.2) (.int .i64 ((rd_T89 t313 x92_5).f0))) (fun _ hk => hk.2) (.int .u64 ((rd_T89 t313 x92_5).f1))) (fun _ hk => hk.2) (.int .u64 ((rd_T89 t313 x92_5).f2))) (fun _ hk => hk.2) (.int .u64 ((rd_T89 t313 x92_5).f3))) (fun _ h_ => h_.1))) hb); replace BK304 := Aside0.mk (blk_below (g := gb304) (o := .cells #[.int .i64 x305000_5, .slice none 0 0] 53 (0, 0)) (kb BK304) hb); replace BK311 := Aside0.mk (blk_below (g := gb311) (o := .cells #[.int .i64 (wrap64 (t307)), u312001] 53 (0, 0)) (kb BK311) hb); replace BK328 := Aside0.mk (blk_below (g := gb328) (o := .cells #[.int .i64 ((rd_T89 t313 x92_5).f0), .int .u64 ((rd_T89 t313 x92_5).f1), .int .u64 ((rd_T89 t313 x92_5).f2), .int .u64 ((rd_T89 t313 x92_5).f3)] 89 (0, 0)) (kb BK328) hb); replace HB := Aside0.mk (below_step (IsS84.kl HB) hb); replace HI306 := Aside0.mk (IsS84.below (show IsS84 w ((((w50.setCell ⟨gb328, 0, none⟩ (.int .i64 ((rd_T89 t313 x92_5).f0))).setCell ⟨gb328, 1, none⟩ (.int .u64 ((rd_T89 t313 x92_5).f1))).setCell ⟨gb328, 2, none⟩ (.int .u64 ((rd_T89 t313 x92_5).f2))).setCell ⟨gb328, 3, none⟩ (.int .u64 ((rd_T89 t313 x92_5).f3))) gb306 t320 t321 none from by repeat (first | (with_reducible first | exact HI306.out | apply IsS84.alloc | apply IsS84.drewN | apply IsS84.drew | apply IsS84.set_1 | apply IsS84.set_2 | refine IsS84.far ?_ NB306_304.out _ | refine IsS84.far ?_ NB306_311.out _ | refine IsS84.far ?_ NB306_328.out _) | exact HI306.out | apply IsS84.set_2 (x := some _) | apply IsS84.set_2 (x := none))) hb); (try clear hb); (try clear hb2); (try clear hk); (try clear hi)) | ((with_reducible refine gate_dst (N := 13) rfl ?_); refine box_event ?hg (N := 13) ?hd (cs := #[.int .i64 0, .int .i64 0, .int .i64 0, .int .i64 0]) (t := 72) ?hr ?_; (case hd => rfl); (case hg => rfl); (case hr => first | (go_simp; done) | (go_simp; rfl)); intro gb334 hg w56 hbox hb; replace HO_90 := Aside0.mk (Kd.R_below (kr HO_90) hb); replace HO_312001 := Aside0.mk (Kd.R_below (Kd.R_elderB (kr HO_312001) gb334 (Nat.le_of_eq hg.symm)) hb); have BK334 := Aside0.mk (hbox); have GW334 := Aside0.mk ((by rw [hg]; exact (below_size (IsS84.kl HB)) : w.heap.size ≤ gb334)); have GE334 := Aside0.mk ((by rw [hg]; exact (below_size (IsS84.kl HB)) : w.heap.size ≤ gb334)); replace HB := Aside0.mk (below_step (IsS84.kl HB) hb); obtain ⟨NB304_334, NB334_304⟩ := kN hg BK304; replace BK304 := kB BK304 hb; obtain ⟨NB311_334, NB334_311⟩ := kN hg BK311; replace BK311 := kB BK311 hb; obtain ⟨NB328_334, NB334_328⟩ := kN hg BK328; replace BK328 := kB BK328 hb; have NB306_334 := Aside0.mk ((by rw [hg]; exact Nat.ne_of_lt (IsS84.lt (show IsS84 w _ gb306 t320 t321 none from by repeat (first | (with_reducible first | exact HI306.out | apply IsS84.alloc | apply IsS84.drewN | apply IsS84.drew | apply IsS84.set_1 | apply IsS84.set_2 | refine IsS84.far ?_ NB306_304.out _ | refine IsS84.far ?_ NB306_311.out _ | refine IsS84.far ?_ NB306_328.out _) | exact HI306.out | apply IsS84.set_2 (x := some _) | apply IsS84.set_2 (x := none)))) : gb306 ≠ gb334)); have NB334_306 := Aside0.mk ((by rw [hg]; exact Nat.ne_of_gt (IsS84.lt (show IsS84 w _ gb306 t320 t321 none from by repeat (first | (with_reducible first | exact HI306.out | apply IsS84.alloc | apply IsS84.drewN | apply IsS84.drew | apply IsS84.set_1 | apply IsS84.set_2 | refine IsS84.far ?_ NB306_304.out _ | refine IsS84.far ?_ NB306_311.out _ | refine IsS84.far ?_ NB306_328.out _) | exact HI306.out | apply IsS84.set_2 (x := some _) | apply IsS84.set_2 (x := none)))) : gb334 ≠ gb306)); replace HI306 := Aside0.mk (IsS84.below (IsS84.k HI306) hb); clear hb hbox hg; have hnb57 := NB334_304.out; have hnc57 := NB304_334.out; have hnb58 := NB334_311.out; have hnc58 := NB311_334.out; have hnb59 := NB334_328.out; have hnc59 := NB328_334.out; have hnb60 := NB334_306.out; have hnc60 := NB306_334.out; have hcz61_0 : w56.cell? ⟨gb334, 0, none⟩ = some (.int .i64 0) := (blk_cell BK334.out 0).trans rfl; have hcz61_1 : w56.cell? ⟨gb334, 1, none⟩ = some (.int .i64 0) := (blk_cell BK334.out 1).trans rfl; have hcz61_2 : w56.cell? ⟨gb334, 2, none⟩ = some (.int .i64 0) := (blk_cell BK334.out 2).trans rfl; have hcz61_3 : w56.cell? ⟨gb334, 3, none⟩ = some (.int .i64 0) := (blk_cell BK334.out 3).trans rfl; have hfz61_0 := blk_frozen BK334.out 0; have hfz61_1 := blk_frozen BK334.out 1; have hfz61_2 := blk_frozen BK334.out 2; have hfz61_3 := blk_frozen BK334.out 3; have hnb62 := NB304_311.out; have hnc62 := NB311_304.out; have hnb63 := NB304_306.out; have hnc63 := NB306_304.out; have hcz64_0 : w56.cell? ⟨gb304, 0, none⟩ = some (.int .i64 x305000_5) := (blk_cell BK304.out 0).trans rfl; have hcz64_1 : w56.cell? ⟨gb304, 1, none⟩ = some (.slice none 0 0) := (blk_cell BK304.out 1).trans rfl; have hfz64_0 := blk_frozen BK304.out 0; have hfz64_1 := blk_frozen BK304.out 1))
                  refine bodyPost_ret (results_ctt rfl _ _ gb304 53 #[.int .i64 0, .slice none 0 0] (0, 0) _ rfl (kb BK304) Try.underlying53 rfl (by kernel_rfl)) rfl ?_
                  exact ⟨_, by first | rfl | (simp [errW_none, errW_some] <;> rfl) | (simp [*, errW_none, errW_some] <;> rfl), by first | exact Kd.R_nil _ _ _ _ _ | exact Kd.N_nil _ _ _ _ _ | exact Kd.V_nil _ _ _ _ _ | exact Kd.Q_nil _ _ _ _ _ | exact Kd.S_nil _ _ _ _ _, (IsS84.kl HB)⟩
                 ·rw [if_neg c49] at H
                  have c49b0 : decide (x10_5 < t332) = false := decide_eq_false c49
                  clear c49
                  by_cases c65 : x312001_5.length < 4398046511104
                  ·rw [if_pos c65] at H
                   have LMc65 := Aside0.mk c65
                   clear c65
                   obtain ⟨y335, hy335⟩ : ∃ y_ : List (S72), y_ = (x312001_5 ++ [(⟨t329, t330, t331, t332⟩ : S72)]) := ⟨_, rfl⟩
                   replace H : (index_Get.l0 k5 (wrap64 (x10_5 - t332)) t313 (t313.length : Int) (wrap64 (x92_5 + 1)) t320 t321 none (wrap64 (t307)) y335) = some (r1, r2, r3, r4) := by first | (rw [hy335]; with_reducible exact H) | (have H2_ := (Option.bind_some _ _).symm.trans H; rw [hy335]; with_reducible exact H2_) | (have H2_ := (Option.bind_some _ _).symm.trans H; with_reducible exact H2_) | with_reducible exact H | (rw [hy335]; exact H) | exact H
                   have Ny335 := Aside0.mk hy335
                   clear hy335
                   have H' := Aside0.mk H
                   clear H
                   have p327 : 0 ≤ (x92_5 : Int) := of_decide_eq_true (by first | (with_reducible assumption) | assumption)
                   have q327 : x92_5 < (t313.length : Int) := of_decide_eq_true (by first | (with_reducible assumption) | assumption)
                   obtain ⟨ad327, e327, hx327_0, hx327_1, hx327_2, hx327_3⟩ := at_T89 (Kd.R_reads' HO_90.out).2.2 x92_5 p327 q327
                   cases e327
                   replace p327 := eq_true p327
                   (try (have q327s := q327; simp only [List.length_drop, List.length_take] at q327s; replace q327s := eq_true q327s)); replace q327 := eq_true q327
                   go_wp2_with (first | ((with_reducible refine gate_dst (N := 12) rfl ?_); refine box_event ?hg (N := 12) ?hd (cs := #[.int .i64 0, .int .u64 0, .int .u64 0, .int .u64 0]) (t := 89) ?hr ?_; (case hd => rfl); (case hg => rfl); (case hr => first | (go_simp; done) | (go_simp; rfl)); intro gb328 hg w66 hbox hb; replace HO_90 := Aside0.mk (Kd.R_below (Kd.R_elderB (kr HO_90) gb328 (Nat.le_of_eq hg.symm)) hb); replace HO_312001 := Aside0.mk (Kd.R_below (kr HO_312001) hb); have BK328 := Aside0.mk (hbox); have GW328 := Aside0.mk ((by rw [hg]; exact (below_size (IsS84.kl HB)) : w.heap.size ≤ gb328)); have GE328 := Aside0.mk ((by rw [hg]; exact (below_size (IsS84.kl HB)) : w.heap.size ≤ gb328)); replace HB := Aside0.mk (below_step (IsS84.kl HB) hb); obtain ⟨NB304_328, NB328_304⟩ := kN hg BK304; replace BK304 := kB BK304 hb; obtain ⟨NB311_328, NB328_311⟩ := kN hg BK311; replace BK311 := kB BK311 hb; have NB306_328 := Aside0.mk ((by rw [hg]; exact Nat.ne_of_lt (IsS84.lt (show IsS84 w _ gb306 t320 t321 none from by repeat (first | (with_reducible first | exact HI306.out | apply IsS84.alloc | apply IsS84.drewN | apply IsS84.drew | apply IsS84.set_1 | apply IsS84.set_2 | refine IsS84.far ?_ NB306_304.out _ | refine IsS84.far ?_ NB306_311.out _) | exact HI306.out | apply IsS84.set_2 (x := some _) | apply IsS84.set_2 (x := none)))) : gb306 ≠ gb328)); have NB328_306 := Aside0.mk ((by rw [hg]; exact Nat.ne_of_gt (IsS84.lt (show IsS84 w _ gb306 t320 t321 none from by repeat (first | (with_reducible first | exact HI306.out | apply IsS84.alloc | apply IsS84.drewN | apply IsS84.drew | apply IsS84.set_1 | apply IsS84.set_2 | refine IsS84.far ?_ NB306_304.out _ | refine IsS84.far ?_ NB306_311.out _) | exact HI306.out | apply IsS84.set_2 (x := some _) | apply IsS84.set_2 (x := none)))) : gb328 ≠ gb306)); replace HI306 := Aside0.mk (IsS84.below (IsS84.k HI306) hb); clear hb hbox hg; have hnb67 := NB328_304.out; have hnc67 := NB304_328.out; have hnb68 := NB328_311.out; have hnc68 := NB311_328.out; have hnb69 := NB328_306.out; have hnc69 := NB306_328.out; have hcz70_0 : w66.cell? ⟨gb328, 0, none⟩ = some (.int .i64 0) := (blk_cell BK328.out 0).trans rfl; have hcz70_1 : w66.cell? ⟨gb328, 1, none⟩ = some (.int .u64 0) := (blk_cell BK328.out 1).trans rfl; have hcz70_2 : w66.cell? ⟨gb328, 2, none⟩ = some (.int .u64 0) := (blk_cell BK328.out 2).trans rfl; have hcz70_3 : w66.cell? ⟨gb328, 3, none⟩ = some (.int .u64 0) := (blk_cell BK328.out 3).trans rfl; have hfz70_0 := blk_frozen BK328.out 0; have hfz70_1 := blk_frozen BK328.out 1; have hfz70_2 := blk_frozen BK328.out 2; have hfz70_3 := blk_frozen BK328.out 3) | ((with_reducible refine gate_callee (f := 39) rfl ?_); refine goesL_ (some 98) rfl rfl Try.func39 (by kernel_rfl) rfl #[.agg #[.int .i64 ((rd_T89 t313 x92_5).f0), .int .u64 ((rd_T89 t313 x92_5).f1), .int .u64 ((rd_T89 t313 x92_5).f2), .int .u64 ((rd_T89 t313 x92_5).f3)]] rfl km ?_; (with_reducible refine (index_entry.calls ((rd_T89 t313 x92_5).f0) ((rd_T89 t313 x92_5).f1) ((rd_T89 t313 x92_5).f2) ((rd_T89 t313 x92_5).f3) t329 t330 t331 t332 true _ A47.out).mono ?_); rintro e w71 ⟨rfl, hb⟩; refine ⟨_, rfl, ?_⟩; replace HO_90 := Aside0.mk (Kd.R_below (by (with_reducible repeat (first | apply Kd.R_alloc | apply Kd.R_drewN | apply Kd.R_drew)); exact (Kd.R_mono (Kd.R_far (p := ⟨gb328, 3, none⟩) (Kd.R_far (p := ⟨gb328, 2, none⟩) (Kd.R_far (p := ⟨gb328, 1, none⟩) (Kd.R_far (p := ⟨gb328, 0, none⟩) (Kd.R_mono HO_90.out (fun k_ hk => (⟨hk, hk.2⟩ : _ ∧ k_ ≠ gb328))) (fun _ hk => hk.2) (.int .i64 ((rd_T89 t313 x92_5).f0))) (fun _ hk => hk.2) (.int .u64 ((rd_T89 t313 x92_5).f1))) (fun _ hk => hk.2) (.int .u64 ((rd_T89 t313 x92_5).f2))) (fun _ hk => hk.2) (.int .u64 ((rd_T89 t313 x92_5).f3))) (fun _ h_ => h_.1))) hb); replace HO_312001 := Aside0.mk (Kd.R_below (by (with_reducible repeat (first | apply Kd.R_alloc | apply Kd.R_drewN | apply Kd.R_drew)); exact (Kd.R_mono (Kd.R_far (p := ⟨gb328, 3, none⟩) (Kd.R_far (p := ⟨gb328, 2, none⟩) (Kd.R_far (p := ⟨gb328, 1, none⟩) (Kd.R_far (p := ⟨gb328, 0, none⟩) (Kd.R_types HO_312001.out BK328.out (by decide)) (fun _ hk => hk.2) (.int .i64 ((rd_T89 t313 x92_5).f0))) (fun _ hk => hk.2) (.int .u64 ((rd_T89 t313 x92_5).f1))) (fun _ hk => hk.2) (.int .u64 ((rd_T89 t313 x92_5).f2))) (fun _ hk => hk.2) (.int .u64 ((rd_T89 t313 x92_5).f3))) (fun _ h_ => h_.1))) hb); replace BK304 := Aside0.mk (blk_below (g := gb304) (o := .cells #[.int .i64 x305000_5, .slice none 0 0] 53 (0, 0)) (kb BK304) hb); replace BK311 := Aside0.mk (blk_below (g := gb311) (o := .cells #[.int .i64 (wrap64 (t307)), u312001] 53 (0, 0)) (kb BK311) hb); replace BK328 := Aside0.mk (blk_below (g := gb328) (o := .cells #[.int .i64 ((rd_T89 t313 x92_5).f0), .int .u64 ((rd_T89 t313 x92_5).f1), .int .u64 ((rd_T89 t313 x92_5).f2), .int .u64 ((rd_T89 t313 x92_5).f3)] 89 (0, 0)) (kb BK328) hb); replace HB := Aside0.mk (below_step (IsS84.kl HB) hb); replace HI306 := Aside0.mk (IsS84.below (show IsS84 w ((((w66.setCell ⟨gb328, 0, none⟩ (.int .i64 ((rd_T89 t313 x92_5).f0))).setCell ⟨gb328, 1, none⟩ (.int .u64 ((rd_T89 t313 x92_5).f1))).setCell ⟨gb328, 2, none⟩ (.int .u64 ((rd_T89 t313 x92_5).f2))).setCell ⟨gb328, 3, none⟩ (.int .u64 ((rd_T89 t313 x92_5).f3))) gb306 t320 t321 none from by repeat (first | (with_reducible first | exact HI306.out | apply IsS84.alloc | apply IsS84.drewN | apply IsS84.drew | apply IsS84.set_1 | apply IsS84.set_2 | refine IsS84.far ?_ NB306_304.out _ | refine IsS84.far ?_ NB306_311.out _ | refine IsS84.far ?_ NB306_328.out _) | exact HI306.out | apply IsS84.set_2 (x := some _) | apply IsS84.set_2 (x := none))) hb); (try clear hb); (try clear hb2); (try clear hk); (try clear hi)) | ((with_reducible refine gate_dst (N := 13) rfl ?_); refine box_event ?hg (N := 13) ?hd (cs := #[.int .i64 0, .int .i64 0, .int .i64 0, .int .i64 0]) (t := 72) ?hr ?_; (case hd => rfl); (case hg => rfl); (case hr => first | (go_simp; done) | (go_simp; rfl)); intro gb334 hg w72 hbox hb; replace HO_90 := Aside0.mk (Kd.R_below (kr HO_90) hb); replace HO_312001 := Aside0.mk (Kd.R_below (Kd.R_elderB (kr HO_312001) gb334 (Nat.le_of_eq hg.symm)) hb); have BK334 := Aside0.mk (hbox); have GW334 := Aside0.mk ((by rw [hg]; exact (below_size (IsS84.kl HB)) : w.heap.size ≤ gb334)); have GE334 := Aside0.mk ((by rw [hg]; exact (below_size (IsS84.kl HB)) : w.heap.size ≤ gb334)); replace HB := Aside0.mk (below_step (IsS84.kl HB) hb); obtain ⟨NB304_334, NB334_304⟩ := kN hg BK304; replace BK304 := kB BK304 hb; obtain ⟨NB311_334, NB334_311⟩ := kN hg BK311; replace BK311 := kB BK311 hb; obtain ⟨NB328_334, NB334_328⟩ := kN hg BK328; replace BK328 := kB BK328 hb; have NB306_334 := Aside0.mk ((by rw [hg]; exact Nat.ne_of_lt (IsS84.lt (show IsS84 w _ gb306 t320 t321 none from by repeat (first | (with_reducible first | exact HI306.out | apply IsS84.alloc | apply IsS84.drewN | apply IsS84.drew | apply IsS84.set_1 | apply IsS84.set_2 | refine IsS84.far ?_ NB306_304.out _ | refine IsS84.far ?_ NB306_311.out _ | refine IsS84.far ?_ NB306_328.out _) | exact HI306.out | apply IsS84.set_2 (x := some _) | apply IsS84.set_2 (x := none)))) : gb306 ≠ gb334)); have NB334_306 := Aside0.mk ((by rw [hg]; exact Nat.ne_of_gt (IsS84.lt (show IsS84 w _ gb306 t320 t321 none from by repeat (first | (with_reducible first | exact HI306.out | apply IsS84.alloc | apply IsS84.drewN | apply IsS84.drew | apply IsS84.set_1 | apply IsS84.set_2 | refine IsS84.far ?_ NB306_304.out _ | refine IsS84.far ?_ NB306_311.out _ | refine IsS84.far ?_ NB306_328.out _) | exact HI306.out | apply IsS84.set_2 (x := some _) | apply IsS84.set_2 (x := none)))) : gb334 ≠ gb306)); replace HI306 := Aside0.mk (IsS84.below (IsS84.k HI306) hb); clear hb hbox hg; have hnb73 := NB334_304.out; have hnc73 := NB304_334.out; have hnb74 := NB334_311.out; have hnc74 := NB311_334.out; have hnb75 := NB334_328.out; have hnc75 := NB328_334.out; have hnb76 := NB334_306.out; have hnc76 := NB306_334.out; have hcz77_0 : w72.cell? ⟨gb334, 0, none⟩ = some (.int .i64 0) := (blk_cell BK334.out 0).trans rfl; have hcz77_1 : w72.cell? ⟨gb334, 1, none⟩ = some (.int .i64 0) := (blk_cell BK334.out 1).trans rfl; have hcz77_2 : w72.cell? ⟨gb334, 2, none⟩ = some (.int .i64 0) := (blk_cell BK334.out 2).trans rfl; have hcz77_3 : w72.cell? ⟨gb334, 3, none⟩ = some (.int .i64 0) := (blk_cell BK334.out 3).trans rfl; have hfz77_0 := blk_frozen BK334.out 0; have hfz77_1 := blk_frozen BK334.out 1; have hfz77_2 := blk_frozen BK334.out 2; have hfz77_3 := blk_frozen BK334.out 3; have hnb78 := NB311_304.out; have hnc78 := NB304_311.out; have hnb79 := NB311_306.out; have hnc79 := NB306_311.out; have hcz80_0 : w72.cell? ⟨gb311, 0, none⟩ = some (.int .i64 (wrap64 (t307))) := (blk_cell BK311.out 0).trans rfl; have hcz80_1 : w72.cell? ⟨gb311, 1, none⟩ = some (u312001) := (blk_cell BK311.out 1).trans rfl; have hfz80_0 := blk_frozen BK311.out 0; have hfz80_1 := blk_frozen BK311.out 1) | ((with_reducible refine gate_builtin (b := .append) (xs := #[.tmp 116, .tmp 118]) rfl ?_); at_builtin; refine Kd.R_append k72 (w0 := w) w.heap.size rfl (.tmp 116) (.tmp 118) 51 72 (.agg #[(.int .i64 0), (.int .i64 0), (.int .i64 0), (.int .i64 0)]) 32 rfl Try.underlying51 info72 rfl (by decide) (by omega) u312001 x312001_5 (⟨t329, t330, t331, t332⟩ : S72) [.int .i64 t329, .int .i64 t330, .int .i64 t331, .int .i64 t332] (fun k_ => k_ ≠ gb334) (fun _ => False) rfl (by first | (go_simp; done) | (go_simp; rfl)) ?aP (fun _ hk => hk.elim) ?aF ?aO ?aB ?aS ?aL ?_; (case aP => exact k72_mkM _ _ _ (⟨t329, t330, t331, t332⟩ : S72)); (case aB => exact (IsS84.kl HB)); (case aF => exact (fun k_ hk => Kd.freshB (g := gb334) (o := .cells #[.int .i64 t329, .int .i64 t330, .int .i64 t331, .int .i64 t332] 72 (0, 0)) (kb BK334) k_ hk)); (case aO => exact (by (with_reducible repeat (first | apply Kd.R_alloc | apply Kd.R_drewN | apply Kd.R_drew)); exact Kd.R_mono (Kd.R_far (p := ⟨gb334, 3, none⟩) (Kd.R_far (p := ⟨gb334, 2, none⟩) (Kd.R_far (p := ⟨gb334, 1, none⟩) (Kd.R_far (p := ⟨gb334, 0, none⟩) (Kd.R_mono HO_312001.out (fun k_ hk => (⟨hk, hk.2⟩ : _ ∧ k_ ≠ gb334))) (fun _ hk => hk.2) (.int .i64 t329)) (fun _ hk => hk.2) (.int .i64 t330)) (fun _ hk => hk.2) (.int .i64 t331)) (fun _ hk => hk.2) (.int .i64 t332)) (fun _ hk => hk.1.2))); (case aS => exact (below_size (IsS84.kl HB))); (case aL => have := LMc65.out; omega); intro v336 w81 ho hb hg hat; rw [← Ny335.out] at ho; have n0_ := Aside0.mk (Kd.R_over' (by (with_reducible repeat (first | apply Kd.R_alloc | apply Kd.R_drewN | apply Kd.R_drew)); exact (Kd.R_mono (Kd.R_far (p := ⟨gb334, 3, none⟩) (Kd.R_far (p := ⟨gb334, 2, none⟩) (Kd.R_far (p := ⟨gb334, 1, none⟩) (Kd.R_far (p := ⟨gb334, 0, none⟩) (Kd.R_types HO_90.out BK334.out (by decide)) (fun _ hk => hk.2) (.int .i64 t329)) (fun _ hk => hk.2) (.int .i64 t330)) (fun _ hk => hk.2) (.int .i64 t331)) (fun _ hk => hk.2) (.int .i64 t332)) (fun _ h_ => h_.1))) (Kd.R_typed (by (with_reducible repeat (first | apply Kd.R_alloc | apply Kd.R_drewN | apply Kd.R_drew)); exact (Kd.R_mono (Kd.R_far (p := ⟨gb334, 3, none⟩) (Kd.R_far (p := ⟨gb334, 2, none⟩) (Kd.R_far (p := ⟨gb334, 1, none⟩) (Kd.R_far (p := ⟨gb334, 0, none⟩) (Kd.R_mono HO_312001.out (fun k_ hk => (⟨hk, hk.2⟩ : _ ∧ k_ ≠ gb334))) (fun _ hk => hk.2) (.int .i64 t329)) (fun _ hk => hk.2) (.int .i64 t330)) (fun _ hk => hk.2) (.int .i64 t331)) (fun _ hk => hk.2) (.int .i64 t332)) (fun _ h_ => h_.1)))) (by decide) hg); have n1_ := Aside0.mk (blk_grown (g := gb304) (o := .cells #[.int .i64 x305000_5, .slice none 0 0] 53 (0, 0)) (kb BK304) hg (Kd.R_ne HO_312001.out BK304.out (by decide))); have n2_ := Aside0.mk (blk_grown (g := gb311) (o := .cells #[.int .i64 (wrap64 (t307)), u312001] 53 (0, 0)) (kb BK311) hg (Kd.R_ne HO_312001.out BK311.out (by decide))); have n3_ := Aside0.mk (IsS84.grown (show IsS84 w _ gb306 t320 t321 none from by repeat (first | (with_reducible first | exact HI306.out | apply IsS84.alloc | apply IsS84.drewN | apply IsS84.drew | apply IsS84.set_1 | apply IsS84.set_2 | refine IsS84.far ?_ NB306_304.out _ | refine IsS84.far ?_ NB306_311.out _ | refine IsS84.far ?_ NB306_328.out _ | refine IsS84.far ?_ NB306_334.out _) | exact HI306.out | apply IsS84.set_2 (x := some _) | apply IsS84.set_2 (x := none))) hg (IsS84.own_ne HI306.out HO_312001.out (by decide))); have n4_ := Aside0.mk (blk_grown (g := gb328) (o := .cells #[.int .i64 ((rd_T89 t313 x92_5).f0), .int .u64 ((rd_T89 t313 x92_5).f1), .int .u64 ((rd_T89 t313 x92_5).f2), .int .u64 ((rd_T89 t313 x92_5).f3)] 89 (0, 0)) (kb BK328) hg (Kd.R_ne HO_312001.out BK328.out (by decide))); have n5_ := Aside0.mk (blk_grown (g := gb334) (o := .cells #[.int .i64 t329, .int .i64 t330, .int .i64 t331, .int .i64 t332] 72 (0, 0)) (kb BK334) hg (Kd.R_away HO_312001.out (fun _ hk => hk.2))); have n6_ := Aside0.mk (hb); have n7_ := Aside0.mk (ho); clear HO_90; clear BK304; clear BK311; clear HI306; clear BK328; clear BK334; clear HB; clear HO_312001; have HO_90 := n0_; have BK304 := n1_; have BK311 := n2_; have HI306 := n3_; have BK328 := n4_; have BK334 := n5_; have HB := n6_; have HO337 := n7_; clear n0_ n1_ n2_ n3_ n4_ n5_ n6_ n7_; clear ho hb hg hat; obtain ⟨Ao82, co82, eo82⟩ := Kd.R_slice HO337.out; subst eo82; have hcz83_0 : w81.cell? ⟨gb311, 0, none⟩ = some (.int .i64 (wrap64 (t307))) := (blk_cell BK311.out 0).trans rfl; have hcz83_1 : w81.cell? ⟨gb311, 1, none⟩ = some (u312001) := (blk_cell BK311.out 1).trans rfl; have hfz83_0 := blk_frozen BK311.out 0; have hfz83_1 := blk_frozen BK311.out 1))
                   go_roundg k5
                   case measure => have := HJ4.out; have := HJ23.out; have := HJ28.out; have := HJ38.out; have := HK5.out; omega
                   case rel => exact ⟨(wrap64 (x10_5 - t332)), (wrap64 (x92_5 + 1)), (x305000_5), (y335), (.slice Ao82 y335.length co82), (by first | rfl | (simp; done) | (simp [*]; done)), (by first | rfl | (simp; done) | (simp [*]; done)), H', ⟨by have := HJ4.out; have := HJ23.out; have := HJ28.out; have := HJ38.out; have := HK5.out; omega⟩, ⟨by (with_reducible repeat (first | apply Kd.R_alloc | apply Kd.R_drewN | apply Kd.R_drew)); exact Kd.R_mono (Kd.R_far (p := ⟨gb311, 1, none⟩) (Kd.R_types HO_90.out BK311.out (by decide)) (fun _ hk => hk.2) (.slice Ao82 y335.length co82)) (fun _ hk => trivial)⟩, ⟨by (with_reducible repeat (first | apply Kd.R_alloc | apply Kd.R_drewN | apply Kd.R_drew)); exact Kd.R_mono (Kd.R_far (p := ⟨gb311, 1, none⟩) (Kd.R_types HO337.out BK311.out (by decide)) (fun _ hk => hk.2) (.slice Ao82 y335.length co82)) (fun _ hk => trivial)⟩, ⟨by (with_reducible repeat (first | refine blk_drewN ?_ _ | refine blk_drew ?_ | refine blk_alloc ?_ _)); refine blk_far ?_ NB304_311.out _; (with_reducible repeat (first | refine blk_drewN ?_ _ | refine blk_drew ?_ | refine blk_alloc ?_ _)); exact BK304.out⟩, ⟨by (with_reducible repeat (first | refine blk_drewN ?_ _ | refine blk_drew ?_ | refine blk_alloc ?_ _)); refine blk_put (cs := #[.int .i64 (wrap64 (t307)), u312001]) ?_ 1 _ rfl; (with_reducible repeat (first | refine blk_drewN ?_ _ | refine blk_drew ?_ | refine blk_alloc ?_ _)); exact BK311.out⟩, ⟨(IsS84.k HI306)⟩, ⟨(IsS84.kl HB)⟩⟩
                  ·rw [if_neg c65] at H
                   exact absurd H (by simp)
                ·replace c48 := Bool.eq_false_iff.mpr c48
                 subst c48
                 have H1 : (some (0, ([] : List (S72)), 0, some 8)) = some (r1, r2, r3, r4) := by rw [if_neg (show ¬ (false = true) by decide)] at H; exact H
                 clear H
                 have H := H1
                 clear H1
                 simp only [Option.some.injEq, Prod.mk.injEq] at H
                 obtain ⟨rfl, rfl, rfl, rfl⟩ := H
                 have p327 : 0 ≤ (x92_5 : Int) := of_decide_eq_true (by first | (with_reducible assumption) | assumption)
                 have q327 : x92_5 < (t313.length : Int) := of_decide_eq_true (by first | (with_reducible assumption) | assumption)
                 obtain ⟨ad327, e327, hx327_0, hx327_1, hx327_2, hx327_3⟩ := at_T89 (Kd.R_reads' HO_90.out).2.2 x92_5 p327 q327
                 cases e327
                 replace p327 := eq_true p327
                 (try (have q327s := q327; simp only [List.length_drop, List.length_take] at q327s; replace q327s := eq_true q327s)); replace q327 := eq_true q327
                 go_wp2_with (first | ((with_reducible refine gate_dst (N := 12) rfl ?_); refine box_event ?hg (N := 12) ?hd (cs := #[.int .i64 0, .int .u64 0, .int .u64 0, .int .u64 0]) (t := 89) ?hr ?_; (case hd => rfl); (case hg => rfl); (case hr => first | (go_simp; done) | (go_simp; rfl)); intro gb328 hg w84 hbox hb; replace HO_90 := Aside0.mk (Kd.R_below (Kd.R_elderB (kr HO_90) gb328 (Nat.le_of_eq hg.symm)) hb); replace HO_312001 := Aside0.mk (Kd.R_below (kr HO_312001) hb); have BK328 := Aside0.mk (hbox); have GW328 := Aside0.mk ((by rw [hg]; exact (below_size (IsS84.kl HB)) : w.heap.size ≤ gb328)); have GE328 := Aside0.mk ((by rw [hg]; exact (below_size (IsS84.kl HB)) : w.heap.size ≤ gb328)); replace HB := Aside0.mk (below_step (IsS84.kl HB) hb); obtain ⟨NB304_328, NB328_304⟩ := kN hg BK304; replace BK304 := kB BK304 hb; obtain ⟨NB311_328, NB328_311⟩ := kN hg BK311; replace BK311 := kB BK311 hb; have NB306_328 := Aside0.mk ((by rw [hg]; exact Nat.ne_of_lt (IsS84.lt (show IsS84 w _ gb306 t320 t321 none from by repeat (first | (with_reducible first | exact HI306.out | apply IsS84.alloc | apply IsS84.drewN | apply IsS84.drew | apply IsS84.set_1 | apply IsS84.set_2 | refine IsS84.far ?_ NB306_304.out _ | refine IsS84.far ?_ NB306_311.out _) | exact HI306.out | apply IsS84.set_2 (x := some _) | apply IsS84.set_2 (x := none)))) : gb306 ≠ gb328)); have NB328_306 := Aside0.mk ((by rw [hg]; exact Nat.ne_of_gt (IsS84.lt (show IsS84 w _ gb306 t320 t321 none from by repeat (first | (with_reducible first | exact HI306.out | apply IsS84.alloc | apply IsS84.drewN | apply IsS84.drew | apply IsS84.set_1 | apply IsS84.set_2 | refine IsS84.far ?_ NB306_304.out _ | refine IsS84.far ?_ NB306_311.out _) | exact HI306.out | apply IsS84.set_2 (x := some _) | apply IsS84.set_2 (x := none)))) : gb328 ≠ gb306)); replace HI306 := Aside0.mk (IsS84.below (IsS84.k HI306) hb); clear hb hbox hg; have hnb85 := NB328_304.out; have hnc85 := NB304_328.out; have hnb86 := NB328_311.out; have hnc86 := NB311_328.out; have hnb87 := NB328_306.out; have hnc87 := NB306_328.out; have hcz88_0 : w84.cell? ⟨gb328, 0, none⟩ = some (.int .i64 0) := (blk_cell BK328.out 0).trans rfl; have hcz88_1 : w84.cell? ⟨gb328, 1, none⟩ = some (.int .u64 0) := (blk_cell BK328.out 1).trans rfl; have hcz88_2 : w84.cell? ⟨gb328, 2, none⟩ = some (.int .u64 0) := (blk_cell BK328.out 2).trans rfl; have hcz88_3 : w84.cell? ⟨gb328, 3, none⟩ = some (.int .u64 0) := (blk_cell BK328.out 3).trans rfl; have hfz88_0 := blk_frozen BK328.out 0; have hfz88_1 := blk_frozen BK328.out 1; have hfz88_2 := blk_frozen BK328.out 2; have hfz88_3 := blk_frozen BK328.out 3) | ((with_reducible refine gate_callee (f := 39) rfl ?_); refine goesL_ (some 98) rfl rfl Try.func39 (by kernel_rfl) rfl #[.agg #[.int .i64 ((rd_T89 t313 x92_5).f0), .int .u64 ((rd_T89 t313 x92_5).f1), .int .u64 ((rd_T89 t313 x92_5).f2), .int .u64 ((rd_T89 t313 x92_5).f3)]] rfl km ?_; (with_reducible refine (index_entry.calls ((rd_T89 t313 x92_5).f0) ((rd_T89 t313 x92_5).f1) ((rd_T89 t313 x92_5).f2) ((rd_T89 t313 x92_5).f3) t329 t330 t331 t332 false _ A47.out).mono ?_); rintro e w89 ⟨rfl, hb⟩; refine ⟨_, rfl, ?_⟩; replace HO_90 := Aside0.mk (Kd.R_below (by (with_reducible repeat (first | apply Kd.R_alloc | apply Kd.R_drewN | apply Kd.R_drew)); exact (Kd.R_mono (Kd.R_far (p := ⟨gb328, 3, none⟩) (Kd.R_far (p := ⟨gb328, 2, none⟩) (Kd.R_far (p := ⟨gb328, 1, none⟩) (Kd.R_far (p := ⟨gb328, 0, none⟩) (Kd.R_mono HO_90.out (fun k_ hk => (⟨hk, hk.2⟩ : _ ∧ k_ ≠ gb328))) (fun _ hk => hk.2) (.int .i64 ((rd_T89 t313 x92_5).f0))) (fun _ hk => hk.2) (.int .u64 ((rd_T89 t313 x92_5).f1))) (fun _ hk => hk.2) (.int .u64 ((rd_T89 t313 x92_5).f2))) (fun _ hk => hk.2) (.int .u64 ((rd_T89 t313 x92_5).f3))) (fun _ h_ => h_.1))) hb); replace HO_312001 := Aside0.mk (Kd.R_below (by (with_reducible repeat (first | apply Kd.R_alloc | apply Kd.R_drewN | apply Kd.R_drew)); exact (Kd.R_mono (Kd.R_far (p := ⟨gb328, 3, none⟩) (Kd.R_far (p := ⟨gb328, 2, none⟩) (Kd.R_far (p := ⟨gb328, 1, none⟩) (Kd.R_far (p := ⟨gb328, 0, none⟩) (Kd.R_types HO_312001.out BK328.out (by decide)) (fun _ hk => hk.2) (.int .i64 ((rd_T89 t313 x92_5).f0))) (fun _ hk => hk.2) (.int .u64 ((rd_T89 t313 x92_5).f1))) (fun _ hk => hk.2) (.int .u64 ((rd_T89 t313 x92_5).f2))) (fun _ hk => hk.2) (.int .u64 ((rd_T89 t313 x92_5).f3))) (fun _ h_ => h_.1))) hb); replace BK304 := Aside0.mk (blk_below (g := gb304) (o := .cells #[.int .i64 x305000_5, .slice none 0 0] 53 (0, 0)) (kb BK304) hb); replace BK311 := Aside0.mk (blk_below (g := gb311) (o := .cells #[.int .i64 (wrap64 (t307)), u312001] 53 (0, 0)) (kb BK311) hb); replace BK328 := Aside0.mk (blk_below (g := gb328) (o := .cells #[.int .i64 ((rd_T89 t313 x92_5).f0), .int .u64 ((rd_T89 t313 x92_5).f1), .int .u64 ((rd_T89 t313 x92_5).f2), .int .u64 ((rd_T89 t313 x92_5).f3)] 89 (0, 0)) (kb BK328) hb); replace HB := Aside0.mk (below_step (IsS84.kl HB) hb); replace HI306 := Aside0.mk (IsS84.below (show IsS84 w ((((w84.setCell ⟨gb328, 0, none⟩ (.int .i64 ((rd_T89 t313 x92_5).f0))).setCell ⟨gb328, 1, none⟩ (.int .u64 ((rd_T89 t313 x92_5).f1))).setCell ⟨gb328, 2, none⟩ (.int .u64 ((rd_T89 t313 x92_5).f2))).setCell ⟨gb328, 3, none⟩ (.int .u64 ((rd_T89 t313 x92_5).f3))) gb306 t320 t321 none from by repeat (first | (with_reducible first | exact HI306.out | apply IsS84.alloc | apply IsS84.drewN | apply IsS84.drew | apply IsS84.set_1 | apply IsS84.set_2 | refine IsS84.far ?_ NB306_304.out _ | refine IsS84.far ?_ NB306_311.out _ | refine IsS84.far ?_ NB306_328.out _) | exact HI306.out | apply IsS84.set_2 (x := some _) | apply IsS84.set_2 (x := none))) hb); (try clear hb); (try clear hb2); (try clear hk); (try clear hi)) | ((with_reducible refine gate_dst (N := 13) rfl ?_); refine box_event ?hg (N := 13) ?hd (cs := #[.int .i64 0, .int .i64 0, .int .i64 0, .int .i64 0]) (t := 72) ?hr ?_; (case hd => rfl); (case hg => rfl); (case hr => first | (go_simp; done) | (go_simp; rfl)); intro gb334 hg w90 hbox hb; replace HO_90 := Aside0.mk (Kd.R_below (kr HO_90) hb); replace HO_312001 := Aside0.mk (Kd.R_below (Kd.R_elderB (kr HO_312001) gb334 (Nat.le_of_eq hg.symm)) hb); have BK334 := Aside0.mk (hbox); have GW334 := Aside0.mk ((by rw [hg]; exact (below_size (IsS84.kl HB)) : w.heap.size ≤ gb334)); have GE334 := Aside0.mk ((by rw [hg]; exact (below_size (IsS84.kl HB)) : w.heap.size ≤ gb334)); replace HB := Aside0.mk (below_step (IsS84.kl HB) hb); obtain ⟨NB304_334, NB334_304⟩ := kN hg BK304; replace BK304 := kB BK304 hb; obtain ⟨NB311_334, NB334_311⟩ := kN hg BK311; replace BK311 := kB BK311 hb; obtain ⟨NB328_334, NB334_328⟩ := kN hg BK328; replace BK328 := kB BK328 hb; have NB306_334 := Aside0.mk ((by rw [hg]; exact Nat.ne_of_lt (IsS84.lt (show IsS84 w _ gb306 t320 t321 none from by repeat (first | (with_reducible first | exact HI306.out | apply IsS84.alloc | apply IsS84.drewN | apply IsS84.drew | apply IsS84.set_1 | apply IsS84.set_2 | refine IsS84.far ?_ NB306_304.out _ | refine IsS84.far ?_ NB306_311.out _ | refine IsS84.far ?_ NB306_328.out _) | exact HI306.out | apply IsS84.set_2 (x := some _) | apply IsS84.set_2 (x := none)))) : gb306 ≠ gb334)); have NB334_306 := Aside0.mk ((by rw [hg]; exact Nat.ne_of_gt (IsS84.lt (show IsS84 w _ gb306 t320 t321 none from by repeat (first | (with_reducible first | exact HI306.out | apply IsS84.alloc | apply IsS84.drewN | apply IsS84.drew | apply IsS84.set_1 | apply IsS84.set_2 | refine IsS84.far ?_ NB306_304.out _ | refine IsS84.far ?_ NB306_311.out _ | refine IsS84.far ?_ NB306_328.out _) | exact HI306.out | apply IsS84.set_2 (x := some _) | apply IsS84.set_2 (x := none)))) : gb334 ≠ gb306)); replace HI306 := Aside0.mk (IsS84.below (IsS84.k HI306) hb); clear hb hbox hg; have hnb91 := NB334_304.out; have hnc91 := NB304_334.out; have hnb92 := NB334_311.out; have hnc92 := NB311_334.out; have hnb93 := NB334_328.out; have hnc93 := NB328_334.out; have hnb94 := NB334_306.out; have hnc94 := NB306_334.out; have hcz95_0 : w90.cell? ⟨gb334, 0, none⟩ = some (.int .i64 0) := (blk_cell BK334.out 0).trans rfl; have hcz95_1 : w90.cell? ⟨gb334, 1, none⟩ = some (.int .i64 0) := (blk_cell BK334.out 1).trans rfl; have hcz95_2 : w90.cell? ⟨gb334, 2, none⟩ = some (.int .i64 0) := (blk_cell BK334.out 2).trans rfl; have hcz95_3 : w90.cell? ⟨gb334, 3, none⟩ = some (.int .i64 0) := (blk_cell BK334.out 3).trans rfl; have hfz95_0 := blk_frozen BK334.out 0; have hfz95_1 := blk_frozen BK334.out 1; have hfz95_2 := blk_frozen BK334.out 2; have hfz95_3 := blk_frozen BK334.out 3; have hnb96 := NB304_311.out; have hnc96 := NB311_304.out; have hnb97 := NB304_306.out; have hnc97 := NB306_304.out; have hcz98_0 : w90.cell? ⟨gb304, 0, none⟩ = some (.int .i64 x305000_5) := (blk_cell BK304.out 0).trans rfl; have hcz98_1 : w90.cell? ⟨gb304, 1, none⟩ = some (.slice none 0 0) := (blk_cell BK304.out 1).trans rfl; have hfz98_0 := blk_frozen BK304.out 0; have hfz98_1 := blk_frozen BK304.out 1))
                 refine bodyPost_ret (results_ctt rfl _ _ gb304 53 #[.int .i64 0, .slice none 0 0] (0, 0) _ rfl (kb BK304) Try.underlying53 rfl (by kernel_rfl)) rfl ?_
                 exact ⟨_, by first | rfl | (simp [errW_none, errW_some] <;> rfl) | (simp [*, errW_none, errW_some] <;> rfl), by first | exact Kd.R_nil _ _ _ _ _ | exact Kd.N_nil _ _ _ _ _ | exact Kd.V_nil _ _ _ _ _ | exact Kd.Q_nil _ _ _ _ _ | exact Kd.S_nil _ _ _ _ _, (IsS84.kl HB)⟩
               ·rw [if_neg c46] at H
                exact absurd H (by simp)
              ·rw [if_neg c45] at H
               exact absurd H (by simp)
             ·rw [if_neg c44] at H
              have c44b0 : decide (x92_5 < (t313.length : Int)) = false := decide_eq_false c44
              clear c44
              by_cases c99 : x10_5 = 0
              ·rw [if_pos c99] at H
               have c99b0 : (x10_5 == 0) = true := beq_iff_eq.mpr c99
               have c99b1 : (x10_5 != 0) = false := bne_eq_false_iff_eq.mpr c99
               clear c99
               replace H := Option.bind_eq_some_iff.mp H
               obtain ⟨t338, A1000, H⟩ := H
               replace H : (if t338 = true then (some ((wrap64 (t307)), x312001_5, t321, none)) else (some (0, ([] : List (S72)), 0, some 8))) = some (r1, r2, r3, r4) := H
               have A100 := Aside0.mk A1000
               clear A1000
               by_cases c101 : t338 = true
               ·subst c101
                have H1 : (some ((wrap64 (t307)), x312001_5, t321, none)) = some (r1, r2, r3, r4) := by rw [if_pos rfl] at H; exact H
                clear H
                have H := H1
                clear H1
                simp only [Option.some.injEq, Prod.mk.injEq] at H
                obtain ⟨rfl, rfl, rfl, rfl⟩ := H
                have hnb102 := NB311_304.out
                have hnc102 := NB304_311.out
                have hnb103 := NB311_306.out
                have hnc103 := NB306_311.out
                obtain ⟨hcz104_0, hcz104_1⟩ := kc2 BK311
                obtain ⟨hfz104_0, hfz104_1⟩ := kf2 BK311
                obtain ⟨Ao105, co105, eo105⟩ := Kd.R_slice HO_312001.out
                subst eo105
                try go_wp2_with (first | (go_at_call 30; (with_reducible refine (index_may.calls k5 (wrap64 (t307)) _ _ x312001_5 true _ ?side1 ?side2 A100.out).mono ?_); (case side1 => repeat (first | exact (Kd.R_reads' HO_312001.out).2.2 | (with_reducible refine Kd.C_alloc ?_ _) | (with_reducible refine Kd.C_drewN ?_ _) | (with_reducible refine Kd.C_drew ?_))); (case side2 => exact (Kd.R_reads' HO_312001.out).2.1); rintro e w106 ⟨rfl, hb⟩; replace HO_90 := Aside0.mk (Kd.R_below (kr HO_90) hb); replace HO_312001 := Aside0.mk (Kd.R_below (kr HO_312001) hb); replace BK304 := kB BK304 hb; replace BK311 := kB BK311 hb; replace HB := Aside0.mk (below_step (IsS84.kl HB) hb); replace HI306 := Aside0.mk (IsS84.below (IsS84.k HI306) hb); (try clear hb); (try clear hb2); (try clear hk); (try clear hi); obtain ⟨AU306_0, cU306_0, hbU306, hgU306, hrU306_0, hlU306_0⟩ := HI306.out; have BK306 := Aside0.mk hbU306; have HRU306_0 := Aside0.mk hrU306_0; have HCU306_0 := Aside0.mk hlU306_0; clear hbU306 hgU306 hrU306_0 hlU306_0 HI306))
                replace HO_90 := Aside0.mk (Kd.R_drew HO_90.out)
                replace HO_312001 := Aside0.mk (Kd.R_drew HO_312001.out)
                replace BK304 := Aside0.mk (blk_drew BK304.out)
                replace BK311 := Aside0.mk (blk_drew BK311.out)
                replace BK306 := Aside0.mk (blk_drew BK306.out)
                replace HB := Aside0.mk (below_drew1 HB.out)
                refine start_ (n := 8) (S := fun w' => w'.cell? ⟨gb311, 0, none⟩ = some (.int .i64 (wrap64 (t307))) ∧ w'.cell? ⟨gb311, 1, none⟩ = some (.slice Ao105 x312001_5.length co105) ∧ w'.cell? ⟨gb306, 0, none⟩ = some (.slice AU306_0 t320.length cU306_0) ∧ w'.cell? ⟨gb306, 1, none⟩ = some (.int .i64 t321) ∧ w'.cell? ⟨gb306, 2, none⟩ = some (errW none)) (ds := []) (bl 8 0) (by kernel_rfl) rfl rfl kz (fun hHeld => ?_); refine with_tabW index_Get.tab26 index_Get.bits26 (fun HT_ HW_ => ?_)
                generalize w106.drew = w107 at HO_90 HO_312001 BK304 BK311 BK306 HB hHeld ⊢
                refine pu 1 (some 132) (bl 8 2) (h := ?_)
                refine pu 2 (some 133) (bl 8 6) (h := ?_)
                refine pu 3 (some 134) (bl 8 14) (h := ?_)
                refine ta 0 (some 131) (bl 8 15) (h := ?_)
                refine ta 4 (some 135) (bl 8 31) (h := ?_)
                refine one_ (i := 5) (N := none) #[true, true, true, true, true, true, false, false] rfl rfl (one_of HT_.out (by kernel_rfl)) (by decide) (fun K hK => ?_)
                have hs108 : w107.cell? ⟨gb304, 0, none⟩ = some (.int .i64 x305000_5) := (blk_cell BK304.out 0).trans rfl
                have hfs108 := blk_frozen BK304.out 0
                have hns108_1 := NB311_304.out
                have hns108_2 := NB306_304.out
                have hms108_1 := NB304_311.out
                have hms108_2 := NB304_306.out
                have hs109 : w107.cell? ⟨gb304, 1, none⟩ = some (.slice none 0 0) := (blk_cell BK304.out 1).trans rfl
                have hfs109 := blk_frozen BK304.out 1
                refine skip_ (w1 := ?_) (by rfl) rfl ?_ ?_
                rotate_left
                ·go_simp
                 rfl
                refine hK.out _ _ (ks hHeld) (fun hHeld => ?_)
                clear hK K
                refine pu 6 (some 3) (bl 8 127) (h := ?_)
                refine pu 7 (some 4) (bl 8 255) (h := ?_)
                refine done_ (done_of HT_.out (by kernel_rfl)) ?_
                try go_wp2
                refine bodyPost_ret (results_ctt rfl _ _ gb304 53 #[.int .i64 (wrap64 (t307)), .slice Ao105 x312001_5.length co105] (0, 0) _ rfl (kb BK304) Try.underlying53 rfl (by kernel_rfl)) rfl ?_
                exact ⟨_, by first | rfl | (simp [errW_none, errW_some] <;> rfl) | (simp [*, errW_none, errW_some] <;> rfl), by (with_reducible repeat (first | apply Kd.R_alloc | apply Kd.R_drewN | apply Kd.R_drew)); exact Kd.R_mono (Kd.R_far (p := ⟨gb304, 1, none⟩) (Kd.R_far (p := ⟨gb304, 0, none⟩) (Kd.R_types HO_312001.out BK304.out (by decide)) (fun _ hk => hk.2) (.int .i64 (wrap64 (t307)))) (fun _ hk => hk.2) (.slice Ao105 x312001_5.length co105)) (fun _ hk => trivial), (kl HB)⟩
               ·replace c101 := Bool.eq_false_iff.mpr c101
                subst c101
                have H1 : (some (0, ([] : List (S72)), 0, some 8)) = some (r1, r2, r3, r4) := by rw [if_neg (show ¬ (false = true) by decide)] at H; exact H
                clear H
                have H := H1
                clear H1
                simp only [Option.some.injEq, Prod.mk.injEq] at H
                obtain ⟨rfl, rfl, rfl, rfl⟩ := H
                have hnb110 := NB311_304.out
                have hnc110 := NB304_311.out
                have hnb111 := NB311_306.out
                have hnc111 := NB306_311.out
                obtain ⟨hcz112_0, hcz112_1⟩ := kc2 BK311
                obtain ⟨hfz112_0, hfz112_1⟩ := kf2 BK311
                obtain ⟨Ao113, co113, eo113⟩ := Kd.R_slice HO_312001.out
                subst eo113
                go_wp2_with (first | (go_at_call 30; (with_reducible refine (index_may.calls k5 (wrap64 (t307)) _ _ x312001_5 false _ ?side1 ?side2 A100.out).mono ?_); (case side1 => repeat (first | exact (Kd.R_reads' HO_312001.out).2.2 | (with_reducible refine Kd.C_alloc ?_ _) | (with_reducible refine Kd.C_drewN ?_ _) | (with_reducible refine Kd.C_drew ?_))); (case side2 => exact (Kd.R_reads' HO_312001.out).2.1); rintro e w114 ⟨rfl, hb⟩; replace HO_90 := Aside0.mk (Kd.R_below (kr HO_90) hb); replace HO_312001 := Aside0.mk (Kd.R_below (kr HO_312001) hb); replace BK304 := kB BK304 hb; replace BK311 := kB BK311 hb; replace HB := Aside0.mk (below_step (IsS84.kl HB) hb); replace HI306 := Aside0.mk (IsS84.below (IsS84.k HI306) hb); (try clear hb); (try clear hb2); (try clear hk); (try clear hi); have hnb115 := NB304_306.out; have hnc115 := NB306_304.out; have hcz116_0 : w114.cell? ⟨gb304, 0, none⟩ = some (.int .i64 x305000_5) := (blk_cell BK304.out 0).trans rfl; have hcz116_1 : w114.cell? ⟨gb304, 1, none⟩ = some (.slice none 0 0) := (blk_cell BK304.out 1).trans rfl; have hfz116_0 := blk_frozen BK304.out 0; have hfz116_1 := blk_frozen BK304.out 1))
                refine bodyPost_ret (results_ctt rfl _ _ gb304 53 #[.int .i64 0, .slice none 0 0] (0, 0) _ rfl (kb BK304) Try.underlying53 rfl (by kernel_rfl)) rfl ?_
                exact ⟨_, by first | rfl | (simp [errW_none, errW_some] <;> rfl) | (simp [*, errW_none, errW_some] <;> rfl), by first | exact Kd.R_nil _ _ _ _ _ | exact Kd.N_nil _ _ _ _ _ | exact Kd.V_nil _ _ _ _ _ | exact Kd.Q_nil _ _ _ _ _ | exact Kd.S_nil _ _ _ _ _, (IsS84.kl HB)⟩
              ·rw [if_neg c99] at H
               have c99b0 : (x10_5 == 0) = false := beq_eq_false_iff_ne.mpr c99
               have c99b1 : (x10_5 != 0) = true := bne_iff_ne.mpr c99
               simp only [Option.some.injEq, Prod.mk.injEq] at H
               obtain ⟨rfl, rfl, rfl, rfl⟩ := H
               have hnb117 := NB304_311.out
               have hnc117 := NB311_304.out
               have hnb118 := NB304_306.out
               have hnc118 := NB306_304.out
               obtain ⟨hcz119_0, hcz119_1⟩ := kc2 BK304
               obtain ⟨hfz119_0, hfz119_1⟩ := kf2 BK304
               go_wp2
               refine bodyPost_ret (results_ctt rfl _ _ gb304 53 #[.int .i64 0, .slice none 0 0] (0, 0) _ rfl (kb BK304) Try.underlying53 rfl (by kernel_rfl)) rfl ?_
               exact ⟨_, by first | rfl | (simp [errW_none, errW_some] <;> rfl) | (simp [*, errW_none, errW_some] <;> rfl), by first | exact Kd.R_nil _ _ _ _ _ | exact Kd.N_nil _ _ _ _ _ | exact Kd.V_nil _ _ _ _ _ | exact Kd.Q_nil _ _ _ _ _ | exact Kd.S_nil _ _ _ _ _, (IsS84.kl HB)⟩
          ·have H1 : (some (0, ([] : List (S72)), 0, some q326)) = some (r1, r2, r3, r4) := by rw [if_neg (show ¬ (some q326).isNone = true by simp)] at H; exact H
           clear H
           have H := H1
           clear H1
           try simp only [errW_none, errW_some]
           simp only [Option.some.injEq, Prod.mk.injEq] at H
           obtain ⟨rfl, rfl, rfl, rfl⟩ := H
           obtain ⟨ASz120_0, cSz120_0, HGz120, hgz120, HSz120_0, HLSz120_0⟩ := HI306.out
           have hcz120_0 := cellS84_0 HGz120
           have hcz120_1 := cellS84_1 HGz120
           have hcz120_2 := cellS84_2 HGz120
           try simp only [errW_none, errW_some] at hcz120_2
           have hfz120_0 := blk_frozen HGz120 0
           have hfz120_1 := blk_frozen HGz120 1
           have hfz120_2 := blk_frozen HGz120 2
           clear HGz120 hgz120
           obtain ⟨AU306_0, cU306_0, hbU306, hgU306, hrU306_0, hlU306_0⟩ := HI306.out
           have BK306 := Aside0.mk hbU306
           have HRU306_0 := Aside0.mk hrU306_0
           have HCU306_0 := Aside0.mk hlU306_0
           clear hbU306 hgU306 hrU306_0 hlU306_0 HI306
           try go_wp2
           replace HO_7 := Aside0.mk (Kd.R_drew HO_7.out)
           replace BK304 := Aside0.mk (blk_drew BK304.out)
           replace BK311 := Aside0.mk (blk_drew BK311.out)
           replace BK306 := Aside0.mk (blk_drew BK306.out)
           replace HB := Aside0.mk (below_drew1 HB.out)
           refine start_ (n := 8) (S := fun w' => w'.cell? ⟨gb306, 0, none⟩ = some (.slice AU306_0 t320.length cU306_0) ∧ w'.cell? ⟨gb306, 1, none⟩ = some (.int .i64 t321) ∧ w'.cell? ⟨gb306, 2, none⟩ = some (errW (some q326))) (ds := []) (bl 8 0) (by kernel_rfl) rfl rfl kz (fun hHeld => ?_); refine with_tabW index_Get.tab13 index_Get.bits13 (fun HT_ HW_ => ?_)
           generalize wc.drew = w121 at HO_7 BK304 BK311 BK306 HB hHeld ⊢
           refine pu 0 (some 78) (bl 8 1) (h := ?_)
           refine pu 1 (some 79) (bl 8 3) (h := ?_)
           refine pu 2 (some 80) (bl 8 7) (h := ?_)
           refine pu 3 (some 81) (bl 8 15) (h := ?_)
           refine ta 4 (some 82) (bl 8 31) (h := ?_)
           refine one_ (i := 5) (N := none) #[true, true, true, true, true, true, false, false] rfl rfl (one_of HT_.out (by kernel_rfl)) (by decide) (fun K hK => ?_)
           have hs122 : w121.cell? ⟨gb304, 0, none⟩ = some (.int .i64 0) := (blk_cell BK304.out 0).trans rfl
           have hfs122 := blk_frozen BK304.out 0
           have hns122_1 := NB311_304.out
           have hns122_2 := NB306_304.out
           have hms122_1 := NB304_311.out
           have hms122_2 := NB304_306.out
           have hs123 : w121.cell? ⟨gb304, 1, none⟩ = some (.slice none 0 0) := (blk_cell BK304.out 1).trans rfl
           have hfs123 := blk_frozen BK304.out 1
           refine skip_ (w1 := ?_) (by rfl) rfl ?_ ?_
           rotate_left
           ·go_simp
            rfl
           refine hK.out _ _ (ks hHeld) (fun hHeld => ?_)
           clear hK K
           refine pu 6 (some 3) (bl 8 127) (h := ?_)
           refine pu 7 (some 4) (bl 8 255) (h := ?_)
           refine done_ (done_of HT_.out (by kernel_rfl)) ?_
           try go_wp2
           refine bodyPost_ret (results_ctt rfl _ _ gb304 53 #[.int .i64 0, .slice none 0 0] (0, 0) _ rfl (kb BK304) Try.underlying53 rfl (by kernel_rfl)) rfl ?_
           exact ⟨_, by first | rfl | (simp [errW_none, errW_some] <;> rfl) | (simp [*, errW_none, errW_some] <;> rfl), by first | exact Kd.R_nil _ _ _ _ _ | exact Kd.N_nil _ _ _ _ _ | exact Kd.V_nil _ _ _ _ _ | exact Kd.Q_nil _ _ _ _ _ | exact Kd.S_nil _ _ _ _ _, (kl HB)⟩
 ·replace c3 := Bool.eq_false_iff.mpr c3
  subst c3
  have H1 : (some (0, ([] : List (S72)), 0, some 5)) = some (r1, r2, r3, r4) := by rw [if_neg (show ¬ (false = true) by decide)] at H; exact H
  clear H
  have H := H1
  clear H1
  simp only [Option.some.injEq, Prod.mk.injEq] at H
  obtain ⟨rfl, rfl, rfl, rfl⟩ := H
  go_enter Try.func27, Try.ntmps27
  go_wp2_with (first | ((with_reducible refine gate_dst (N := 2) rfl ?_); refine box_event ?hg (N := 2) ?hd (cs := #[.int .i64 0, .slice none 0 0]) (t := 53) ?hr ?_; (case hd => rfl); (case hg => rfl); (case hr => first | (go_simp; done) | (go_simp; rfl)); intro gb304 hg w124 hbox hb; have BK304 := Aside0.mk (hbox); have GW304 := kG hg HB; have GE304 := kG hg HB; replace HB := kH HB hb; clear hb hbox hg; have hcv125 := Kd.C_string (P := Try.prog) (A := A0) (c := c0) Try.underlying54 Try.underlying5 Try.underlying9 (Kd.C_below HR0.out HB.out); have hcv125d := fun (m_ : Nat) => Kd.C_string (P := Try.prog) (A := A0) (c := c0) Try.underlying54 Try.underlying5 Try.underlying9 (Kd.C_drewN (Kd.C_below HR0.out HB.out) m_); (try (have hcv125e := Kd.C_string (P := Try.prog) (A := A0) (c := c0) Try.underlying54 Try.underlying5 Try.underlying9 (Kd.C_drew (Kd.C_below HR0.out HB.out))))) | ((with_reducible refine gate_callee (f := 36) rfl ?_); refine goesL_ (some 17) rfl rfl Try.func36 (by kernel_rfl) rfl #[.string (strOfNums l0), .string (⟨#[71, 84, 83, 49]⟩ : ByteArray)] rfl km ?_; (with_reducible refine (strings_HasPrefix.calls (strOfNums l0) (⟨#[71, 84, 83, 49]⟩ : ByteArray) false _ A2.out).mono ?_); rintro e w' ⟨rfl, ⟨nd, rfl⟩⟩; refine ⟨_, rfl, ?_⟩; (try (rw [drewN_self w124]; generalize hq_ : World.drewN w124 _ = w124; have n0_ : Aside0 (w124.heap[gb304]? = some (.cells #[.int .i64 0, .slice none 0 0] 53 (0, 0))) := ⟨by rw [← hq_]; exact (kb BK304)⟩; have n1_ : Aside0 (Below w.heap.size w w124) := ⟨by rw [← hq_]; exact (kl HB)⟩; clear BK304 HB hq_; have BK304 := n0_; have HB := n1_; clear n0_ n1_)); have hcz126_0 : w124.cell? ⟨gb304, 0, none⟩ = some (.int .i64 0) := (blk_cell BK304.out 0).trans rfl; have hcz126_1 : w124.cell? ⟨gb304, 1, none⟩ = some (.slice none 0 0) := (blk_cell BK304.out 1).trans rfl; have hfz126_0 := blk_frozen BK304.out 0; have hfz126_1 := blk_frozen BK304.out 1))
  refine bodyPost_ret (results_ctt rfl _ _ gb304 53 #[.int .i64 0, .slice none 0 0] (0, 0) _ rfl (kb BK304) Try.underlying53 rfl (by kernel_rfl)) rfl ?_
  exact ⟨_, by first | rfl | (simp [errW_none, errW_some] <;> rfl) | (simp [*, errW_none, errW_some] <;> rfl), by first | exact Kd.R_nil _ _ _ _ _ | exact Kd.N_nil _ _ _ _ _ | exact Kd.V_nil _ _ _ _ _ | exact Kd.Q_nil _ _ _ _ _ | exact Kd.S_nil _ _ _ _ _, (kl HB)⟩

end Go.Proofs.Ytiahbcaoikoogaa.All
