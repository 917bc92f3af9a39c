-- written by a program of the session out of the translation; Lean checks it
import Derived.Test.YtiahbcaoikoogaaAllx0
import Derived.Test.YtiahbcaoikoogaaAllx11
namespace Go.Proofs.Ytiahbcaoikoogaa.All
open Go.RowKit Go.Proofs.YtiahbcaoikoogaaW.PrintWords Go.Proofs.YtiahbcaoikoogaaW.PrintLast Go.Proofs.YtiahbcaoikoogaaW.PrintMore
attribute [local go_sem] max2_int min2_int max_two min_two max_three min_three max_four min_four   -- for this text's walks alone
set_option linter.unusedVariables false
set_option linter.unusedSimpArgs false

attribute [local go_sem high] errW_cells errW_match run_store_errW
/-! ### index_reader_list: function 38 -/
mutual
def index_reader_list.j0 : Nat → Int → Bool → List Int → Int → Option Int → Option ((List (S89)) × List Int × Int × Option Int)
 | 0, _, _, _, _, _ => none
 | k + 1, x3, x17, x1000, x1001, x1002 => if x17 = true then (index_reader_list.j1 k x3 x1000 x1001 (some 9)) else (index_reader_list.j1 k x3 x1000 x1001 x1002)
def index_reader_list.j1 : Nat → Int → List Int → Int → Option Int → Option ((List (S89)) × List Int × Int × Option Int)
 | 0, _, _, _, _ => none
 | k + 1, x3, x1000, x1001, x1002 => index_reader_list.l0 k x3 ([] : List (S89)) 0 x1000 x1001 x1002
def index_reader_list.l0 : Nat → Int → List (S89) → Int → List Int → Int → Option Int → Option ((List (S89)) × List Int × Int × Option Int)
 | 0, _, _, _, _, _, _ => none
 | k + 1, x3, x4, x5, x1000, x1001, x1002 => if x5 < x3 then (if x1002.isNone = true then (index_reader_list.j3 k x3 x4 x5 true x1000 x1001 none) else (index_reader_list.j3 k x3 x4 x5 false x1000 x1001 (some (x1002.getD 0)))) else (index_reader_list.j3 k x3 x4 x5 false x1000 x1001 x1002)
def index_reader_list.j3 : Nat → Int → List (S89) → Int → Bool → List Int → Int → Option Int → Option ((List (S89)) × List Int × Int × Option Int)
 | 0, _, _, _, _, _, _, _ => none
 | k + 1, x3, x4, x5, x31, x1000, x1001, x1002 => if x31 = true then ((index_reader_fixed.f k x1000 x1001 x1002 8).bind fun bt282 => ((index_reader_some.f k bt282.2.1 bt282.2.2.1 bt282.2.2.2).bind fun bt287 => ((index_reader_some.f k bt287.2.1 bt287.2.2.1 bt287.2.2.2).bind fun bt291 => ((index_reader_some.f k bt291.2.1 bt291.2.2.1 bt291.2.2.2).bind fun bt295 => (if x4.length < 4398046511104 then (index_reader_list.l0 k x3 (x4 ++ [(⟨wrap64 (bt282.1), bt287.1, bt291.1, bt295.1⟩ : S89)]) (IntKind.u64.wrap (x5 + 1)) bt295.2.1 bt295.2.2.1 bt295.2.2.2) else (none)))))) else (some (x4, x1000, x1001, x1002))
end
def index_reader_list.f (k : Nat) (s0_0 : List Int) (s0_1 : Int) (s0_2 : Option Int) : Option ((List (S89)) × List Int × Int × Option Int) := (index_reader_some.f k s0_0 s0_1 s0_2).bind fun bt276 => (if bt276.2.2.2.isNone = true then (index_reader_list.j0 k bt276.1 (decide (bt276.1 > 65535)) bt276.2.1 bt276.2.2.1 none) else (index_reader_list.j0 k bt276.1 false bt276.2.1 bt276.2.2.1 (some (bt276.2.2.2.getD 0))))
theorem index_reader_list.mono_l : ∀ k, (∀ y0 y1 y2 y3 y4, LeO (index_reader_list.j0 k y0 y1 y2 y3 y4) (index_reader_list.j0 (k + 1) y0 y1 y2 y3 y4)) ∧ (∀ y0 y1 y2 y3, LeO (index_reader_list.j1 k y0 y1 y2 y3) (index_reader_list.j1 (k + 1) y0 y1 y2 y3)) ∧ (∀ y0 y1 y2 y3 y4 y5, LeO (index_reader_list.l0 k y0 y1 y2 y3 y4 y5) (index_reader_list.l0 (k + 1) y0 y1 y2 y3 y4 y5)) ∧ (∀ y0 y1 y2 y3 y4 y5 y6, LeO (index_reader_list.j3 k y0 y1 y2 y3 y4 y5 y6) (index_reader_list.j3 (k + 1) y0 y1 y2 y3 y4 y5 y6))
 | 0 => ⟨fun _ _ _ _ _ r h => by simp [index_reader_list.j0] at h, fun _ _ _ _ r h => by simp [index_reader_list.j1] at h, fun _ _ _ _ _ _ r h => by simp [index_reader_list.l0] at h, fun _ _ _ _ _ _ _ r h => by simp [index_reader_list.j3] at h⟩
 | k + 1 => by
  obtain ⟨ih0, ih1, ih2, ih3⟩ := index_reader_list.mono_l k
  refine ⟨?_, ?_, ?_, ?_⟩
  ·intro y0 y1 y2 y3 y4
   unfold index_reader_list.j0
   repeat' first
   | (with_reducible exact ih0 _ _ _ _ _)
   | (with_reducible exact ih1 _ _ _ _)
   | (with_reducible exact ih2 _ _ _ _ _ _)
   | (with_reducible exact ih3 _ _ _ _ _ _ _)
   | (with_reducible exact index_reader_fixed.mono _ _ _ _ _)
   | (with_reducible exact index_reader_some.mono _ _ _ _)
   | (with_reducible exact LeO.refl _)
   | (with_reducible exact LeO.none _)
   | (with_reducible refine LeO.ite ?_ ?_)
   | (with_reducible refine LeO.bind ?_ (fun _ => ?_))
   | exact ih0 _ _ _ _ _
   | exact ih1 _ _ _ _
   | exact ih2 _ _ _ _ _ _
   | exact ih3 _ _ _ _ _ _ _
   | exact index_reader_fixed.mono _ _ _ _ _
   | exact index_reader_some.mono _ _ _ _
   | exact LeO.none _
   | refine LeO.ite ?_ ?_
   | refine LeO.bind ?_ (fun _ => ?_)
  ·intro y0 y1 y2 y3
   unfold index_reader_list.j1
   repeat' first
   | (with_reducible exact ih0 _ _ _ _ _)
   | (with_reducible exact ih1 _ _ _ _)
   | (with_reducible exact ih2 _ _ _ _ _ _)
   | (with_reducible exact ih3 _ _ _ _ _ _ _)
   | (with_reducible exact index_reader_fixed.mono _ _ _ _ _)
   | (with_reducible exact index_reader_some.mono _ _ _ _)
   | (with_reducible exact LeO.refl _)
   | (with_reducible exact LeO.none _)
   | (with_reducible refine LeO.ite ?_ ?_)
   | (with_reducible refine LeO.bind ?_ (fun _ => ?_))
   | exact ih0 _ _ _ _ _
   | exact ih1 _ _ _ _
   | exact ih2 _ _ _ _ _ _
   | exact ih3 _ _ _ _ _ _ _
   | exact index_reader_fixed.mono _ _ _ _ _
   | exact index_reader_some.mono _ _ _ _
   | exact LeO.none _
   | refine LeO.ite ?_ ?_
   | refine LeO.bind ?_ (fun _ => ?_)
  ·intro y0 y1 y2 y3 y4 y5
   unfold index_reader_list.l0
   repeat' first
   | (with_reducible exact ih0 _ _ _ _ _)
   | (with_reducible exact ih1 _ _ _ _)
   | (with_reducible exact ih2 _ _ _ _ _ _)
   | (with_reducible exact ih3 _ _ _ _ _ _ _)
   | (with_reducible exact index_reader_fixed.mono _ _ _ _ _)
   | (with_reducible exact index_reader_some.mono _ _ _ _)
   | (with_reducible exact LeO.refl _)
   | (with_reducible exact LeO.none _)
   | (with_reducible refine LeO.ite ?_ ?_)
   | (with_reducible refine LeO.bind ?_ (fun _ => ?_))
   | exact ih0 _ _ _ _ _
   | exact ih1 _ _ _ _
   | exact ih2 _ _ _ _ _ _
   | exact ih3 _ _ _ _ _ _ _
   | exact index_reader_fixed.mono _ _ _ _ _
   | exact index_reader_some.mono _ _ _ _
   | exact LeO.none _
   | refine LeO.ite ?_ ?_
   | refine LeO.bind ?_ (fun _ => ?_)
  ·intro y0 y1 y2 y3 y4 y5 y6
   unfold index_reader_list.j3
   repeat' first
   | (with_reducible exact ih0 _ _ _ _ _)
   | (with_reducible exact ih1 _ _ _ _)
   | (with_reducible exact ih2 _ _ _ _ _ _)
   | (with_reducible exact ih3 _ _ _ _ _ _ _)
   | (with_reducible exact index_reader_fixed.mono _ _ _ _ _)
   | (with_reducible exact index_reader_some.mono _ _ _ _)
   | (with_reducible exact LeO.refl _)
   | (with_reducible exact LeO.none _)
   | (with_reducible refine LeO.ite ?_ ?_)
   | (with_reducible refine LeO.bind ?_ (fun _ => ?_))
   | exact ih0 _ _ _ _ _
   | exact ih1 _ _ _ _
   | exact ih2 _ _ _ _ _ _
   | exact ih3 _ _ _ _ _ _ _
   | exact index_reader_fixed.mono _ _ _ _ _
   | exact index_reader_some.mono _ _ _ _
   | exact LeO.none _
   | refine LeO.ite ?_ ?_
   | refine LeO.bind ?_ (fun _ => ?_)
theorem index_reader_list.mono : ∀ a0 a1 a2 k, LeO (index_reader_list.f k a0 a1 a2) (index_reader_list.f (k + 1) a0 a1 a2) := by
 intro a0 a1 a2 k
 obtain ⟨ih0, ih1, ih2, ih3⟩ := index_reader_list.mono_l k
 unfold index_reader_list.f
 repeat' first
   | (with_reducible exact ih0 _ _ _ _ _)
   | (with_reducible exact ih1 _ _ _ _)
   | (with_reducible exact ih2 _ _ _ _ _ _)
   | (with_reducible exact ih3 _ _ _ _ _ _ _)
   | (with_reducible exact index_reader_fixed.mono _ _ _ _ _)
   | (with_reducible exact index_reader_some.mono _ _ _ _)
   | (with_reducible exact LeO.refl _)
   | (with_reducible exact LeO.none _)
   | (with_reducible refine LeO.ite ?_ ?_)
   | (with_reducible refine LeO.bind ?_ (fun _ => ?_))
   | exact ih0 _ _ _ _ _
   | exact ih1 _ _ _ _
   | exact ih2 _ _ _ _ _ _
   | exact ih3 _ _ _ _ _ _ _
   | exact index_reader_fixed.mono _ _ _ _ _
   | exact index_reader_some.mono _ _ _ _
   | exact LeO.none _
   | refine LeO.ite ?_ ?_
   | refine LeO.bind ?_ (fun _ => ?_)
set_option maxHeartbeats 8000000 in
set_option maxRecDepth 100000 in
theorem index_reader_list.calls (k : Nat) (g : Nat) (s0_0 : List Int) (s0_1 : Int) (s0_2 : Option Int) (r1 : List (S89)) (r2 : List Int) (r3 : Int) (r4 : Option Int) (w0 w : World) (hI : IsS84 w0 w g s0_0 s0_1 s0_2) (hB : Below w0.heap.size w0 w) (h : index_reader_list.f k s0_0 s0_1 s0_2 = some (r1, r2, r3, r4)) :
  Calls Try.prog 38 #[.pointer (some ⟨g, 0, none⟩)] w fun e w' => ∃ v0_ : Value, e = .returned (v0_) ∧ Kd.R k89 89 w' w.heap.size (fun _ => True) v0_ r1 ∧ IsS84 w0 w' g r2 r3 r4 ∧ Below w0.heap.size w0 w' ∧ KeepBut w w' g none := by
 have hu89 := Try.underlying89
 have hu27 := Try.underlying27
 have hu29 := Try.underlying29
 have HI0 := Aside0.mk hI
 have HK := Aside0.mk (KeepBut.refl w g none)
 have HL := Aside0.mk hB.size
 clear hI
 have HW0 := Aside0.mk hB.size
 have HB := Aside0.mk hB
 clear hB
 have H : ((index_reader_some.f k s0_0 s0_1 s0_2).bind fun bt276 => (if bt276.2.2.2.isNone = true then (index_reader_list.j0 k bt276.1 (decide (bt276.1 > 65535)) bt276.2.1 bt276.2.2.1 none) else (index_reader_list.j0 k bt276.1 false bt276.2.1 bt276.2.2.1 (some (bt276.2.2.2.getD 0))))) = some (r1, r2, r3, r4) := h
 clear h
 replace H := Option.bind_eq_some_iff.mp H
 obtain ⟨⟨t276, t277, t278, t279⟩, A20, H⟩ := H
 replace H : (if t279.isNone = true then (index_reader_list.j0 k t276 (decide (t276 > 65535)) t277 t278 none) else (index_reader_list.j0 k t276 false t277 t278 (some (t279.getD 0)))) = some (r1, r2, r3, r4) := H
 have A2 := Aside0.mk A20
 clear A20
 have HC3 := Aside0.mk H
 clear H
 go_enter Try.func38, Try.ntmps38
 go_upto_region 2 with (first | ((with_reducible refine gate_callee (f := 43) rfl ?_); refine goesL_ (some 8) rfl rfl Try.func43 (by kernel_rfl) rfl #[.pointer (some ⟨g, 0, none⟩)] rfl km ?_; (with_reducible refine (index_reader_some.calls k g s0_0 s0_1 s0_2 t276 t277 t278 t279 w0 _ ?side1 ?side2 A2.out).mono ?_); (case side1 => repeat (first | (with_reducible first | exact HI0.out | apply IsS84.alloc | apply IsS84.drewN | apply IsS84.drew | apply IsS84.set_1 | apply IsS84.set_2) | exact HI0.out | apply IsS84.set_2 (x := some _) | apply IsS84.set_2 (x := none))); (case side2 => repeat (first | (with_reducible first | exact HB.out | apply below_alloc | apply pw_below_drewN | apply below_drew1 | refine below_set ?_ (IsS84.ge HI0.out)) | exact HB.out)); rintro e w4 ⟨rfl, hi, hb, hk⟩; refine ⟨_, rfl, ?_⟩; replace HK := Aside0.mk (KeepBut.trans (kk HK) hk (.inl rfl)); replace HB := Aside0.mk (hb); replace HI0 := Aside0.mk (hi); (try clear hb); (try clear hb2); (try clear hk); (try clear hi); (try simp only [errW_none, errW_some])))
 (try simp only [Act.put, List.setIfInBounds_toArray, List.set_cons_zero, List.set_cons_succ])
 go_cut [17] (fun v17 wc => ∃ (kq : Nat) (x17_2 : Bool), v17 = .bool x17_2 ∧ Aside0 (index_reader_list.j0 kq t276 x17_2 t277 t278 t279 = some (r1, r2, r3, r4)) ∧ Aside0 (kq ≤ k) ∧ Aside0 (IsS84 w0 wc g t277 t278 t279) ∧ Aside0 (KeepBut w wc g none) ∧ Aside0 (Below w0.heap.size w0 wc))
 case first =>
  have H := HC3.out
  clear HC3
  rcases t279 with _ | q280
  ·have H1 : (index_reader_list.j0 k t276 (decide (t276 > 65535)) t277 t278 none) = some (r1, r2, r3, r4) := by rw [if_pos (show (none : Option Int).isNone = true by rfl)] at H; exact H
   clear H
   have H := H1
   clear H1
   try simp only [errW_none, errW_some]
   have H' := Aside0.mk H
   clear H
   obtain ⟨ASz5_0, cSz5_0, HGz5, hgz5, HSz5_0, HLSz5_0⟩ := HI0.out
   have hcz5_0 := cellS84_0 HGz5
   have hcz5_1 := cellS84_1 HGz5
   have hcz5_2 := cellS84_2 HGz5
   try simp only [errW_none, errW_some] at hcz5_2
   have hfz5_0 := blk_frozen HGz5 0
   have hfz5_1 := blk_frozen HGz5 1
   have hfz5_2 := blk_frozen HGz5 2
   clear HGz5 hgz5
   go_wp2
   go_meet
   case rel => exact ⟨_, (decide (t276 > 65535)), (by first | rfl | (simp; done) | (simp [*]; done)), H', ⟨by first | omega | exact Nat.le_refl _⟩, ⟨(IsS84.k HI0)⟩, ⟨(kk HK)⟩, ⟨(IsS84.kl HB)⟩⟩
  ·have H1 : (index_reader_list.j0 k t276 false t277 t278 (some q280)) = some (r1, r2, r3, r4) := by rw [if_neg (show ¬ (some q280).isNone = true by simp)] at H; exact H
   clear H
   have H := H1
   clear H1
   try simp only [errW_none, errW_some]
   have H' := Aside0.mk H
   clear H
   obtain ⟨ASz6_0, cSz6_0, HGz6, hgz6, HSz6_0, HLSz6_0⟩ := HI0.out
   have hcz6_0 := cellS84_0 HGz6
   have hcz6_1 := cellS84_1 HGz6
   have hcz6_2 := cellS84_2 HGz6
   try simp only [errW_none, errW_some] at hcz6_2
   have hfz6_0 := blk_frozen HGz6 0
   have hfz6_1 := blk_frozen HGz6 1
   have hfz6_2 := blk_frozen HGz6 2
   clear HGz6 hgz6
   go_wp2
   go_meet
   case rel => exact ⟨_, (false), (by first | rfl | (simp; done) | (simp [*]; done)), H', ⟨by first | omega | exact Nat.le_refl _⟩, ⟨(IsS84.k HI0)⟩, ⟨(kk HK)⟩, ⟨(IsS84.kl HB)⟩⟩
 case rest =>
  clear HC3
  try clear p2
  try clear q2
  try clear c3
  try clear c4
  try clear hcz5_0
  try clear hcz5_1
  try clear hcz5_2
  try clear hcz6_0
  try clear hcz6_1
  try clear hcz6_2
  try clear hfz5_0
  try clear hfz5_1
  try clear hfz5_2
  try clear hfz6_0
  try clear hfz6_1
  try clear hfz6_2
  try clear q280
  obtain ⟨kq, x17_2, rfl, HA, HJ2, HI0, HK, HB⟩ := hcut
  cases kq with
  | zero => exact absurd HA.out (by simp [index_reader_list.j0])
  | succ kj2 =>
   have H := HA.out
   clear HA
   simp only [index_reader_list.j0] at H
   have HC7 := Aside0.mk H
   clear H
   go_upto_if 17 with (fail)
   go_cut [] (fun wc => ∃ (kq : Nat) (x1002_6 : Option Int), Aside0 (index_reader_list.j1 kq t276 t277 t278 x1002_6 = some (r1, r2, r3, r4)) ∧ Aside0 (kq ≤ kj2) ∧ Aside0 (IsS84 w0 wc g t277 t278 x1002_6) ∧ Aside0 (KeepBut w wc g none) ∧ Aside0 (Below w0.heap.size w0 wc))
   case first =>
    have H := HC7.out
    clear HC7
    by_cases c8 : x17_2 = true
    ·subst c8
     have H1 : (index_reader_list.j1 kj2 t276 t277 t278 (some 9)) = some (r1, r2, r3, r4) := by rw [if_pos rfl] at H; exact H
     clear H
     have H := H1
     clear H1
     have H' := Aside0.mk H
     clear H
     obtain ⟨ASz9_0, cSz9_0, HGz9, hgz9, HSz9_0, HLSz9_0⟩ := HI0.out
     have hcz9_0 := cellS84_0 HGz9
     have hcz9_1 := cellS84_1 HGz9
     have hcz9_2 := cellS84_2 HGz9
     try simp only [errW_none, errW_some] at hcz9_2
     have hfz9_0 := blk_frozen HGz9 0
     have hfz9_1 := blk_frozen HGz9 1
     have hfz9_2 := blk_frozen HGz9 2
     clear HGz9 hgz9
     go_wp2
     go_meet
     case rel => exact ⟨_, (some 9), H', ⟨by have := HJ2.out; first | omega | exact Nat.le_refl _⟩, ⟨(IsS84.k HI0)⟩, ⟨(kk HK)⟩, ⟨(IsS84.kl HB)⟩⟩
    ·replace c8 := Bool.eq_false_iff.mpr c8
     subst c8
     have H1 : (index_reader_list.j1 kj2 t276 t277 t278 t279) = some (r1, r2, r3, r4) := by rw [if_neg (show ¬ (false = true) by decide)] at H; exact H
     clear H
     have H := H1
     clear H1
     have H' := Aside0.mk H
     clear H
     go_wp2
     go_meet
     case rel => exact ⟨_, (t279), H', ⟨by have := HJ2.out; first | omega | exact Nat.le_refl _⟩, ⟨(IsS84.k HI0)⟩, ⟨(kk HK)⟩, ⟨(IsS84.kl HB)⟩⟩
   case rest =>
    clear HC7
    try clear p2
    try clear q2
    try clear c3
    try clear c4
    try clear c8
    try clear hcz5_0
    try clear hcz5_1
    try clear hcz5_2
    try clear hcz6_0
    try clear hcz6_1
    try clear hcz6_2
    try clear hcz9_0
    try clear hcz9_1
    try clear hcz9_2
    try clear hfz5_0
    try clear hfz5_1
    try clear hfz5_2
    try clear hfz6_0
    try clear hfz6_1
    try clear hfz6_2
    try clear hfz9_0
    try clear hfz9_1
    try clear hfz9_2
    try clear p2
    try clear q2
    try clear q280
    obtain ⟨kq, x1002_6, HA, HJ6, HI0, HK, HB⟩ := hcut
    cases kq with
    | zero => exact absurd HA.out (by simp [index_reader_list.j1])
    | succ kj6 =>
     have H := HA.out
     clear HA
     simp only [index_reader_list.j1] at H
     have H' := Aside0.mk H
     clear H
     go_wp2
     go_loopg [4, 5] kj6 (fun kq v4 v5 w' => ∃ (x4_3 : List (S89)) (x5_3 : Int) (x1000_3 : List Int) (x1001_3 : Int) (x1002_3 : Option Int), v5 = .int .u64 x5_3 ∧ Aside0 (index_reader_list.l0 kq t276 x4_3 x5_3 x1000_3 x1001_3 x1002_3 = some (r1, r2, r3, r4)) ∧ Aside0 (kq ≤ kj6) ∧ Aside0 (Kd.R k89 89 w' w.heap.size (fun _ => True) v4 x4_3) ∧ Aside0 (IsS84 w0 w' g x1000_3 x1001_3 x1002_3) ∧ Aside0 (KeepBut w w' g none) ∧ Aside0 (Below w0.heap.size w0 w'))
     case atStart => exact ⟨(([] : List (S89))), (0), (t277), (t278), (x1002_6), (by first | rfl | (simp; done) | (simp [*]; done)), H', ⟨Nat.le_refl _⟩, ⟨by first | exact Kd.R_nil _ _ _ _ _ | exact Kd.N_nil _ _ _ _ _ | exact Kd.V_nil _ _ _ _ _ | exact Kd.Q_nil _ _ _ _ _ | exact Kd.S_nil _ _ _ _ _⟩, ⟨(IsS84.k HI0)⟩, ⟨(kk HK)⟩, ⟨(IsS84.kl HB)⟩⟩
     case round =>
      clear H'
      try clear p2
      try clear q2
      try clear c3
      try clear c4
      try clear c8
      try clear hcz5_0
      try clear hcz5_1
      try clear hcz5_2
      try clear hcz6_0
      try clear hcz6_1
      try clear hcz6_2
      try clear hcz9_0
      try clear hcz9_1
      try clear hcz9_2
      try clear hfz5_0
      try clear hfz5_1
      try clear hfz5_2
      try clear hfz6_0
      try clear hfz6_1
      try clear hfz6_2
      try clear hfz9_0
      try clear hfz9_1
      try clear hfz9_2
      try clear p2
      try clear q2
      try clear q280
      obtain ⟨x4_3, x5_3, x1000_3, x1001_3, x1002_3, rfl, HA, HK3, HO_4, HI0, HK, HB⟩ := hrel
      cases gk with
      | zero => exact absurd HA.out (by simp [index_reader_list.l0])
      | succ k3 =>
       have H := HA.out
       clear HA
       simp only [index_reader_list.l0] at H
       have HC10 := Aside0.mk H
       clear H
       go_upto_region 6 with (fail)
       go_cut [31] (fun v31 wc => ∃ (kq : Nat) (x31_9 : Bool), v31 = .bool x31_9 ∧ Aside0 (index_reader_list.j3 kq t276 x4_3 x5_3 x31_9 x1000_3 x1001_3 x1002_3 = some (r1, r2, r3, r4)) ∧ Aside0 (kq ≤ k3) ∧ Aside0 (Kd.R k89 89 wc w.heap.size (fun _ => True) u4 x4_3) ∧ Aside0 (IsS84 w0 wc g x1000_3 x1001_3 x1002_3) ∧ Aside0 (KeepBut w wc g none) ∧ Aside0 (Below w0.heap.size w0 wc))
       case first =>
        have H := HC10.out
        clear HC10
        by_cases c11 : x5_3 < t276
        ·rw [if_pos c11] at H
         have c11b0 : decide (x5_3 < t276) = true := decide_eq_true c11
         clear c11
         (first | rw [c11b0] | (simp only [i64_w, i32_w]; rw [c11b0]) | skip)
         rcases x1002_3 with _ | q281
         ·have H1 : (index_reader_list.j3 k3 t276 x4_3 x5_3 true x1000_3 x1001_3 none) = some (r1, r2, r3, r4) := by rw [if_pos (show (none : Option Int).isNone = true by rfl)] at H; exact H
          clear H
          have H := H1
          clear H1
          try simp only [errW_none, errW_some]
          have H' := Aside0.mk H
          clear H
          obtain ⟨ASz12_0, cSz12_0, HGz12, hgz12, HSz12_0, HLSz12_0⟩ := HI0.out
          have hcz12_0 := cellS84_0 HGz12
          have hcz12_1 := cellS84_1 HGz12
          have hcz12_2 := cellS84_2 HGz12
          try simp only [errW_none, errW_some] at hcz12_2
          have hfz12_0 := blk_frozen HGz12 0
          have hfz12_1 := blk_frozen HGz12 1
          have hfz12_2 := blk_frozen HGz12 2
          clear HGz12 hgz12
          go_wp2
          go_meet
          case rel => exact ⟨_, (true), (by first | rfl | (simp; done) | (simp [*]; done)), H', ⟨by have := HJ2.out; have := HJ6.out; have := HK3.out; first | omega | exact Nat.le_refl _⟩, ⟨kr HO_4⟩, ⟨(IsS84.k HI0)⟩, ⟨(kk HK)⟩, ⟨(IsS84.kl HB)⟩⟩
         ·have H1 : (index_reader_list.j3 k3 t276 x4_3 x5_3 false x1000_3 x1001_3 (some q281)) = some (r1, r2, r3, r4) := by rw [if_neg (show ¬ (some q281).isNone = true by simp)] at H; exact H
          clear H
          have H := H1
          clear H1
          try simp only [errW_none, errW_some]
          have H' := Aside0.mk H
          clear H
          obtain ⟨ASz13_0, cSz13_0, HGz13, hgz13, HSz13_0, HLSz13_0⟩ := HI0.out
          have hcz13_0 := cellS84_0 HGz13
          have hcz13_1 := cellS84_1 HGz13
          have hcz13_2 := cellS84_2 HGz13
          try simp only [errW_none, errW_some] at hcz13_2
          have hfz13_0 := blk_frozen HGz13 0
          have hfz13_1 := blk_frozen HGz13 1
          have hfz13_2 := blk_frozen HGz13 2
          clear HGz13 hgz13
          go_wp2
          go_meet
          case rel => exact ⟨_, (false), (by first | rfl | (simp; done) | (simp [*]; done)), H', ⟨by have := HJ2.out; have := HJ6.out; have := HK3.out; first | omega | exact Nat.le_refl _⟩, ⟨kr HO_4⟩, ⟨(IsS84.k HI0)⟩, ⟨(kk HK)⟩, ⟨(IsS84.kl HB)⟩⟩
        ·rw [if_neg c11] at H
         have c11b0 : decide (x5_3 < t276) = false := decide_eq_false c11
         clear c11
         (first | rw [c11b0] | (simp only [i64_w, i32_w]; rw [c11b0]) | skip)
         have H' := Aside0.mk H
         clear H
         go_wp2
         go_meet
         case rel => exact ⟨_, (false), (by first | rfl | (simp; done) | (simp [*]; done)), H', ⟨by have := HJ2.out; have := HJ6.out; have := HK3.out; first | omega | exact Nat.le_refl _⟩, ⟨kr HO_4⟩, ⟨(IsS84.k HI0)⟩, ⟨(kk HK)⟩, ⟨(IsS84.kl HB)⟩⟩
       case rest =>
        clear HC10
        try clear c1
        try clear p2
        try clear q2
        try clear c3
        try clear c4
        try clear c8
        try clear c11
        try clear c11b0
        try clear hcz12_0
        try clear hcz12_1
        try clear hcz12_2
        try clear hcz13_0
        try clear hcz13_1
        try clear hcz13_2
        try clear hcz5_0
        try clear hcz5_1
        try clear hcz5_2
        try clear hcz6_0
        try clear hcz6_1
        try clear hcz6_2
        try clear hcz9_0
        try clear hcz9_1
        try clear hcz9_2
        try clear hfz12_0
        try clear hfz12_1
        try clear hfz12_2
        try clear hfz13_0
        try clear hfz13_1
        try clear hfz13_2
        try clear hfz5_0
        try clear hfz5_1
        try clear hfz5_2
        try clear hfz6_0
        try clear hfz6_1
        try clear hfz6_2
        try clear hfz9_0
        try clear hfz9_1
        try clear hfz9_2
        try clear p2
        try clear q2
        try clear q280
        try clear q281
        obtain ⟨kq, x31_9, rfl, HA, HJ9, HO_4, HI0, HK, HB⟩ := hcut
        cases kq with
        | zero => exact absurd HA.out (by simp [index_reader_list.j3])
        | succ kj9 =>
         have H := HA.out
         clear HA
         simp only [index_reader_list.j3] at H
         by_cases c14 : x31_9 = true
         ·subst c14
          have H1 : ((index_reader_fixed.f kj9 x1000_3 x1001_3 x1002_3 8).bind fun bt282 => ((index_reader_some.f kj9 bt282.2.1 bt282.2.2.1 bt282.2.2.2).bind fun bt287 => ((index_reader_some.f kj9 bt287.2.1 bt287.2.2.1 bt287.2.2.2).bind fun bt291 => ((index_reader_some.f kj9 bt291.2.1 bt291.2.2.1 bt291.2.2.2).bind fun bt295 => (if x4_3.length < 4398046511104 then (index_reader_list.l0 kj9 t276 (x4_3 ++ [(⟨wrap64 (bt282.1), bt287.1, bt291.1, bt295.1⟩ : S89)]) (IntKind.u64.wrap (x5_3 + 1)) bt295.2.1 bt295.2.2.1 bt295.2.2.2) else (none)))))) = some (r1, r2, r3, r4) := by rw [if_pos rfl] at H; exact H
          clear H
          have H := H1
          clear H1
          replace H := Option.bind_eq_some_iff.mp H
          obtain ⟨⟨t282, t283, t284, t285⟩, A150, H⟩ := H
          replace H : ((index_reader_some.f kj9 t283 t284 t285).bind fun bt287 => ((index_reader_some.f kj9 bt287.2.1 bt287.2.2.1 bt287.2.2.2).bind fun bt291 => ((index_reader_some.f kj9 bt291.2.1 bt291.2.2.1 bt291.2.2.2).bind fun bt295 => (if x4_3.length < 4398046511104 then (index_reader_list.l0 kj9 t276 (x4_3 ++ [(⟨wrap64 (t282), bt287.1, bt291.1, bt295.1⟩ : S89)]) (IntKind.u64.wrap (x5_3 + 1)) bt295.2.1 bt295.2.2.1 bt295.2.2.2) else (none))))) = some (r1, r2, r3, r4) := H
          have A15 := Aside0.mk A150
          clear A150
          replace H := Option.bind_eq_some_iff.mp H
          obtain ⟨⟨t287, t288, t289, t290⟩, A160, H⟩ := H
          replace H : ((index_reader_some.f kj9 t288 t289 t290).bind fun bt291 => ((index_reader_some.f kj9 bt291.2.1 bt291.2.2.1 bt291.2.2.2).bind fun bt295 => (if x4_3.length < 4398046511104 then (index_reader_list.l0 kj9 t276 (x4_3 ++ [(⟨wrap64 (t282), t287, bt291.1, bt295.1⟩ : S89)]) (IntKind.u64.wrap (x5_3 + 1)) bt295.2.1 bt295.2.2.1 bt295.2.2.2) else (none)))) = some (r1, r2, r3, r4) := H
          have A16 := Aside0.mk A160
          clear A160
          replace H := Option.bind_eq_some_iff.mp H
          obtain ⟨⟨t291, t292, t293, t294⟩, A170, H⟩ := H
          replace H : ((index_reader_some.f kj9 t292 t293 t294).bind fun bt295 => (if x4_3.length < 4398046511104 then (index_reader_list.l0 kj9 t276 (x4_3 ++ [(⟨wrap64 (t282), t287, t291, bt295.1⟩ : S89)]) (IntKind.u64.wrap (x5_3 + 1)) bt295.2.1 bt295.2.2.1 bt295.2.2.2) else (none))) = some (r1, r2, r3, r4) := H
          have A17 := Aside0.mk A170
          clear A170
          replace H := Option.bind_eq_some_iff.mp H
          obtain ⟨⟨t295, t296, t297, t298⟩, A180, H⟩ := H
          replace H : (if x4_3.length < 4398046511104 then (index_reader_list.l0 kj9 t276 (x4_3 ++ [(⟨wrap64 (t282), t287, t291, t295⟩ : S89)]) (IntKind.u64.wrap (x5_3 + 1)) t296 t297 t298) else (none)) = some (r1, r2, r3, r4) := H
          have A18 := Aside0.mk A180
          clear A180
          by_cases c19 : x4_3.length < 4398046511104
          ·rw [if_pos c19] at H
           have LMc19 := Aside0.mk c19
           clear c19
           obtain ⟨y299, hy299⟩ : ∃ y_ : List (S89), y_ = (x4_3 ++ [(⟨wrap64 (t282), t287, t291, t295⟩ : S89)]) := ⟨_, rfl⟩
           replace H : (index_reader_list.l0 kj9 t276 y299 (IntKind.u64.wrap (x5_3 + 1)) t296 t297 t298) = some (r1, r2, r3, r4) := by first | (rw [hy299]; with_reducible exact H) | (have H2_ := (Option.bind_some _ _).symm.trans H; rw [hy299]; with_reducible exact H2_) | (have H2_ := (Option.bind_some _ _).symm.trans H; with_reducible exact H2_) | with_reducible exact H | (rw [hy299]; exact H) | exact H
           have Ny299 := Aside0.mk hy299
           clear hy299
           have H' := Aside0.mk H
           clear H
           go_wp2_with (first | ((with_reducible refine gate_callee (f := 37) rfl ?_); refine goesL_ (some 35) rfl rfl Try.func37 (by kernel_rfl) rfl #[.pointer (some ⟨g, 0, none⟩), .int .i64 8] rfl km ?_; (with_reducible refine (index_reader_fixed.calls kj9 g x1000_3 x1001_3 x1002_3 8 t282 t283 t284 t285 w0 _ ?side1 ?side2 A15.out).mono ?_); (case side1 => repeat (first | (with_reducible first | exact HI0.out | apply IsS84.alloc | apply IsS84.drewN | apply IsS84.drew | apply IsS84.set_1 | apply IsS84.set_2) | exact HI0.out | apply IsS84.set_2 (x := some _) | apply IsS84.set_2 (x := none))); (case side2 => repeat (first | (with_reducible first | exact HB.out | apply below_alloc | apply pw_below_drewN | apply below_drew1 | refine below_set ?_ (IsS84.ge HI0.out)) | exact HB.out)); rintro e w20 ⟨rfl, hi, hb, hk⟩; refine ⟨_, rfl, ?_⟩; replace HO_4 := Aside0.mk (Kd.R_mono (Kd.R_keep (IsS84.apart (show IsS84 w0 _ g x1000_3 x1001_3 x1002_3 from by repeat (first | (with_reducible first | exact HI0.out | apply IsS84.alloc | apply IsS84.drewN | apply IsS84.drew | apply IsS84.set_1 | apply IsS84.set_2) | exact HI0.out | apply IsS84.set_2 (x := some _) | apply IsS84.set_2 (x := none))) (kr HO_4) (by decide)) hk (fun _ h => h.2)) (fun _ h => h.1)); replace HK := Aside0.mk (KeepBut.trans (kk HK) hk (.inl rfl)); replace HB := Aside0.mk (hb); replace HI0 := Aside0.mk (hi); (try clear hb); (try clear hb2); (try clear hk); (try clear hi); (try simp only [errW_none, errW_some])) | ((with_reducible refine gate_dst (N := 6) rfl ?_); refine box_event ?hg (N := 6) ?hd (cs := #[.int .i64 0, .int .u64 0, .int .u64 0, .int .u64 0]) (t := 89) ?hr ?_; (case hd => rfl); (case hg => rfl); (case hr => first | (go_simp; done) | (go_simp; rfl)); intro gb286 hg w21 hbox hb; replace HO_4 := Aside0.mk (Kd.R_below (Kd.R_elderB (kr HO_4) gb286 (Nat.le_of_eq hg.symm)) hb); replace HB := Aside0.mk (below_step (IsS84.kl HB) hb); have BK286 := Aside0.mk (hbox); have GW286 := Aside0.mk ((by rw [hg]; exact (keep_size (w := w) (g := g) (row := none) (kk HK)) : w.heap.size ≤ gb286)); have GE286 := Aside0.mk ((Nat.le_trans HW0.out (by rw [hg]; exact (keep_size (w := w) (g := g) (row := none) (kk HK)) : w.heap.size ≤ gb286) : w0.heap.size ≤ gb286)); replace HK := Aside0.mk (KeepBut.trans (kk HK) (KeepBut.of_below hb g none) (.inl rfl)); have NB0_286 := Aside0.mk ((by rw [hg]; exact Nat.ne_of_lt (IsS84.lt (show IsS84 w0 _ g t283 t284 t285 from by repeat (first | (with_reducible first | exact HI0.out | apply IsS84.alloc | apply IsS84.drewN | apply IsS84.drew | apply IsS84.set_1 | apply IsS84.set_2) | exact HI0.out | apply IsS84.set_2 (x := some _) | apply IsS84.set_2 (x := none)))) : g ≠ gb286)); have NB286_0 := Aside0.mk ((by rw [hg]; exact Nat.ne_of_gt (IsS84.lt (show IsS84 w0 _ g t283 t284 t285 from by repeat (first | (with_reducible first | exact HI0.out | apply IsS84.alloc | apply IsS84.drewN | apply IsS84.drew | apply IsS84.set_1 | apply IsS84.set_2) | exact HI0.out | apply IsS84.set_2 (x := some _) | apply IsS84.set_2 (x := none)))) : gb286 ≠ g)); replace HI0 := Aside0.mk (IsS84.below (IsS84.k HI0) hb); clear hb hbox hg; have hnb22 := NB286_0.out; have hnc22 := NB0_286.out; have hcz23_0 : w21.cell? ⟨gb286, 0, none⟩ = some (.int .i64 0) := (blk_cell BK286.out 0).trans rfl; have hcz23_1 : w21.cell? ⟨gb286, 1, none⟩ = some (.int .u64 0) := (blk_cell BK286.out 1).trans rfl; have hcz23_2 : w21.cell? ⟨gb286, 2, none⟩ = some (.int .u64 0) := (blk_cell BK286.out 2).trans rfl; have hcz23_3 : w21.cell? ⟨gb286, 3, none⟩ = some (.int .u64 0) := (blk_cell BK286.out 3).trans rfl; have hfz23_0 := blk_frozen BK286.out 0; have hfz23_1 := blk_frozen BK286.out 1; have hfz23_2 := blk_frozen BK286.out 2; have hfz23_3 := blk_frozen BK286.out 3) | ((with_reducible refine gate_callee (f := 43) rfl ?_); refine goesL_ (some 39) rfl rfl Try.func43 (by kernel_rfl) rfl #[.pointer (some ⟨g, 0, none⟩)] rfl km ?_; (with_reducible refine (index_reader_some.calls kj9 g t283 t284 t285 t287 t288 t289 t290 w0 _ ?side1 ?side2 A16.out).mono ?_); (case side1 => repeat (first | (with_reducible first | exact HI0.out | apply IsS84.alloc | apply IsS84.drewN | apply IsS84.drew | apply IsS84.set_1 | apply IsS84.set_2 | refine IsS84.far ?_ NB0_286.out _) | exact HI0.out | apply IsS84.set_2 (x := some _) | apply IsS84.set_2 (x := none))); (case side2 => repeat (first | (with_reducible first | exact HB.out | apply below_alloc | apply pw_below_drewN | apply below_drew1 | refine below_set ?_ (IsS84.ge HI0.out) | refine below_set ?_ GE286.out) | exact HB.out)); rintro e w24 ⟨rfl, hi, hb, hk⟩; refine ⟨_, rfl, ?_⟩; replace HO_4 := Aside0.mk (Kd.R_mono (Kd.R_keep (IsS84.apart (show IsS84 w0 _ g t283 t284 t285 from by repeat (first | (with_reducible first | exact HI0.out | apply IsS84.alloc | apply IsS84.drewN | apply IsS84.drew | apply IsS84.set_1 | apply IsS84.set_2 | refine IsS84.far ?_ NB0_286.out _) | exact HI0.out | apply IsS84.set_2 (x := some _) | apply IsS84.set_2 (x := none))) (by (with_reducible repeat (first | apply Kd.R_alloc | apply Kd.R_drewN | apply Kd.R_drew)); exact (Kd.R_mono (Kd.R_far (p := ⟨gb286, 3, none⟩) (Kd.R_far (p := ⟨gb286, 2, none⟩) (Kd.R_far (p := ⟨gb286, 1, none⟩) (Kd.R_far (p := ⟨gb286, 0, none⟩) (Kd.R_mono HO_4.out (fun k_ hk => (⟨hk, hk.2⟩ : _ ∧ k_ ≠ gb286))) (fun _ hk => hk.2) (.int .i64 (wrap64 (t282)))) (fun _ hk => hk.2) (.int .u64 0)) (fun _ hk => hk.2) (.int .u64 0)) (fun _ hk => hk.2) (.int .u64 0)) (fun _ h_ => h_.1))) (by decide)) hk (fun _ h => h.2)) (fun _ h => h.1)); replace BK286 := Aside0.mk (KeepBut.blk hk (g' := gb286) (o := .cells #[.int .i64 (wrap64 (t282)), .int .u64 0, .int .u64 0, .int .u64 0] 89 (0, 0)) (kb BK286) NB286_0.out (by simp)); replace HK := Aside0.mk (KeepBut.trans (kk HK) hk (.inl rfl)); replace HB := Aside0.mk (hb); replace HI0 := Aside0.mk (hi); (try clear hb); (try clear hb2); (try clear hk); (try clear hi); (try simp only [errW_none, errW_some])) | ((with_reducible refine gate_callee (f := 43) rfl ?_); refine goesL_ (some 41) rfl rfl Try.func43 (by kernel_rfl) rfl #[.pointer (some ⟨g, 0, none⟩)] rfl km ?_; (with_reducible refine (index_reader_some.calls kj9 g t288 t289 t290 t291 t292 t293 t294 w0 _ ?side1 ?side2 A17.out).mono ?_); (case side1 => repeat (first | (with_reducible first | exact HI0.out | apply IsS84.alloc | apply IsS84.drewN | apply IsS84.drew | apply IsS84.set_1 | apply IsS84.set_2 | refine IsS84.far ?_ NB0_286.out _) | exact HI0.out | apply IsS84.set_2 (x := some _) | apply IsS84.set_2 (x := none))); (case side2 => repeat (first | (with_reducible first | exact HB.out | apply below_alloc | apply pw_below_drewN | apply below_drew1 | refine below_set ?_ (IsS84.ge HI0.out) | refine below_set ?_ GE286.out) | exact HB.out)); rintro e w25 ⟨rfl, hi, hb, hk⟩; refine ⟨_, rfl, ?_⟩; replace HO_4 := Aside0.mk (Kd.R_mono (Kd.R_keep (IsS84.apart (show IsS84 w0 _ g t288 t289 t290 from by repeat (first | (with_reducible first | exact HI0.out | apply IsS84.alloc | apply IsS84.drewN | apply IsS84.drew | apply IsS84.set_1 | apply IsS84.set_2 | refine IsS84.far ?_ NB0_286.out _) | exact HI0.out | apply IsS84.set_2 (x := some _) | apply IsS84.set_2 (x := none))) (kr HO_4) (by decide)) hk (fun _ h => h.2)) (fun _ h => h.1)); replace BK286 := Aside0.mk (KeepBut.blk hk (g' := gb286) (o := .cells #[.int .i64 (wrap64 (t282)), .int .u64 0, .int .u64 0, .int .u64 0] 89 (0, 0)) (kb BK286) NB286_0.out (by simp)); replace HK := Aside0.mk (KeepBut.trans (kk HK) hk (.inl rfl)); replace HB := Aside0.mk (hb); replace HI0 := Aside0.mk (hi); (try clear hb); (try clear hb2); (try clear hk); (try clear hi); (try simp only [errW_none, errW_some])) | ((with_reducible refine gate_callee (f := 43) rfl ?_); refine goesL_ (some 43) rfl rfl Try.func43 (by kernel_rfl) rfl #[.pointer (some ⟨g, 0, none⟩)] rfl km ?_; (with_reducible refine (index_reader_some.calls kj9 g t292 t293 t294 t295 t296 t297 t298 w0 _ ?side1 ?side2 A18.out).mono ?_); (case side1 => repeat (first | (with_reducible first | exact HI0.out | apply IsS84.alloc | apply IsS84.drewN | apply IsS84.drew | apply IsS84.set_1 | apply IsS84.set_2 | refine IsS84.far ?_ NB0_286.out _) | exact HI0.out | apply IsS84.set_2 (x := some _) | apply IsS84.set_2 (x := none))); (case side2 => repeat (first | (with_reducible first | exact HB.out | apply below_alloc | apply pw_below_drewN | apply below_drew1 | refine below_set ?_ (IsS84.ge HI0.out) | refine below_set ?_ GE286.out) | exact HB.out)); rintro e w26 ⟨rfl, hi, hb, hk⟩; refine ⟨_, rfl, ?_⟩; replace HO_4 := Aside0.mk (Kd.R_mono (Kd.R_keep (IsS84.apart (show IsS84 w0 _ g t292 t293 t294 from by repeat (first | (with_reducible first | exact HI0.out | apply IsS84.alloc | apply IsS84.drewN | apply IsS84.drew | apply IsS84.set_1 | apply IsS84.set_2 | refine IsS84.far ?_ NB0_286.out _) | exact HI0.out | apply IsS84.set_2 (x := some _) | apply IsS84.set_2 (x := none))) (kr HO_4) (by decide)) hk (fun _ h => h.2)) (fun _ h => h.1)); replace BK286 := Aside0.mk (KeepBut.blk hk (g' := gb286) (o := .cells #[.int .i64 (wrap64 (t282)), .int .u64 0, .int .u64 0, .int .u64 0] 89 (0, 0)) (kb BK286) NB286_0.out (by simp)); replace HK := Aside0.mk (KeepBut.trans (kk HK) hk (.inl rfl)); replace HB := Aside0.mk (hb); replace HI0 := Aside0.mk (hi); (try clear hb); (try clear hb2); (try clear hk); (try clear hi); (try simp only [errW_none, errW_some]); have hcz27_0 : w26.cell? ⟨gb286, 0, none⟩ = some (.int .i64 (wrap64 (t282))) := (blk_cell BK286.out 0).trans rfl; have hcz27_1 : w26.cell? ⟨gb286, 1, none⟩ = some (.int .u64 0) := (blk_cell BK286.out 1).trans rfl; have hcz27_2 : w26.cell? ⟨gb286, 2, none⟩ = some (.int .u64 0) := (blk_cell BK286.out 2).trans rfl; have hcz27_3 : w26.cell? ⟨gb286, 3, none⟩ = some (.int .u64 0) := (blk_cell BK286.out 3).trans rfl; have hfz27_0 := blk_frozen BK286.out 0; have hfz27_1 := blk_frozen BK286.out 1; have hfz27_2 := blk_frozen BK286.out 2; have hfz27_3 := blk_frozen BK286.out 3) | ((with_reducible refine gate_builtin (b := .append) (xs := #[.tmp 47, .tmp 49]) rfl ?_); at_builtin; refine Kd.R_append k89 w.heap.size rfl (.tmp 47) (.tmp 49) 86 89 (.agg #[(.int .i64 0), (.int .u64 0), (.int .u64 0), (.int .u64 0)]) 32 rfl Try.underlying86 info89 rfl (by decide) (by omega) u4 x4_3 (⟨wrap64 (t282), t287, t291, t295⟩ : S89) [.int .i64 (wrap64 (t282)), .int .u64 t287, .int .u64 t291, .int .u64 t295] (fun k_ => k_ ≠ gb286) (fun _ => False) rfl (by first | (go_simp; done) | (go_simp; rfl)) ?aP (fun _ hk => hk.elim) ?aF ?aO (Below.refl _ _) ?aS ?aL ?_; (case aP => exact k89_mkM _ _ _ (⟨wrap64 (t282), t287, t291, t295⟩ : S89)); (case aF => exact (fun k_ hk => Kd.freshB (g := gb286) (o := .cells #[.int .i64 (wrap64 (t282)), .int .u64 t287, .int .u64 t291, .int .u64 t295] 89 (0, 0)) (kb BK286) k_ hk)); (case aO => exact (by (with_reducible repeat (first | apply Kd.R_alloc | apply Kd.R_drewN | apply Kd.R_drew)); exact Kd.R_mono (Kd.R_far (p := ⟨gb286, 3, none⟩) (Kd.R_far (p := ⟨gb286, 2, none⟩) (Kd.R_far (p := ⟨gb286, 1, none⟩) (Kd.R_mono HO_4.out (fun k_ hk => (⟨hk, hk.2⟩ : _ ∧ k_ ≠ gb286))) (fun _ hk => hk.2) (.int .u64 t287)) (fun _ hk => hk.2) (.int .u64 t291)) (fun _ hk => hk.2) (.int .u64 t295)) (fun _ hk => hk.1.2))); (case aS => exact (keep_size (w := w) (g := g) (row := none) (kk HK))); (case aL => have := LMc19.out; omega); intro v300 w28 ho hb hg hat; rw [← Ny299.out] at ho; have n0_ := Aside0.mk (IsS84.grown (show IsS84 w0 _ g t296 t297 t298 from by repeat (first | (with_reducible first | exact HI0.out | apply IsS84.alloc | apply IsS84.drewN | apply IsS84.drew | apply IsS84.set_1 | apply IsS84.set_2 | refine IsS84.far ?_ NB0_286.out _) | exact HI0.out | apply IsS84.set_2 (x := some _) | apply IsS84.set_2 (x := none))) hg (IsS84.own_ne HI0.out HO_4.out (by decide))); have n1_ := Aside0.mk (blk_grown (g := gb286) (o := .cells #[.int .i64 (wrap64 (t282)), .int .u64 t287, .int .u64 t291, .int .u64 t295] 89 (0, 0)) (kb BK286) hg (Kd.R_away HO_4.out (fun _ hk => hk.2))); have n2_ := Aside0.mk (below_weaken (IsS84.kl HB) HL.out hb); have n3_ := Aside0.mk (KeepBut.trans (kk HK) (KeepBut.of_grown hg g) (Kd.R_base2 HO_4.out)); have n4_ := Aside0.mk (ho); clear HI0; clear BK286; clear HB; clear HK; clear HO_4; have HI0 := n0_; have BK286 := n1_; have HB := n2_; have HK := n3_; have HO301 := n4_; clear n0_ n1_ n2_ n3_ n4_; clear ho hb hg hat))
           go_roundg kj9
           case measure => have := HJ2.out; have := HJ6.out; have := HK3.out; have := HJ9.out; omega
           case rel => exact ⟨(y299), (IntKind.u64.wrap (x5_3 + 1)), (t296), (t297), (t298), (by first | rfl | (simp; done) | (simp [*]; done)), H', ⟨by have := HJ2.out; have := HJ6.out; have := HK3.out; have := HJ9.out; omega⟩, ⟨by (with_reducible repeat (first | apply Kd.R_alloc | apply Kd.R_drewN | apply Kd.R_drew)); exact Kd.R_mono HO301.out (fun _ hk => trivial)⟩, ⟨(IsS84.k HI0)⟩, ⟨(kk HK)⟩, ⟨(IsS84.kl HB)⟩⟩
          ·rw [if_neg c19] at H
           exact absurd H (by simp)
         ·replace c14 := Bool.eq_false_iff.mpr c14
          subst c14
          have H1 : (some (x4_3, x1000_3, x1001_3, x1002_3)) = some (r1, r2, r3, r4) := by rw [if_neg (show ¬ (false = true) by decide)] at H; exact H
          clear H
          have H := H1
          clear H1
          simp only [Option.some.injEq, Prod.mk.injEq] at H
          obtain ⟨rfl, rfl, rfl, rfl⟩ := H
          go_wp2
          go_ret
          exact ⟨_, by first | rfl | (simp [errW_none, errW_some] <;> rfl) | (simp [*, errW_none, errW_some] <;> rfl), by (with_reducible repeat (first | apply Kd.R_alloc | apply Kd.R_drewN | apply Kd.R_drew)); exact HO_4.out, (IsS84.k HI0), (IsS84.kl HB), (kk HK)⟩

end Go.Proofs.Ytiahbcaoikoogaa.All
