-- written by a program of the session out of the translation; Lean checks it
import Derived.Test.YtiahbcaoikoogaaAllx0
import Derived.Test.YtiahbcaoikoogaaAllx2
import Derived.Test.YtiahbcaoikoogaaAllx3
import Derived.Test.YtiahbcaoikoogaaAllx4
import Derived.Test.YtiahbcaoikoogaaAllx5
import Derived.Test.YtiahbcaoikoogaaAllx6
import Derived.Test.YtiahbcaoikoogaaAllx7
namespace Go.Proofs.Ytiahbcaoikoogaa.All
open Go.RowKit Go.Proofs.YtiahbcaoikoogaaW.PrintWords Go.Proofs.YtiahbcaoikoogaaW.PrintLast Go.Proofs.YtiahbcaoikoogaaW.PrintMore
attribute [local go_sem] max2_int min2_int max_two min_two max_three min_three max_four min_four   -- for this text's walks alone
set_option linter.unusedVariables false
set_option linter.unusedSimpArgs false

attribute [local go_sem high] errW_cells errW_match run_store_errW
/-! ### gaiterlaw17_CursorPlays: function 3 -/
mutual
def gaiterlaw17_CursorPlays.j0 : Nat → List (S75) → Int → List (S36) → Bool → Bool → Option (Bool)
 | 0, _, _, _, _, _ => none
 | k + 1, x0, x1, x2, x7, x28 => if x28 = true then (some x7) else ((gaiterlaw00_Rising.f k x0).bind fun t163 => ((gaiterlaw00_Pick.f x1 10).bind fun t166 => (if t166 > 0 then (gaiterlaw17_CursorPlays.j1 k x2 x7 t163 (some t166) t166) else (gaiterlaw17_CursorPlays.j1 k x2 x7 t163 none t166))))
def gaiterlaw17_CursorPlays.j1 : Nat → List (S36) → Bool → List (S75) → Option Int → Int → Option (Bool)
 | 0, _, _, _, _, _ => none
 | k + 1, x2, x7, x8, x9, x10 => (cursor_New.f x8 x9).bind fun bt167 => ((gaiterref09_New.f x8 x10).bind fun bt174 => (gaiterlaw17_CursorPlays.l0 k x2 x7 0 bt167.1 bt167.2.1 bt167.2.2.1 bt167.2.2.2 bt174.1 bt174.2.1 bt174.2.2.1 bt174.2.2.2))
def gaiterlaw17_CursorPlays.l0 : Nat → List (S36) → Bool → Int → List (S75) → Option Int → Int → Bool → List (S75) → Int → Int → Bool → Option (Bool)
 | 0, _, _, _, _, _, _, _, _, _, _, _ => none
 | k + 1, x2, x7, x13, x174000, x174001, x174002, x174003, x179000, x179001, x179002, x179003 => if x13 < (x2.length : Int) then (if 0 ≤ x13 then ((gaiterlaw00_Pick.f ((rd_T36 x2 x13).f0) 3).bind fun t180 => (if t180 = 2 then ((cursor_Seek.f k x174000 x174001 x174002 x174003 ((rd_T36 x2 x13).f1)).bind fun bt182 => ((gaiterref09_Cursor_SeekTo.f k x179000 x179001 x179002 x179003 ((rd_T36 x2 x13).f1)).bind fun bt190 => (gaiterlaw17_CursorPlays.j3 k x2 x7 x13 bt182.2.2.2.2 bt190.1 bt182.1 bt182.2.1 bt182.2.2.1 bt182.2.2.2.1 x179000 bt190.2.1 bt190.2.2.1 bt190.2.2.2))) else ((cursor_Next.f x174000 x174001 x174002 x174003).bind fun bt194 => ((gaiterref09_Cursor_Next.f x179000 x179001 x179002 x179003).bind fun bt201 => (gaiterlaw17_CursorPlays.j3 k x2 x7 x13 bt194.2.2.2.2 bt201.1 bt194.1 bt194.2.1 bt194.2.2.1 bt194.2.2.2.1 x179000 bt201.2.1 bt201.2.2.1 bt201.2.2.2))))) else (none)) else (some x7)
def gaiterlaw17_CursorPlays.j3 : Nat → List (S36) → Bool → Int → Bool → Bool → List (S75) → Option Int → Int → Bool → List (S75) → Int → Int → Bool → Option (Bool)
 | 0, _, _, _, _, _, _, _, _, _, _, _, _, _ => none
 | k + 1, x2, x7, x13, x14, x15, x174000, x174001, x174002, x174003, x179000, x179001, x179002, x179003 => (cursor_Look.f x174000 x174001 x174002 x174003).bind fun bt205 => ((gaiterref09_Cursor_Look.f x179000 x179001 x179002 x179003).bind fun bt207 => (if (x14 != x15) = true then (none) else (if bt205.1 = bt207.1 then (if bt205.2 = bt207.2.1 then ((cursor_Err.f x174000 x174001 x174002 x174003).bind fun t212 => ((gaiterlaw00_Code.f t212).bind fun t213 => ((gaiterref09_Cursor_Err.f x179000 bt207.2.2.1 bt207.2.2.2.1 bt207.2.2.2.2).bind fun bt214 => (if t213 = bt214.1 then (if x174002 = bt214.2.2.1 then (if (x174003 != bt214.2.2.2) = true then (none) else (gaiterlaw17_CursorPlays.l0 k x2 x7 (wrap64 (x13 + 1)) x174000 x174001 x174002 x174003 x179000 bt214.2.1 bt214.2.2.1 bt214.2.2.2)) else (none)) else (none))))) else (none)) else (none))))
end
def gaiterlaw17_CursorPlays.f (k : Nat) (l0 : List (S75)) (a1 : Int) (l2 : List (S36)) : Option (Bool) := (gaiterlaw17_up.f k).bind fun t162 => (if (l0.length : Int) > 100 then (gaiterlaw17_CursorPlays.j0 k l0 a1 l2 t162 true) else (gaiterlaw17_CursorPlays.j0 k l0 a1 l2 t162 (decide ((l2.length : Int) > 100))))
theorem gaiterlaw17_CursorPlays.mono_l : ∀ k, (∀ y0 y1 y2 y3 y4, LeO (gaiterlaw17_CursorPlays.j0 k y0 y1 y2 y3 y4) (gaiterlaw17_CursorPlays.j0 (k + 1) y0 y1 y2 y3 y4)) ∧ (∀ y0 y1 y2 y3 y4, LeO (gaiterlaw17_CursorPlays.j1 k y0 y1 y2 y3 y4) (gaiterlaw17_CursorPlays.j1 (k + 1) y0 y1 y2 y3 y4)) ∧ (∀ y0 y1 y2 y3 y4 y5 y6 y7 y8 y9 y10, LeO (gaiterlaw17_CursorPlays.l0 k y0 y1 y2 y3 y4 y5 y6 y7 y8 y9 y10) (gaiterlaw17_CursorPlays.l0 (k + 1) y0 y1 y2 y3 y4 y5 y6 y7 y8 y9 y10)) ∧ (∀ y0 y1 y2 y3 y4 y5 y6 y7 y8 y9 y10 y11 y12, LeO (gaiterlaw17_CursorPlays.j3 k y0 y1 y2 y3 y4 y5 y6 y7 y8 y9 y10 y11 y12) (gaiterlaw17_CursorPlays.j3 (k + 1) y0 y1 y2 y3 y4 y5 y6 y7 y8 y9 y10 y11 y12))
 | 0 => ⟨fun _ _ _ _ _ r h => by simp [gaiterlaw17_CursorPlays.j0] at h, fun _ _ _ _ _ r h => by simp [gaiterlaw17_CursorPlays.j1] at h, fun _ _ _ _ _ _ _ _ _ _ _ r h => by simp [gaiterlaw17_CursorPlays.l0] at h, fun _ _ _ _ _ _ _ _ _ _ _ _ _ r h => by simp [gaiterlaw17_CursorPlays.j3] at h⟩
 | k + 1 => by
  obtain ⟨ih0, ih1, ih2, ih3⟩ := gaiterlaw17_CursorPlays.mono_l k
  refine ⟨?_, ?_, ?_, ?_⟩
  ·intro y0 y1 y2 y3 y4
   unfold gaiterlaw17_CursorPlays.j0
   repeat' first
   | (with_reducible exact ih0 _ _ _ _ _)
   | (with_reducible exact ih1 _ _ _ _ _)
   | (with_reducible exact ih2 _ _ _ _ _ _ _ _ _ _ _)
   | (with_reducible exact ih3 _ _ _ _ _ _ _ _ _ _ _ _ _)
   | (with_reducible exact cursor_Seek.mono _ _ _ _ _ _)
   | (with_reducible exact gaiterlaw00_Rising.mono _ _)
   | (with_reducible exact gaiterlaw17_up.mono _)
   | (with_reducible exact gaiterref09_Cursor_SeekTo.mono _ _ _ _ _ _)
   | (with_reducible exact LeO.refl _)
   | (with_reducible exact LeO.none _)
   | (with_reducible refine LeO.ite ?_ ?_)
   | (with_reducible refine LeO.bind ?_ (fun _ => ?_))
   | exact ih0 _ _ _ _ _
   | exact ih1 _ _ _ _ _
   | exact ih2 _ _ _ _ _ _ _ _ _ _ _
   | exact ih3 _ _ _ _ _ _ _ _ _ _ _ _ _
   | exact cursor_Seek.mono _ _ _ _ _ _
   | exact gaiterlaw00_Rising.mono _ _
   | exact gaiterlaw17_up.mono _
   | exact gaiterref09_Cursor_SeekTo.mono _ _ _ _ _ _
   | exact LeO.none _
   | refine LeO.ite ?_ ?_
   | refine LeO.bind ?_ (fun _ => ?_)
  ·intro y0 y1 y2 y3 y4
   unfold gaiterlaw17_CursorPlays.j1
   repeat' first
   | (with_reducible exact ih0 _ _ _ _ _)
   | (with_reducible exact ih1 _ _ _ _ _)
   | (with_reducible exact ih2 _ _ _ _ _ _ _ _ _ _ _)
   | (with_reducible exact ih3 _ _ _ _ _ _ _ _ _ _ _ _ _)
   | (with_reducible exact cursor_Seek.mono _ _ _ _ _ _)
   | (with_reducible exact gaiterlaw00_Rising.mono _ _)
   | (with_reducible exact gaiterlaw17_up.mono _)
   | (with_reducible exact gaiterref09_Cursor_SeekTo.mono _ _ _ _ _ _)
   | (with_reducible exact LeO.refl _)
   | (with_reducible exact LeO.none _)
   | (with_reducible refine LeO.ite ?_ ?_)
   | (with_reducible refine LeO.bind ?_ (fun _ => ?_))
   | exact ih0 _ _ _ _ _
   | exact ih1 _ _ _ _ _
   | exact ih2 _ _ _ _ _ _ _ _ _ _ _
   | exact ih3 _ _ _ _ _ _ _ _ _ _ _ _ _
   | exact cursor_Seek.mono _ _ _ _ _ _
   | exact gaiterlaw00_Rising.mono _ _
   | exact gaiterlaw17_up.mono _
   | exact gaiterref09_Cursor_SeekTo.mono _ _ _ _ _ _
   | exact LeO.none _
   | refine LeO.ite ?_ ?_
   | refine LeO.bind ?_ (fun _ => ?_)
  ·intro y0 y1 y2 y3 y4 y5 y6 y7 y8 y9 y10
   unfold gaiterlaw17_CursorPlays.l0
   repeat' first
   | (with_reducible exact ih0 _ _ _ _ _)
   | (with_reducible exact ih1 _ _ _ _ _)
   | (with_reducible exact ih2 _ _ _ _ _ _ _ _ _ _ _)
   | (with_reducible exact ih3 _ _ _ _ _ _ _ _ _ _ _ _ _)
   | (with_reducible exact cursor_Seek.mono _ _ _ _ _ _)
   | (with_reducible exact gaiterlaw00_Rising.mono _ _)
   | (with_reducible exact gaiterlaw17_up.mono _)
   | (with_reducible exact gaiterref09_Cursor_SeekTo.mono _ _ _ _ _ _)
   | (with_reducible exact LeO.refl _)
   | (with_reducible exact LeO.none _)
   | (with_reducible refine LeO.ite ?_ ?_)
   | (with_reducible refine LeO.bind ?_ (fun _ => ?_))
   | exact ih0 _ _ _ _ _
   | exact ih1 _ _ _ _ _
   | exact ih2 _ _ _ _ _ _ _ _ _ _ _
   | exact ih3 _ _ _ _ _ _ _ _ _ _ _ _ _
   | exact cursor_Seek.mono _ _ _ _ _ _
   | exact gaiterlaw00_Rising.mono _ _
   | exact gaiterlaw17_up.mono _
   | exact gaiterref09_Cursor_SeekTo.mono _ _ _ _ _ _
   | exact LeO.none _
   | refine LeO.ite ?_ ?_
   | refine LeO.bind ?_ (fun _ => ?_)
  ·intro y0 y1 y2 y3 y4 y5 y6 y7 y8 y9 y10 y11 y12
   unfold gaiterlaw17_CursorPlays.j3
   repeat' first
   | (with_reducible exact ih0 _ _ _ _ _)
   | (with_reducible exact ih1 _ _ _ _ _)
   | (with_reducible exact ih2 _ _ _ _ _ _ _ _ _ _ _)
   | (with_reducible exact ih3 _ _ _ _ _ _ _ _ _ _ _ _ _)
   | (with_reducible exact cursor_Seek.mono _ _ _ _ _ _)
   | (with_reducible exact gaiterlaw00_Rising.mono _ _)
   | (with_reducible exact gaiterlaw17_up.mono _)
   | (with_reducible exact gaiterref09_Cursor_SeekTo.mono _ _ _ _ _ _)
   | (with_reducible exact LeO.refl _)
   | (with_reducible exact LeO.none _)
   | (with_reducible refine LeO.ite ?_ ?_)
   | (with_reducible refine LeO.bind ?_ (fun _ => ?_))
   | exact ih0 _ _ _ _ _
   | exact ih1 _ _ _ _ _
   | exact ih2 _ _ _ _ _ _ _ _ _ _ _
   | exact ih3 _ _ _ _ _ _ _ _ _ _ _ _ _
   | exact cursor_Seek.mono _ _ _ _ _ _
   | exact gaiterlaw00_Rising.mono _ _
   | exact gaiterlaw17_up.mono _
   | exact gaiterref09_Cursor_SeekTo.mono _ _ _ _ _ _
   | exact LeO.none _
   | refine LeO.ite ?_ ?_
   | refine LeO.bind ?_ (fun _ => ?_)
theorem gaiterlaw17_CursorPlays.mono : ∀ a0 a1 a2 k, LeO (gaiterlaw17_CursorPlays.f k a0 a1 a2) (gaiterlaw17_CursorPlays.f (k + 1) a0 a1 a2) := by
 intro a0 a1 a2 k
 obtain ⟨ih0, ih1, ih2, ih3⟩ := gaiterlaw17_CursorPlays.mono_l k
 unfold gaiterlaw17_CursorPlays.f
 repeat' first
   | (with_reducible exact ih0 _ _ _ _ _)
   | (with_reducible exact ih1 _ _ _ _ _)
   | (with_reducible exact ih2 _ _ _ _ _ _ _ _ _ _ _)
   | (with_reducible exact ih3 _ _ _ _ _ _ _ _ _ _ _ _ _)
   | (with_reducible exact cursor_Seek.mono _ _ _ _ _ _)
   | (with_reducible exact gaiterlaw00_Rising.mono _ _)
   | (with_reducible exact gaiterlaw17_up.mono _)
   | (with_reducible exact gaiterref09_Cursor_SeekTo.mono _ _ _ _ _ _)
   | (with_reducible exact LeO.refl _)
   | (with_reducible exact LeO.none _)
   | (with_reducible refine LeO.ite ?_ ?_)
   | (with_reducible refine LeO.bind ?_ (fun _ => ?_))
   | exact ih0 _ _ _ _ _
   | exact ih1 _ _ _ _ _
   | exact ih2 _ _ _ _ _ _ _ _ _ _ _
   | exact ih3 _ _ _ _ _ _ _ _ _ _ _ _ _
   | exact cursor_Seek.mono _ _ _ _ _ _
   | exact gaiterlaw00_Rising.mono _ _
   | exact gaiterlaw17_up.mono _
   | exact gaiterref09_Cursor_SeekTo.mono _ _ _ _ _ _
   | exact LeO.none _
   | refine LeO.ite ?_ ?_
   | refine LeO.bind ?_ (fun _ => ?_)
def gaiterlaw17_CursorPlays.T17 : Bool × List (List Nat × List Nat) := (true, [([], []), ([], []), ([], []), ([1, 2], [1, 2]), ([3], [3]), ([4], [4]), ([0, 5], [0, 5]), ([6], [6]), ([7], [7]), ([7], [7]), ([8, 6, 0, 1, 2, 3, 4, 5, 6, 7, 8], [8]), ([9, 10, 0, 1, 2, 3, 4, 5, 6, 7, 8, 9, 10], [9])])
def gaiterlaw17_CursorPlays.B17 : List Nat := [0, 0, 0, 6, 14, 30, 63, 127, 255, 255, 511, 2047]
theorem gaiterlaw17_CursorPlays.tab17 : rtab .any (opsOf Try.f3 17) = gaiterlaw17_CursorPlays.T17 := by kernel_rfl
theorem gaiterlaw17_CursorPlays.bits17 : waitsOk gaiterlaw17_CursorPlays.T17.2 gaiterlaw17_CursorPlays.B17 = true := by kernel_rfl
def gaiterlaw17_CursorPlays.T23 : Bool × List (List Nat × List Nat) := (true, [([], []), ([], []), ([0, 1], [0, 1]), ([2], [2]), ([3], [3]), ([3], [3]), ([4, 5, 3], [3, 4, 5]), ([3, 6], [3, 6]), ([7, 3], [7]), ([8], [8]), ([8], [8]), ([9, 10, 8], [8, 9, 10]), ([8, 11], [8, 11]), ([12, 8], [12]), ([13], [13]), ([14, 13, 13], [13, 14]), ([15, 15, 13], [13, 15]), ([13], [13]), ([17, 16, 13], [13, 17]), ([16, 18, 13], [13, 16, 18]), ([13, 19], [13, 19]), ([20, 18], [20]), ([21], [21]), ([22, 21], [21, 22]), ([21], [21]), ([24, 21], [21, 24]), ([25, 21], [21, 25]), ([26, 21], [21, 26]), ([23, 27, 21], [21, 23, 27]), ([21, 28], [21, 28]), ([29, 21], [29]), ([30], [30]), ([31, 30], [30, 31]), ([30], [30]), ([33, 30], [30, 33]), ([34, 30], [30, 34]), ([35, 30], [30, 35]), ([32, 36, 30], [30, 32, 36]), ([30, 37], [30, 37])])
def gaiterlaw17_CursorPlays.B23 : List Nat := [0, 0, 3, 7, 15, 15, 63, 127, 255, 511, 511, 2047, 4095, 8191, 16383, 32767, 65535, 16383, 262143, 524287, 1048575, 2097151, 4194303, 8388607, 4194303, 20971519, 54525951, 121634815, 268435455, 536870911, 1073741823, 2147483647, 4294967295, 2147483647, 10737418239, 27917287423, 62277025791, 137438953471, 274877906943]
theorem gaiterlaw17_CursorPlays.tab23 : rtab .any (opsOf Try.f3 23) = gaiterlaw17_CursorPlays.T23 := by kernel_rfl
theorem gaiterlaw17_CursorPlays.bits23 : waitsOk gaiterlaw17_CursorPlays.T23.2 gaiterlaw17_CursorPlays.B23 = true := by kernel_rfl
set_option maxHeartbeats 8000000 in
set_option maxRecDepth 100000 in
theorem gaiterlaw17_CursorPlays.calls (k : Nat) (A0 : Option Addr) (c0 : Nat) (l0 : List (S75)) (a1 : Int) (A2 : Option Addr) (c2 : Nat) (l2 : List (S36)) (r : Bool) (w : World) (hr0 : Kd.C k75 w A0 l0.length l0) (hc0 : l0.length ≤ c0) (hr2 : Kd.C k36 w A2 l2.length l2) (hc2 : l2.length ≤ c2) (h : gaiterlaw17_CursorPlays.f k l0 a1 l2 = some r) :
  Calls Try.prog 3 #[.slice A0 l0.length c0, .int .i64 a1, .slice A2 l2.length c2] w fun e w' => e = .returned (.bool r) ∧ Below w.heap.size w w' := by
 have hu31 := Try.underlying31
 have hu27 := Try.underlying27
 have hu29 := Try.underlying29
 have HR0 := Aside0.mk hr0
 have HC0 := Aside0.mk hc0
 clear hr0 hc0
 have HR2 := Aside0.mk hr2
 have HC2 := Aside0.mk hc2
 clear hr2 hc2
 have HB := Aside0.mk (Below.refl w.heap.size w)
 have H : ((gaiterlaw17_up.f k).bind fun t162 => (if (l0.length : Int) > 100 then (gaiterlaw17_CursorPlays.j0 k l0 a1 l2 t162 true) else (gaiterlaw17_CursorPlays.j0 k l0 a1 l2 t162 (decide ((l2.length : Int) > 100))))) = some r := h
 clear h
 replace H := Option.bind_eq_some_iff.mp H
 obtain ⟨t162, A40, H⟩ := H
 replace H : (if (l0.length : Int) > 100 then (gaiterlaw17_CursorPlays.j0 k l0 a1 l2 t162 true) else (gaiterlaw17_CursorPlays.j0 k l0 a1 l2 t162 (decide ((l2.length : Int) > 100)))) = some r := H
 have A4 := Aside0.mk A40
 clear A40
 have HC5 := Aside0.mk H
 clear H
 go_enter Try.func3, Try.ntmps3
 go_upto_region 2 with (first | ((with_reducible refine gate_callee (f := 7) rfl ?_); refine goesL_ (some 20) rfl rfl Try.func7 (by kernel_rfl) rfl #[] rfl km ?_; (with_reducible refine (gaiterlaw17_up.calls k  t162 _ A4.out).mono ?_); rintro e w6 ⟨rfl, hb⟩; refine ⟨_, rfl, ?_⟩; replace HB := kH HB hb; (try clear hb); (try clear hb2); (try clear hk); (try clear hi); (try clear hgw)))
 (try simp only [Act.put, List.setIfInBounds_toArray, List.set_cons_zero, List.set_cons_succ])
 go_cut [28] (fun v28 wc => ∃ (kq : Nat) (x28_4 : Bool), v28 = .bool x28_4 ∧ Aside0 (gaiterlaw17_CursorPlays.j0 kq l0 a1 l2 t162 x28_4 = some r) ∧ Aside0 (kq ≤ k) ∧ Aside0 (Below w.heap.size w wc))
 case first =>
  have H := HC5.out
  clear HC5
  by_cases c7 : (l0.length : Int) > 100
  ·rw [if_pos c7] at H
   have c7b0 : decide (100 < (l0.length : Int)) = true := decide_eq_true c7
   have c7b1 : decide (100 < l0.length) = true := decide_eq_true (by omega)
   clear c7
   (first | rw [c7b0] | (simp only [i64_w, i32_w]; rw [c7b0]) | skip)
   have H' := Aside0.mk H
   clear H
   go_wp2
   go_meet
   case rel => exact ⟨_, (true), (by first | rfl | (simp; done) | (simp [*]; done)), H', ⟨by first | omega | exact Nat.le_refl _⟩, ⟨(kl HB)⟩⟩
  ·rw [if_neg c7] at H
   have c7b0 : decide (100 < (l0.length : Int)) = false := decide_eq_false c7
   have c7b1 : decide (100 < l0.length) = false := decide_eq_false (by omega)
   clear c7
   (first | rw [c7b0] | (simp only [i64_w, i32_w]; rw [c7b0]) | skip)
   have H' := Aside0.mk H
   clear H
   go_wp2
   go_meet
   case rel => exact ⟨_, (decide ((l2.length : Int) > 100)), (by first | rfl | (simp; done) | (simp [*]; done)), H', ⟨by first | omega | exact Nat.le_refl _⟩, ⟨(kl HB)⟩⟩
 case rest =>
  clear HC5
  try clear c2
  try clear p2
  try clear c3
  try clear c7
  try clear c7b0
  try clear c7b1
  (try clear HB)
  obtain ⟨kq, x28_4, rfl, HA, HJ4, HB⟩ := hcut
  cases kq with
  | zero => exact absurd HA.out (by simp [gaiterlaw17_CursorPlays.j0])
  | succ kj4 =>
   have H := HA.out
   clear HA
   simp only [gaiterlaw17_CursorPlays.j0] at H
   by_cases c8 : x28_4 = true
   ·subst c8
    have H1 : (some t162) = some r := by rw [if_pos rfl] at H; exact H
    clear H
    have H := H1
    clear H1
    obtain rfl := Option.some.inj H
    go_wp2
    go_ret
    exact ⟨by first | rfl | (simp [errW_none, errW_some] <;> rfl) | (simp [*, errW_none, errW_some] <;> rfl), (kl HB)⟩
   ·replace c8 := Bool.eq_false_iff.mpr c8
    subst c8
    have H1 : ((gaiterlaw00_Rising.f kj4 l0).bind fun t163 => ((gaiterlaw00_Pick.f a1 10).bind fun t166 => (if t166 > 0 then (gaiterlaw17_CursorPlays.j1 kj4 l2 t162 t163 (some t166) t166) else (gaiterlaw17_CursorPlays.j1 kj4 l2 t162 t163 none t166)))) = some r := by rw [if_neg (show ¬ (false = true) by decide)] at H; exact H
    clear H
    have H := H1
    clear H1
    replace H := Option.bind_eq_some_iff.mp H
    obtain ⟨t163, A90, H⟩ := H
    replace H : ((gaiterlaw00_Pick.f a1 10).bind fun t166 => (if t166 > 0 then (gaiterlaw17_CursorPlays.j1 kj4 l2 t162 t163 (some t166) t166) else (gaiterlaw17_CursorPlays.j1 kj4 l2 t162 t163 none t166))) = some r := H
    have A9 := Aside0.mk A90
    clear A90
    replace H := Option.bind_eq_some_iff.mp H
    obtain ⟨t166, A100, H⟩ := H
    replace H : (if t166 > 0 then (gaiterlaw17_CursorPlays.j1 kj4 l2 t162 t163 (some t166) t166) else (gaiterlaw17_CursorPlays.j1 kj4 l2 t162 t163 none t166)) = some r := H
    have A10 := Aside0.mk A100
    clear A100
    have HC11 := Aside0.mk H
    clear H
    go_upto_if 35 with (first | ((with_reducible refine gate_callee (f := 8) rfl ?_); refine goesL_ (some 31) rfl rfl Try.func8 (by kernel_rfl) rfl #[.slice A0 l0.length c0] rfl km ?_; (with_reducible refine (gaiterlaw00_Rising.calls kj4 _ _ l0 t163 _ ?side1 ?side2 A9.out).mono ?_); (case side1 => repeat (first | exact (Kd.C_below HR0.out HB.out) | (with_reducible refine Kd.C_alloc ?_ _) | (with_reducible refine Kd.C_drewN ?_ _) | (with_reducible refine Kd.C_drew ?_))); (case side2 => exact HC0.out); rintro e w12 ⟨v164, rfl, ho0, hb⟩; refine ⟨_, rfl, ?_⟩; have HO165 := Aside0.mk (Kd.R_lower ho0 (below_size (kl HB))); replace HB := kH HB hb; (try clear hb); (try clear hb2); (try clear hk); (try clear hi); (try clear hgw); (try clear ho0)) | ((with_reducible refine gate_callee (f := 9) rfl ?_); refine goesL_ (some 33) rfl rfl Try.func9 (by kernel_rfl) rfl #[.int .i64 a1, .int .i64 10] rfl km ?_; (with_reducible refine (gaiterlaw00_Pick.calls a1 10 t166 _ A10.out).mono ?_); rintro e w' ⟨rfl, ⟨nd, rfl⟩⟩; refine ⟨_, rfl, ?_⟩; (try (rw [drewN_self w12]; generalize hq_ : World.drewN w12 _ = w12; have n0_ : Aside0 (Kd.R k75 75 w12 w.heap.size (fun _ => True) v164 t163) := ⟨by rw [← hq_]; exact (kr HO165)⟩; have n1_ : Aside0 (Below w.heap.size w w12) := ⟨by rw [← hq_]; exact (kl HB)⟩; clear HO165 HB hq_; have HO165 := n0_; have HB := n1_; clear n0_ n1_))))
    (try simp only [Act.put, List.setIfInBounds_toArray, List.set_cons_zero, List.set_cons_succ])
    go_cut [9] (fun v9 wc => ∃ (kq : Nat) (x9_10 : Option Int), v9 = errW x9_10 ∧ Aside0 (gaiterlaw17_CursorPlays.j1 kq l2 t162 t163 x9_10 t166 = some r) ∧ Aside0 (kq ≤ kj4) ∧ Aside0 (Kd.R k75 75 wc w.heap.size (fun _ => True) v164 t163) ∧ Aside0 (Below w.heap.size w wc))
    case first =>
     have H := HC11.out
     clear HC11
     by_cases c13 : t166 > 0
     ·rw [if_pos c13] at H
      have c13b0 : decide (0 < t166) = true := decide_eq_true c13
      clear c13
      (first | rw [c13b0] | (simp only [i64_w, i32_w]; rw [c13b0]) | skip)
      have H' := Aside0.mk H
      clear H
      go_wp2
      go_meet
      case rel => exact ⟨_, (some t166), (by first | rfl | (simp; done) | (simp [*]; done)), H', ⟨by have := HJ4.out; first | omega | exact Nat.le_refl _⟩, ⟨kr HO165⟩, ⟨(kl HB)⟩⟩
     ·rw [if_neg c13] at H
      have c13b0 : decide (0 < t166) = false := decide_eq_false c13
      clear c13
      (first | rw [c13b0] | (simp only [i64_w, i32_w]; rw [c13b0]) | skip)
      have H' := Aside0.mk H
      clear H
      go_wp2
      go_meet
      case rel => exact ⟨_, (none), (by first | rfl | (simp; done) | (simp [*]; done)), H', ⟨by have := HJ4.out; first | omega | exact Nat.le_refl _⟩, ⟨kr HO165⟩, ⟨(kl HB)⟩⟩
    case rest =>
     clear HC11
     try clear c1
     try clear c2
     try clear p2
     try clear c3
     try clear c7
     try clear c7b0
     try clear c7b1
     try clear c8
     try clear c9
     try clear c13
     try clear c13b0
     try clear p2
     (try clear HO_8)
     (try clear HB)
     obtain ⟨kq, x9_10, rfl, HA, HJ10, HO_8, HB⟩ := hcut
     cases kq with
     | zero => exact absurd HA.out (by simp [gaiterlaw17_CursorPlays.j1])
     | succ kj10 =>
      have H := HA.out
      clear HA
      simp only [gaiterlaw17_CursorPlays.j1] at H
      replace H := Option.bind_eq_some_iff.mp H
      obtain ⟨⟨t167, t170, t171, t172⟩, A140, H⟩ := H
      replace H : ((gaiterref09_New.f t163 t166).bind fun bt174 => (gaiterlaw17_CursorPlays.l0 kj10 l2 t162 0 t167 t170 t171 t172 bt174.1 bt174.2.1 bt174.2.2.1 bt174.2.2.2)) = some r := H
      have A14 := Aside0.mk A140
      clear A140
      replace H := Option.bind_eq_some_iff.mp H
      obtain ⟨⟨t174, t175, t176, t177⟩, A150, H⟩ := H
      replace H : (gaiterlaw17_CursorPlays.l0 kj10 l2 t162 0 t167 t170 t171 t172 t174 t175 t176 t177) = some r := H
      have A15 := Aside0.mk A150
      clear A150
      have H' := Aside0.mk H
      clear H
      obtain ⟨Ao16, co16, eo16⟩ := Kd.R_slice HO_8.out
      subst eo16
      obtain ⟨w0, hsw⟩ : ∃ w0_ : World, w0_ = wc := ⟨_, rfl⟩
      have HBW := Aside0.mk (show Below w.heap.size w w0 from by rw [hsw]; exact HB.out)
      clear HB
      have HB := Aside0.mk (show Below w0.heap.size w0 wc from by rw [hsw]; exact Below.refl _ _)
      (try (replace HR0 := Aside0.mk (Kd.C_below HR0.out HBW.out)))
      (try (replace HR2 := Aside0.mk (Kd.C_below HR2.out HBW.out)))
      have HCX0 := Aside0.mk (show ∀ (A_ : Option Addr) (n_ c_ : Nat), (.slice Ao16 t163.length co16 : Value) = .slice A_ n_ c_ → Kd.C k75 w0 A_ t163.length t163 from by rw [hsw]; intro A_ n_ c_ e_; have h_ := HO_8.out; rw [e_] at h_; exact (Kd.R_reads' h_).2.2)
      go_wp2_with (first | (go_at_call 10; refine calls_of_args (args' := #[.slice Ao16 t163.length co16, errW x9_10]) (by first | rfl | (simp only [errW_none, errW_some]; rfl)) ?_; (with_reducible refine (cursor_New.calls (fun k_ => some k_ = (.slice Ao16 t163.length co16 : Value).ownBlock) _ _ t163 x9_10 t167 t170 t171 t172 _ ?side1 A14.out).mono ?_); (case side1 => exact Kd.R_V (Kd.R_tight rfl (HO_8.out))); rintro e w17 ⟨v168, rfl, ho0, hb⟩; replace HO_8 := Aside0.mk (Kd.R_below (kr HO_8) hb); have HO169 := Aside0.mk (Kd.V_lower (Kd.V_mono (ok' := fun k_ => True) ho0 (fun k_ hk_ => trivial)) (below_size (below_step HBW.out (kl HB)))); replace HB := kH HB hb; (try clear hb); (try clear hb2); (try clear hk); (try clear hi); (try clear hgw); (try clear ho0); (try simp only [errW_none, errW_some])) | ((with_reducible refine gate_dst (N := 11) rfl ?_); (try (refine gate_guard (by rfl) ?_; dsimp only)); refine box_event ?hg (N := 11) ?hd (cs := #[.slice none 0 0, errW none, .int .i64 0, .bool false]) (t := 31) ?hr ?_; (case hd => rfl); (case hg => rfl); (case hr => first | (go_simp; done) | (go_simp; rfl)); intro gb173 hg w18 hbox hb; replace HO_8 := Aside0.mk (Kd.R_below (kr HO_8) hb); replace HO169 := Aside0.mk (Kd.V_below (Kd.V_elderB (by (with_reducible repeat (first | apply Kd.V_alloc | apply Kd.V_drewN | apply Kd.V_drew)); exact HO169.out) gb173 (Nat.le_of_eq hg.symm)) hb); have BK173 := Aside0.mk (hbox); have GW173 := Aside0.mk ((by rw [hg]; exact (below_size (below_step HBW.out (kl HB))) : w.heap.size ≤ gb173)); have GE173 := Aside0.mk ((by rw [hg]; exact (below_size (kl HB)) : w0.heap.size ≤ gb173)); replace HB := kH HB hb; clear hb hbox hg; obtain ⟨Ao19, co19, eo19⟩ := Kd.V_slice HO169.out; subst eo19; have hcz20_0 : w18.cell? ⟨gb173, 0, none⟩ = some (.slice none 0 0) := (blk_cell BK173.out 0).trans rfl; have hcz20_1 : w18.cell? ⟨gb173, 1, none⟩ = some (errW none) := (blk_cell BK173.out 1).trans rfl; have hcz20_2 : w18.cell? ⟨gb173, 2, none⟩ = some (.int .i64 0) := (blk_cell BK173.out 2).trans rfl; have hcz20_3 : w18.cell? ⟨gb173, 3, none⟩ = some (.bool false) := (blk_cell BK173.out 3).trans rfl; have hfz20_0 := blk_frozen BK173.out 0; have hfz20_1 := blk_frozen BK173.out 1; have hfz20_2 := blk_frozen BK173.out 2; have hfz20_3 := blk_frozen BK173.out 3) | ((with_reducible refine gate_callee (f := 11) rfl ?_); refine goesL_ (some 43) rfl rfl Try.func11 (by kernel_rfl) rfl #[.slice Ao16 t163.length co16, .int .i64 t166] rfl km ?_; (with_reducible refine (gaiterref09_New.calls _ _ t163 t166 t174 t175 t176 t177 w0 _ ?side1 ?side2 ?side3 A15.out).mono ?_); (case side1 => repeat (first | (with_reducible first | exact HB.out | apply below_alloc | apply pw_below_drewN | apply below_drew1 | refine below_set ?_ GE173.out) | exact HB.out)); (case side2 => exact HCX0.out _ _ _ rfl); (case side3 => exact (Kd.R_reads' HO_8.out).2.1); rintro e w21 ⟨g178, rfl, hi, hb, hb2, hgw⟩; refine ⟨_, rfl, ?_⟩; replace HO_8 := Aside0.mk (Kd.R_below (by (with_reducible repeat (first | apply Kd.R_alloc | apply Kd.R_drewN | apply Kd.R_drew)); exact (Kd.R_mono (Kd.R_far (p := ⟨gb173, 3, none⟩) (Kd.R_far (p := ⟨gb173, 2, none⟩) (Kd.R_far (p := ⟨gb173, 1, none⟩) (Kd.R_far (p := ⟨gb173, 0, none⟩) (Kd.R_types HO_8.out BK173.out (by decide)) (fun _ hk => hk.2) (.slice Ao19 t167.length co19)) (fun _ hk => hk.2) (errW t170)) (fun _ hk => hk.2) (.int .i64 t171)) (fun _ hk => hk.2) (.bool t172)) (fun _ h_ => h_.1))) hb2); replace HO169 := Aside0.mk (Kd.V_below (Kd.V_elderB (by (with_reducible repeat (first | apply Kd.V_alloc | apply Kd.V_drewN | apply Kd.V_drew)); exact (Kd.V_mono (Kd.V_far (p := ⟨gb173, 3, none⟩) (Kd.V_far (p := ⟨gb173, 2, none⟩) (Kd.V_far (p := ⟨gb173, 1, none⟩) (Kd.V_far (p := ⟨gb173, 0, none⟩) (Kd.V_mono HO169.out (fun k_ hk => (⟨hk, hk.2⟩ : _ ∧ k_ ≠ gb173))) (fun _ hk => hk.2) (.slice Ao19 t167.length co19)) (fun _ hk => hk.2) (errW t170)) (fun _ hk => hk.2) (.int .i64 t171)) (fun _ hk => hk.2) (.bool t172)) (fun _ h_ => h_.1))) g178 hgw) hb2); replace HB := Aside0.mk (hb); have HI178 := Aside0.mk (hi); have NB178_173 := Aside0.mk (IsS49.ne_blk hi (blk_below (g := gb173) (o := .cells #[.slice Ao19 t167.length co19, errW t170, .int .i64 t171, .bool t172] 31 (0, 0)) (kb BK173) hb2) (by decide)); have NB173_178 := Aside0.mk (Ne.symm (IsS49.ne_blk hi (blk_below (g := gb173) (o := .cells #[.slice Ao19 t167.length co19, errW t170, .int .i64 t171, .bool t172] 31 (0, 0)) (kb BK173) hb2) (by decide))); replace BK173 := Aside0.mk (blk_below (g := gb173) (o := .cells #[.slice Ao19 t167.length co19, errW t170, .int .i64 t171, .bool t172] 31 (0, 0)) (kb BK173) hb2); (try clear hb); (try clear hb2); (try clear hk); (try clear hi); (try clear hgw)))
      go_loopg [13] kj10 (fun kq v13 w' => ∃ (x13_3 : Int) (x174000_3 : List (S75)) (x174001_3 : Option Int) (x174002_3 : Int) (x174003_3 : Bool) (x179001_3 : Int) (x179002_3 : Int) (x179003_3 : Bool) (u174000 : Value), v13 = .int .i64 x13_3 ∧ Aside0 (gaiterlaw17_CursorPlays.l0 kq l2 t162 x13_3 x174000_3 x174001_3 x174002_3 x174003_3 t174 x179001_3 x179002_3 x179003_3 = some r) ∧ Aside0 (kq ≤ kj10) ∧ Aside0 (Kd.V k75 75 w' w.heap.size (fun k_ => k_ ≠ gb173 ∧ k_ ≠ g178) u174000 x174000_3) ∧ Aside0 (w'.heap[gb173]? = some (.cells #[u174000, errW x174001_3, .int .i64 x174002_3, .bool x174003_3] 31 (0, 0))) ∧ Aside0 (IsS49 w0 w' g178 t174 x179001_3 x179002_3 x179003_3) ∧ Aside0 (Below w0.heap.size w0 w'))
      case atStart => exact ⟨(0), (t167), (t170), (t171), (t172), (t175), (t176), (t177), (.slice Ao19 t167.length co19), (by first | rfl | (simp; done) | (simp [*]; done)), H', ⟨Nat.le_refl _⟩, ⟨by (with_reducible repeat (first | apply Kd.V_alloc | apply Kd.V_drewN | apply Kd.V_drew)); exact Kd.V_mono HO169.out (fun _ hk => ⟨hk.1.2, hk.2⟩)⟩, ⟨kb BK173⟩, ⟨(IsS49.k HI178)⟩, ⟨(IsS49.kl HB)⟩⟩
      case round =>
       clear H'
       try clear c1
       try clear c2
       try clear p2
       try clear c3
       try clear c7
       try clear c7b0
       try clear c7b1
       try clear c8
       try clear c9
       try clear c11
       try clear c13
       try clear c13b0
       try clear hcz20_0
       try clear hcz20_1
       try clear hcz20_2
       try clear hcz20_3
       try clear hfz20_0
       try clear hfz20_1
       try clear hfz20_2
       try clear hfz20_3
       try clear p2
       obtain ⟨x13_3, x174000_3, x174001_3, x174002_3, x174003_3, x179001_3, x179002_3, x179003_3, u174000, rfl, HA, HK3, HO_174000, BK173, HI178, HB⟩ := hrel
       cases gk with
       | zero => exact absurd HA.out (by simp [gaiterlaw17_CursorPlays.l0])
       | succ k3 =>
        have H := HA.out
        clear HA
        simp only [gaiterlaw17_CursorPlays.l0] at H
        by_cases c22 : x13_3 < (l2.length : Int)
        ·rw [if_pos c22] at H
         have c22b0 : decide (x13_3 < (l2.length : Int)) = true := decide_eq_true c22
         clear c22
         by_cases c23 : 0 ≤ x13_3
         ·rw [if_pos c23] at H
          have c23b0 : decide (0 ≤ x13_3) = true := decide_eq_true c23
          clear c23
          replace H := Option.bind_eq_some_iff.mp H
          obtain ⟨t180, A240, H⟩ := H
          replace H : (if t180 = 2 then ((cursor_Seek.f k3 x174000_3 x174001_3 x174002_3 x174003_3 ((rd_T36 l2 x13_3).f1)).bind fun bt182 => ((gaiterref09_Cursor_SeekTo.f k3 t174 x179001_3 x179002_3 x179003_3 ((rd_T36 l2 x13_3).f1)).bind fun bt190 => (gaiterlaw17_CursorPlays.j3 k3 l2 t162 x13_3 bt182.2.2.2.2 bt190.1 bt182.1 bt182.2.1 bt182.2.2.1 bt182.2.2.2.1 t174 bt190.2.1 bt190.2.2.1 bt190.2.2.2))) else ((cursor_Next.f x174000_3 x174001_3 x174002_3 x174003_3).bind fun bt194 => ((gaiterref09_Cursor_Next.f t174 x179001_3 x179002_3 x179003_3).bind fun bt201 => (gaiterlaw17_CursorPlays.j3 k3 l2 t162 x13_3 bt194.2.2.2.2 bt201.1 bt194.1 bt194.2.1 bt194.2.2.1 bt194.2.2.2.1 t174 bt201.2.1 bt201.2.2.1 bt201.2.2.2)))) = some r := H
          have A24 := Aside0.mk A240
          clear A240
          have HC25 := Aside0.mk H
          clear H
          have p179 : 0 ≤ (x13_3 : Int) := of_decide_eq_true (by first | (with_reducible assumption) | assumption)
          have q179 : x13_3 < (l2.length : Int) := of_decide_eq_true (by first | (with_reducible assumption) | assumption)
          obtain ⟨ad179, e179, hx179_0, hx179_1⟩ := at_T36 HR2.out x13_3 p179 q179
          cases e179
          replace hx179_0 := (HB.out.cell (World.block_lt_of_cell? w0 _ hx179_0)).trans hx179_0
          replace hx179_1 := (HB.out.cell (World.block_lt_of_cell? w0 _ hx179_1)).trans hx179_1
          replace p179 := eq_true p179
          (try (have q179s := q179; simp only [List.length_drop, List.length_take] at q179s; replace q179s := eq_true q179s)); replace q179 := eq_true q179
          go_upto_if 56 with (first | ((with_reducible refine gate_callee (f := 9) rfl ?_); refine goesL_ (some 55) rfl rfl Try.func9 (by kernel_rfl) rfl #[.int .i64 ((rd_T36 l2 x13_3).f0), .int .i64 3] rfl km ?_; (with_reducible refine (gaiterlaw00_Pick.calls ((rd_T36 l2 x13_3).f0) 3 t180 _ A24.out).mono ?_); rintro e w' ⟨rfl, ⟨nd, rfl⟩⟩; refine ⟨_, rfl, ?_⟩; (try (rw [drewN_self wr]; generalize hq_ : World.drewN wr _ = wr; have n0_ : Aside0 (Kd.V k75 75 wr w.heap.size (fun k_ => k_ ≠ gb173 ∧ k_ ≠ g178) u174000 x174000_3) := ⟨by rw [← hq_]; exact (by (with_reducible repeat (first | apply Kd.V_alloc | apply Kd.V_drewN | apply Kd.V_drew)); exact HO_174000.out)⟩; have n1_ : Aside0 (wr.heap[gb173]? = some (.cells #[u174000, errW x174001_3, .int .i64 x174002_3, .bool x174003_3] 31 (0, 0))) := ⟨by rw [← hq_]; exact (kb BK173)⟩; have n2_ : Aside0 (IsS49 w0 wr g178 t174 x179001_3 x179002_3 x179003_3) := ⟨by rw [← hq_]; exact (IsS49.k HI178)⟩; have n3_ : Aside0 (Below w0.heap.size w0 wr) := ⟨by rw [← hq_]; exact (IsS49.kl HB)⟩; clear HO_174000 BK173 HI178 HB hq_; have HO_174000 := n0_; have BK173 := n1_; have HI178 := n2_; have HB := n3_; clear n0_ n1_ n2_ n3_))))
          (try simp only [Act.put, List.setIfInBounds_toArray, List.set_cons_zero, List.set_cons_succ])
          go_cut [14, 15] (fun v14 v15 wc => ∃ (kq : Nat) (x14_24 : Bool) (x15_24 : Bool) (x174000_24 : List (S75)) (x174001_24 : Option Int) (x174002_24 : Int) (x174003_24 : Bool) (x179001_24 : Int) (x179002_24 : Int) (x179003_24 : Bool) (u174000 : Value), v14 = .bool x14_24 ∧ v15 = .bool x15_24 ∧ Aside0 (gaiterlaw17_CursorPlays.j3 kq l2 t162 x13_3 x14_24 x15_24 x174000_24 x174001_24 x174002_24 x174003_24 t174 x179001_24 x179002_24 x179003_24 = some r) ∧ Aside0 (kq ≤ k3) ∧ Aside0 (Kd.V k75 75 wc w.heap.size (fun k_ => k_ ≠ gb173 ∧ k_ ≠ g178) u174000 x174000_24) ∧ Aside0 (wc.heap[gb173]? = some (.cells #[u174000, errW x174001_24, .int .i64 x174002_24, .bool x174003_24] 31 (0, 0))) ∧ Aside0 (IsS49 w0 wc g178 t174 x179001_24 x179002_24 x179003_24) ∧ Aside0 (Below w0.heap.size w0 wc))
          case first =>
           have H := HC25.out
           clear HC25
           by_cases c26 : t180 = 2
           ·rw [if_pos c26] at H
            have c26b0 : (t180 == 2) = true := beq_iff_eq.mpr c26
            have c26b1 : (t180 != 2) = false := bne_eq_false_iff_eq.mpr c26
            clear c26
            (first | rw [c26b0] | (simp only [i64_w, i32_w]; rw [c26b0]) | skip)
            replace H := Option.bind_eq_some_iff.mp H
            obtain ⟨⟨t182, t185, t186, t187, t188⟩, A270, H⟩ := H
            replace H : ((gaiterref09_Cursor_SeekTo.f k3 t174 x179001_3 x179002_3 x179003_3 ((rd_T36 l2 x13_3).f1)).bind fun bt190 => (gaiterlaw17_CursorPlays.j3 k3 l2 t162 x13_3 t188 bt190.1 t182 t185 t186 t187 t174 bt190.2.1 bt190.2.2.1 bt190.2.2.2)) = some r := H
            have A27 := Aside0.mk A270
            clear A270
            replace H := Option.bind_eq_some_iff.mp H
            obtain ⟨⟨t190, t191, t192, t193⟩, A280, H⟩ := H
            replace H : (gaiterlaw17_CursorPlays.j3 k3 l2 t162 x13_3 t188 t190 t182 t185 t186 t187 t174 t191 t192 t193) = some r := H
            have A28 := Aside0.mk A280
            clear A280
            have H' := Aside0.mk H
            clear H
            try go_wp2
            replace HO_174000 := Aside0.mk (Kd.V_drew HO_174000.out)
            replace BK173 := Aside0.mk (blk_drew BK173.out)
            replace HI178 := Aside0.mk (IsS49.drew HI178.out)
            replace HB := Aside0.mk (below_drew1 HB.out)
            have p181 : 0 ≤ (x13_3 : Int) := of_decide_eq_true (by first | (with_reducible assumption) | assumption)
            have q181 : x13_3 < (l2.length : Int) := of_decide_eq_true (by first | (with_reducible assumption) | assumption)
            obtain ⟨ad181, e181, hx181_0, hx181_1⟩ := at_T36 HR2.out x13_3 p181 q181
            have hw181_1 := hx181_1
            have hw181_0 := hx181_0
            obtain rfl : ad179 = ad181 := (by injection e181)
            replace hx181_0 := (HB.out.cell (World.block_lt_of_cell? w0 _ hx181_0)).trans hx181_0
            replace hx181_1 := (HB.out.cell (World.block_lt_of_cell? w0 _ hx181_1)).trans hx181_1
            replace p181 := eq_true p181
            (try (have q181s := q181; simp only [List.length_drop, List.length_take] at q181s; replace q181s := eq_true q181s)); replace q181 := eq_true q181
            obtain ⟨Ao30, co30, eo30⟩ := Kd.V_slice HO_174000.out
            (first | subst eo30 | (injection eo30 with f1_ f2_ f3_; have f4_ := f1_.symm; have f5_ := f3_.symm; clear f1_ f2_ f3_; subst f4_; subst f5_))
            refine start_ (n := 12) (S := fun w' => w'.cell? ⟨gb173, 0, none⟩ = some (.slice Ao30 x174000_3.length co30) ∧ w'.cell? ⟨gb173, 1, none⟩ = some (errW x174001_3) ∧ w'.cell? ⟨gb173, 2, none⟩ = some (.int .i64 x174002_3) ∧ w'.cell? ⟨gb173, 3, none⟩ = some (.bool x174003_3) ∧ w'.cell? (ad179.add ((x13_3).toNat * 2)) = some (.int .i64 ((rd_T36 l2 x13_3).f0)) ∧ w'.cell? ⟨(ad179.add ((x13_3).toNat * 2)).block, (ad179.add ((x13_3).toNat * 2)).off + 1, none⟩ = some (.int .i64 ((rd_T36 l2 x13_3).f1))) (ds := [10]) (bl 12 0) (by kernel_rfl) rfl rfl ⟨(blk_cell BK173.out 0).trans rfl, (blk_cell BK173.out 1).trans rfl, (blk_cell BK173.out 2).trans rfl, (blk_cell BK173.out 3).trans rfl, ((HB.out.cell (World.block_lt_of_cell? w0 _ hw181_0)).trans hw181_0), ((HB.out.cell (World.block_lt_of_cell? w0 _ hw181_1)).trans hw181_1)⟩ (fun hHeld => ?_); refine with_tabW gaiterlaw17_CursorPlays.tab17 gaiterlaw17_CursorPlays.bits17 (fun HT_ HW_ => ?_)
            generalize wr.drew = w29 at HO_174000 BK173 HI178 HB hx181_0 hx181_1 hHeld ⊢
            refine pu 1 (some 59) (bl 12 2) (h := ?_)
            refine pu 2 (some 60) (bl 12 6) (h := ?_)
            refine pu 3 (some 61) (bl 12 14) (h := ?_)
            refine pu 4 (some 62) (bl 12 30) (h := ?_)
            refine ta 0 (some 58) (bl 12 31) (h := ?_)
            refine ta 5 (some 63) (bl 12 63) (h := ?_)
            refine one_ (i := 6) (N := some 64) #[true, true, true, true, true, true, true, false, false, false, false, false] rfl rfl (one_of HT_.out (by kernel_rfl)) (by decide) (fun K hK => ?_)
            refine goes_ Try.func12 (by kernel_rfl) rfl #[.agg #[.slice Ao30 x174000_3.length co30, errW x174001_3, .int .i64 x174002_3, .bool x174003_3], .int .i64 ((rd_T36 l2 x13_3).f1)] (by rfl) rfl rfl km ?_
            with_reducible refine (cursor_Seek.calls k3 (fun k_ => (k_ ≠ gb173 ∧ k_ ≠ g178)) _ _ x174000_3 x174001_3 x174002_3 x174003_3 ((rd_T36 l2 x13_3).f1) t182 t185 t186 t187 t188 _ ?side1 A27.out).mono ?_
            (case side1 => exact HO_174000.out)
            rintro e w31 ⟨v183, rfl, ho0, hb⟩
            refine ⟨_, rfl, ?_⟩
            replace HO_174000 := Aside0.mk (Kd.V_below (by (with_reducible repeat (first | apply Kd.V_alloc | apply Kd.V_drewN | apply Kd.V_drew)); exact HO_174000.out) hb)
            have HO184 := Aside0.mk (Kd.V_lower (Kd.V_mono (ok' := fun k_ => k_ ≠ gb173 ∧ k_ ≠ g178) ho0 (fun k_ hk_ => ⟨Or.elim hk_ (fun hs_ => hs_.1) (fun hn_ => (Kd.freshB (g := gb173) (o := .cells #[.slice Ao30 x174000_3.length co30, errW x174001_3, .int .i64 x174002_3, .bool x174003_3] 31 (0, 0)) (kb BK173) k_ hn_)), Or.elim hk_ (fun hs_ => hs_.2) (fun hn_ => (IsS49.fresh (IsS49.k HI178) k_ hn_))⟩)) (below_size (below_step HBW.out (IsS49.kl HB))))
            replace BK173 := kB BK173 hb
            replace HB := Aside0.mk (below_step (IsS49.kl HB) hb)
            replace HI178 := Aside0.mk (IsS49.below (IsS49.k HI178) hb)
            (try clear hb)
            (try clear hb2)
            (try clear hk)
            (try clear hi)
            (try clear hgw)
            (try clear ho0)
            (try simp only [errW_none, errW_some])
            obtain ⟨Ao32, co32, eo32⟩ := Kd.V_slice HO184.out
            (first | subst eo32 | (injection eo32 with f1_ f2_ f3_; have f4_ := f1_.symm; have f5_ := f3_.symm; clear f1_ f2_ f3_; subst f4_; subst f5_))
            refine hK.out _ _ ⟨(blk_cell BK173.out 0).trans rfl, (blk_cell BK173.out 1).trans rfl, (blk_cell BK173.out 2).trans rfl, (blk_cell BK173.out 3).trans rfl, ((HB.out.cell (World.block_lt_of_cell? w0 _ hw181_0)).trans hw181_0), ((HB.out.cell (World.block_lt_of_cell? w0 _ hw181_1)).trans hw181_1)⟩ (fun hHeld => ?_)
            clear hK K
            refine norm_ (a' := ?_) ?_ ?_
            rotate_left
            ·show Act.put _ (some 64) _ = _
             simp only [Act.put, List.setIfInBounds_toArray, List.set_cons_zero, List.set_cons_succ, i64_w, i32_w]
             rfl
            refine pu 7 (some 57) (bl 12 255) (h := ?_)
            refine pu 8 (some 65) (bl 12 511) (h := ?_)
            refine pu 9 (some 66) (bl 12 1023) (h := ?_)
            refine last_ (i := 10) (N := none) #[true, true, true, true, true, true, true, true, true, true, true, false] rfl rfl (one_of HT_.out (by kernel_rfl)) (by decide) (fun K hK => ?_)
            have hs33 : w31.cell? ⟨gb173, 0, none⟩ = some (.slice Ao30 x174000_3.length co30) := (blk_cell BK173.out 0).trans rfl
            have hfs33 := blk_frozen BK173.out 0
            have hs34 : w31.cell? ⟨gb173, 1, none⟩ = some (errW x174001_3) := (blk_cell BK173.out 1).trans rfl
            have hfs34 := blk_frozen BK173.out 1
            have hs35 : w31.cell? ⟨gb173, 2, none⟩ = some (.int .i64 x174002_3) := (blk_cell BK173.out 2).trans rfl
            have hfs35 := blk_frozen BK173.out 2
            have hs36 : w31.cell? ⟨gb173, 3, none⟩ = some (.bool x174003_3) := (blk_cell BK173.out 3).trans rfl
            have hfs36 := blk_frozen BK173.out 3
            refine skip_ (w1 := ?_) (by rfl) rfl ?_ ?_
            rotate_left
            ·go_simp
             rfl
            refine hK.out _ _ ?_
            clear hK K
            refine pu 11 (some 14) (bl 12 4095) (h := ?_)
            refine done_ (done_of HT_.out (by kernel_rfl)) ?_
            have p189 : 0 ≤ (x13_3 : Int) := of_decide_eq_true (by first | (with_reducible assumption) | assumption)
            have q189 : x13_3 < (l2.length : Int) := of_decide_eq_true (by first | (with_reducible assumption) | assumption)
            obtain ⟨ad189, e189, hx189_0, hx189_1⟩ := at_T36 HR2.out x13_3 p189 q189
            obtain rfl : ad179 = ad189 := (by injection e189)
            have hn189_0 : ad179.block ≠ gb173 := Nat.ne_of_lt (Nat.lt_of_lt_of_le (by have := World.block_lt_of_cell? _ _ hx189_0; first | rwa [add_block] at this | exact this) GE173.out)
            have hn189_1 : ad179.block ≠ gb173 := Nat.ne_of_lt (Nat.lt_of_lt_of_le (by have := World.block_lt_of_cell? _ _ hx189_0; first | rwa [add_block] at this | exact this) GE173.out)
            have hn189_2 : ad179.block ≠ gb173 := Nat.ne_of_lt (Nat.lt_of_lt_of_le (by have := World.block_lt_of_cell? _ _ hx189_0; first | rwa [add_block] at this | exact this) GE173.out)
            have hn189_3 : ad179.block ≠ gb173 := Nat.ne_of_lt (Nat.lt_of_lt_of_le (by have := World.block_lt_of_cell? _ _ hx189_0; first | rwa [add_block] at this | exact this) GE173.out)
            replace hx189_0 := (HB.out.cell (World.block_lt_of_cell? w0 _ hx189_0)).trans hx189_0
            replace hx189_1 := (HB.out.cell (World.block_lt_of_cell? w0 _ hx189_1)).trans hx189_1
            replace hx189_0 := (cell_far (p := ⟨gb173, 0, none⟩) (ab_ hn189_0) (.slice Ao32 t182.length co32)).trans hx189_0
            replace hx189_1 := (cell_far (p := ⟨gb173, 0, none⟩) (ab_ hn189_0) (.slice Ao32 t182.length co32)).trans hx189_1
            replace hx189_0 := (cell_far (p := ⟨gb173, 1, none⟩) (ab_ hn189_1) (errW t185)).trans hx189_0
            replace hx189_1 := (cell_far (p := ⟨gb173, 1, none⟩) (ab_ hn189_1) (errW t185)).trans hx189_1
            replace hx189_0 := (cell_far (p := ⟨gb173, 2, none⟩) (ab_ hn189_2) (.int .i64 t186)).trans hx189_0
            replace hx189_1 := (cell_far (p := ⟨gb173, 2, none⟩) (ab_ hn189_2) (.int .i64 t186)).trans hx189_1
            replace hx189_0 := (cell_far (p := ⟨gb173, 3, none⟩) (ab_ hn189_3) (.bool t187)).trans hx189_0
            replace hx189_1 := (cell_far (p := ⟨gb173, 3, none⟩) (ab_ hn189_3) (.bool t187)).trans hx189_1
            clear hn189_0
            clear hn189_1
            clear hn189_2
            clear hn189_3
            replace p189 := eq_true p189
            (try (have q189s := q189; simp only [List.length_drop, List.length_take] at q189s; replace q189s := eq_true q189s)); replace q189 := eq_true q189
            try go_wp2_with (first | ((with_reducible refine gate_callee (f := 13) rfl ?_); refine goesL_ (some 73) rfl rfl Try.func13 (by kernel_rfl) rfl #[.pointer (some ⟨g178, 0, none⟩), .int .i64 ((rd_T36 l2 x13_3).f1)] rfl km ?_; (with_reducible refine (gaiterref09_Cursor_SeekTo.calls k3 g178 t174 x179001_3 x179002_3 x179003_3 ((rd_T36 l2 x13_3).f1) t190 t191 t192 t193 w0 _ ?side1 ?side2 A28.out).mono ?_); (case side1 => repeat (first | (with_reducible first | exact HI178.out | apply IsS49.alloc | apply IsS49.drewN | apply IsS49.drew | apply IsS49.set_1 | apply IsS49.set_2 | apply IsS49.set_3 | refine IsS49.far ?_ NB178_173.out _) | exact HI178.out)); (case side2 => repeat (first | (with_reducible first | exact HB.out | apply below_alloc | apply pw_below_drewN | apply below_drew1 | refine below_set ?_ (IsS49.ge HI178.out) | refine below_set ?_ GE173.out) | exact HB.out)); rintro e w37 ⟨rfl, hi, hb, hk⟩; refine ⟨_, rfl, ?_⟩; replace HO_174000 := Aside0.mk (Kd.V_mono (Kd.V_keep (Kd.V_mono (ok := fun k_ => (k_ ≠ gb173 ∧ k_ ≠ g178)) (by (with_reducible repeat (first | apply Kd.V_alloc | apply Kd.V_drewN | apply Kd.V_drew)); exact (Kd.V_mono (Kd.V_far (p := ⟨gb173, 3, none⟩) (Kd.V_far (p := ⟨gb173, 2, none⟩) (Kd.V_far (p := ⟨gb173, 1, none⟩) (Kd.V_far (p := ⟨gb173, 0, none⟩) (Kd.V_mono HO_174000.out (fun k_ hk => (⟨hk, hk.1⟩ : _ ∧ k_ ≠ gb173))) (fun _ hk => hk.2) (.slice Ao32 t182.length co32)) (fun _ hk => hk.2) (errW t185)) (fun _ hk => hk.2) (.int .i64 t186)) (fun _ hk => hk.2) (.bool t187)) (fun _ h_ => h_.1))) (fun k_ hk_ => (⟨hk_, hk_.2⟩ : _ ∧ k_ ≠ g178))) hk (fun _ h => h.2)) (fun _ h => h.1)); replace BK173 := Aside0.mk (KeepBut.blk hk (g' := gb173) (o := .cells #[.slice Ao32 t182.length co32, errW t185, .int .i64 t186, .bool t187] 31 (0, 0)) (kb BK173) NB173_178.out (by simp)); replace HO184 := Aside0.mk (Kd.V_mono (Kd.V_keep (Kd.V_mono (ok := fun k_ => (k_ ≠ gb173 ∧ k_ ≠ g178)) (by (with_reducible repeat (first | apply Kd.V_alloc | apply Kd.V_drewN | apply Kd.V_drew)); exact (Kd.V_mono (Kd.V_far (p := ⟨gb173, 3, none⟩) (Kd.V_far (p := ⟨gb173, 2, none⟩) (Kd.V_far (p := ⟨gb173, 1, none⟩) (Kd.V_far (p := ⟨gb173, 0, none⟩) (Kd.V_mono HO184.out (fun k_ hk => (⟨hk, hk.1⟩ : _ ∧ k_ ≠ gb173))) (fun _ hk => hk.2) (.slice Ao32 t182.length co32)) (fun _ hk => hk.2) (errW t185)) (fun _ hk => hk.2) (.int .i64 t186)) (fun _ hk => hk.2) (.bool t187)) (fun _ h_ => h_.1))) (fun k_ hk_ => (⟨hk_, hk_.2⟩ : _ ∧ k_ ≠ g178))) hk (fun _ h => h.2)) (fun _ h => h.1)); replace HB := Aside0.mk (hb); replace HI178 := Aside0.mk (hi); (try clear hb); (try clear hb2); (try clear hk); (try clear hi); (try clear hgw)))
            go_meet
            case rel => exact ⟨_, (t188), (t190), (t182), (t185), (t186), (t187), (t191), (t192), (t193), (.slice Ao32 t182.length co32), (by first | rfl | (simp; done) | (simp [*]; done)), (by first | rfl | (simp; done) | (simp [*]; done)), H', ⟨by have := HJ4.out; have := HJ10.out; have := HK3.out; first | omega | exact Nat.le_refl _⟩, ⟨by (with_reducible repeat (first | apply Kd.V_alloc | apply Kd.V_drewN | apply Kd.V_drew)); exact HO184.out⟩, ⟨kb BK173⟩, ⟨(IsS49.k HI178)⟩, ⟨(IsS49.kl HB)⟩⟩
           ·rw [if_neg c26] at H
            have c26b0 : (t180 == 2) = false := beq_eq_false_iff_ne.mpr c26
            have c26b1 : (t180 != 2) = true := bne_iff_ne.mpr c26
            (first | rw [c26b0] | (simp only [i64_w, i32_w]; rw [c26b0]) | skip)
            replace H := Option.bind_eq_some_iff.mp H
            obtain ⟨⟨t194, t197, t198, t199, t200⟩, A380, H⟩ := H
            replace H : ((gaiterref09_Cursor_Next.f t174 x179001_3 x179002_3 x179003_3).bind fun bt201 => (gaiterlaw17_CursorPlays.j3 k3 l2 t162 x13_3 t200 bt201.1 t194 t197 t198 t199 t174 bt201.2.1 bt201.2.2.1 bt201.2.2.2)) = some r := H
            have A38 := Aside0.mk A380
            clear A380
            replace H := Option.bind_eq_some_iff.mp H
            obtain ⟨⟨t201, t202, t203, t204⟩, A390, H⟩ := H
            replace H : (gaiterlaw17_CursorPlays.j3 k3 l2 t162 x13_3 t200 t201 t194 t197 t198 t199 t174 t202 t203 t204) = some r := H
            have A39 := Aside0.mk A390
            clear A390
            have H' := Aside0.mk H
            clear H
            have hnb40 := NB173_178.out
            have hnc40 := NB178_173.out
            obtain ⟨hcz41_0, hcz41_1, hcz41_2, hcz41_3⟩ := kc4 BK173
            obtain ⟨hfz41_0, hfz41_1, hfz41_2, hfz41_3⟩ := kf4 BK173
            obtain ⟨Ao42, co42, eo42⟩ := Kd.V_slice HO_174000.out
            subst eo42
            go_wp2_with (first | (go_at_call 14; refine calls_of_args (args' := #[.agg #[.slice Ao42 x174000_3.length co42, errW x174001_3, .int .i64 x174002_3, .bool x174003_3]]) (by first | rfl | (simp only [errW_none, errW_some]; rfl)) ?_; (with_reducible refine (cursor_Next.calls (fun k_ => (k_ ≠ gb173 ∧ k_ ≠ g178)) _ _ x174000_3 x174001_3 x174002_3 x174003_3 t194 t197 t198 t199 t200 _ ?side1 A38.out).mono ?_); (case side1 => exact HO_174000.out); rintro e w43 ⟨v195, rfl, ho0, hb⟩; replace HO_174000 := Aside0.mk (Kd.V_below (by (with_reducible repeat (first | apply Kd.V_alloc | apply Kd.V_drewN | apply Kd.V_drew)); exact HO_174000.out) hb); have HO196 := Aside0.mk (Kd.V_lower (Kd.V_mono (ok' := fun k_ => k_ ≠ gb173 ∧ k_ ≠ g178) ho0 (fun k_ hk_ => ⟨Or.elim hk_ (fun hs_ => hs_.1) (fun hn_ => (Kd.freshB (g := gb173) (o := .cells #[.slice Ao42 x174000_3.length co42, errW x174001_3, .int .i64 x174002_3, .bool x174003_3] 31 (0, 0)) (kb BK173) k_ hn_)), Or.elim hk_ (fun hs_ => hs_.2) (fun hn_ => (IsS49.fresh (IsS49.k HI178) k_ hn_))⟩)) (below_size (below_step HBW.out (IsS49.kl HB)))); replace BK173 := kB BK173 hb; replace HB := Aside0.mk (below_step (IsS49.kl HB) hb); replace HI178 := Aside0.mk (IsS49.below (IsS49.k HI178) hb); (try clear hb); (try clear hb2); (try clear hk); (try clear hi); (try clear hgw); (try clear ho0); (try simp only [errW_none, errW_some]); obtain ⟨Ao44, co44, eo44⟩ := Kd.V_slice HO196.out; subst eo44; have hcz45_0 : w43.cell? ⟨gb173, 0, none⟩ = some (.slice Ao42 x174000_3.length co42) := (blk_cell BK173.out 0).trans rfl; have hcz45_1 : w43.cell? ⟨gb173, 1, none⟩ = some (errW x174001_3) := (blk_cell BK173.out 1).trans rfl; have hcz45_2 : w43.cell? ⟨gb173, 2, none⟩ = some (.int .i64 x174002_3) := (blk_cell BK173.out 2).trans rfl; have hcz45_3 : w43.cell? ⟨gb173, 3, none⟩ = some (.bool x174003_3) := (blk_cell BK173.out 3).trans rfl; have hfz45_0 := blk_frozen BK173.out 0; have hfz45_1 := blk_frozen BK173.out 1; have hfz45_2 := blk_frozen BK173.out 2; have hfz45_3 := blk_frozen BK173.out 3) | ((with_reducible refine gate_callee (f := 15) rfl ?_); refine goesL_ (some 80) rfl rfl Try.func15 (by kernel_rfl) rfl #[.pointer (some ⟨g178, 0, none⟩)] rfl km ?_; (with_reducible refine (gaiterref09_Cursor_Next.calls g178 t174 x179001_3 x179002_3 x179003_3 t201 t202 t203 t204 w0 _ ?side1 ?side2 A39.out).mono ?_); (case side1 => repeat (first | (with_reducible first | exact HI178.out | apply IsS49.alloc | apply IsS49.drewN | apply IsS49.drew | apply IsS49.set_1 | apply IsS49.set_2 | apply IsS49.set_3 | refine IsS49.far ?_ NB178_173.out _) | exact HI178.out)); (case side2 => repeat (first | (with_reducible first | exact HB.out | apply below_alloc | apply pw_below_drewN | apply below_drew1 | refine below_set ?_ (IsS49.ge HI178.out) | refine below_set ?_ GE173.out) | exact HB.out)); rintro e w46 ⟨rfl, hi, hb, hk⟩; refine ⟨_, rfl, ?_⟩; replace HO_174000 := Aside0.mk (Kd.V_mono (Kd.V_keep (Kd.V_mono (ok := fun k_ => (k_ ≠ gb173 ∧ k_ ≠ g178)) (by (with_reducible repeat (first | apply Kd.V_alloc | apply Kd.V_drewN | apply Kd.V_drew)); exact (Kd.V_mono (Kd.V_far (p := ⟨gb173, 3, none⟩) (Kd.V_far (p := ⟨gb173, 2, none⟩) (Kd.V_far (p := ⟨gb173, 1, none⟩) (Kd.V_far (p := ⟨gb173, 0, none⟩) (Kd.V_mono HO_174000.out (fun k_ hk => (⟨hk, hk.1⟩ : _ ∧ k_ ≠ gb173))) (fun _ hk => hk.2) (.slice Ao44 t194.length co44)) (fun _ hk => hk.2) (errW t197)) (fun _ hk => hk.2) (.int .i64 t198)) (fun _ hk => hk.2) (.bool t199)) (fun _ h_ => h_.1))) (fun k_ hk_ => (⟨hk_, hk_.2⟩ : _ ∧ k_ ≠ g178))) hk (fun _ h => h.2)) (fun _ h => h.1)); replace BK173 := Aside0.mk (KeepBut.blk hk (g' := gb173) (o := .cells #[.slice Ao44 t194.length co44, errW t197, .int .i64 t198, .bool t199] 31 (0, 0)) (kb BK173) NB173_178.out (by simp)); replace HO196 := Aside0.mk (Kd.V_mono (Kd.V_keep (Kd.V_mono (ok := fun k_ => (k_ ≠ gb173 ∧ k_ ≠ g178)) (by (with_reducible repeat (first | apply Kd.V_alloc | apply Kd.V_drewN | apply Kd.V_drew)); exact (Kd.V_mono (Kd.V_far (p := ⟨gb173, 3, none⟩) (Kd.V_far (p := ⟨gb173, 2, none⟩) (Kd.V_far (p := ⟨gb173, 1, none⟩) (Kd.V_far (p := ⟨gb173, 0, none⟩) (Kd.V_mono HO196.out (fun k_ hk => (⟨hk, hk.1⟩ : _ ∧ k_ ≠ gb173))) (fun _ hk => hk.2) (.slice Ao44 t194.length co44)) (fun _ hk => hk.2) (errW t197)) (fun _ hk => hk.2) (.int .i64 t198)) (fun _ hk => hk.2) (.bool t199)) (fun _ h_ => h_.1))) (fun k_ hk_ => (⟨hk_, hk_.2⟩ : _ ∧ k_ ≠ g178))) hk (fun _ h => h.2)) (fun _ h => h.1)); replace HB := Aside0.mk (hb); replace HI178 := Aside0.mk (hi); (try clear hb); (try clear hb2); (try clear hk); (try clear hi); (try clear hgw)))
            go_meet
            case rel => exact ⟨_, (t200), (t201), (t194), (t197), (t198), (t199), (t202), (t203), (t204), (.slice Ao44 t194.length co44), (by first | rfl | (simp; done) | (simp [*]; done)), (by first | rfl | (simp; done) | (simp [*]; done)), H', ⟨by have := HJ4.out; have := HJ10.out; have := HK3.out; first | omega | exact Nat.le_refl _⟩, ⟨by (with_reducible repeat (first | apply Kd.V_alloc | apply Kd.V_drewN | apply Kd.V_drew)); exact HO196.out⟩, ⟨kb BK173⟩, ⟨(IsS49.k HI178)⟩, ⟨(IsS49.kl HB)⟩⟩
          case rest =>
           clear HC25
           try clear c1
           try clear p1
           try clear q1
           try clear hx1
           try clear c2
           try clear p2
           try clear c3
           try clear c4
           try clear c7
           try clear c7b0
           try clear c7b1
           try clear c8
           try clear c9
           try clear c11
           try clear c12
           try clear c13
           try clear c13b0
           try clear c15
           try clear p17
           try clear q17
           try clear hx17
           try clear p18
           try clear q18
           try clear hx18
           try clear c22
           try clear c22b0
           try clear c23
           try clear c23b0
           try clear c26
           try clear c26b0
           try clear c26b1
           try clear c40
           try clear hcz20_0
           try clear hcz20_1
           try clear hcz20_2
           try clear hcz20_3
           try clear hcz41_0
           try clear hcz41_1
           try clear hcz41_2
           try clear hcz41_3
           try clear hcz45_0
           try clear hcz45_1
           try clear hcz45_2
           try clear hcz45_3
           try clear hfz20_0
           try clear hfz20_1
           try clear hfz20_2
           try clear hfz20_3
           try clear hfz41_0
           try clear hfz41_1
           try clear hfz41_2
           try clear hfz41_3
           try clear hfz45_0
           try clear hfz45_1
           try clear hfz45_2
           try clear hfz45_3
           try clear hx179_0
           try clear hx179_1
           try clear hx181_0
           try clear hx181_1
           try clear hx189_0
           try clear hx189_1
           try clear p179
           try clear p181
           try clear p189
           try clear p2
           try clear q179
           try clear q181
           try clear q189
           (try clear HO_174000)
           (try clear BK173)
           (try clear HI178)
           (try clear HB)
           obtain ⟨kq, x14_24, x15_24, x174000_24, x174001_24, x174002_24, x174003_24, x179001_24, x179002_24, x179003_24, u174000, rfl, rfl, HA, HJ24, HO_174000, BK173, HI178, HB⟩ := hcut
           cases kq with
           | zero => exact absurd HA.out (by simp [gaiterlaw17_CursorPlays.j3])
           | succ kj24 =>
            have H := HA.out
            clear HA
            simp only [gaiterlaw17_CursorPlays.j3] at H
            replace H := Option.bind_eq_some_iff.mp H
            obtain ⟨⟨t205, t206⟩, A470, H⟩ := H
            replace H : ((gaiterref09_Cursor_Look.f t174 x179001_24 x179002_24 x179003_24).bind fun bt207 => (if (x14_24 != x15_24) = true then (none) else (if t205 = bt207.1 then (if t206 = bt207.2.1 then ((cursor_Err.f x174000_24 x174001_24 x174002_24 x174003_24).bind fun t212 => ((gaiterlaw00_Code.f t212).bind fun t213 => ((gaiterref09_Cursor_Err.f t174 bt207.2.2.1 bt207.2.2.2.1 bt207.2.2.2.2).bind fun bt214 => (if t213 = bt214.1 then (if x174002_24 = bt214.2.2.1 then (if (x174003_24 != bt214.2.2.2) = true then (none) else (gaiterlaw17_CursorPlays.l0 kj24 l2 t162 (wrap64 (x13_3 + 1)) x174000_24 x174001_24 x174002_24 x174003_24 t174 bt214.2.1 bt214.2.2.1 bt214.2.2.2)) else (none)) else (none))))) else (none)) else (none)))) = some r := H
            have A47 := Aside0.mk A470
            clear A470
            replace H := Option.bind_eq_some_iff.mp H
            obtain ⟨⟨t207, t208, t209, t210, t211⟩, A480, H⟩ := H
            replace H : (if (x14_24 != x15_24) = true then (none) else (if t205 = t207 then (if t206 = t208 then ((cursor_Err.f x174000_24 x174001_24 x174002_24 x174003_24).bind fun t212 => ((gaiterlaw00_Code.f t212).bind fun t213 => ((gaiterref09_Cursor_Err.f t174 t209 t210 t211).bind fun bt214 => (if t213 = bt214.1 then (if x174002_24 = bt214.2.2.1 then (if (x174003_24 != bt214.2.2.2) = true then (none) else (gaiterlaw17_CursorPlays.l0 kj24 l2 t162 (wrap64 (x13_3 + 1)) x174000_24 x174001_24 x174002_24 x174003_24 t174 bt214.2.1 bt214.2.2.1 bt214.2.2.2)) else (none)) else (none))))) else (none)) else (none))) = some r := H
            have A48 := Aside0.mk A480
            clear A480
            by_cases c49 : (x14_24 != x15_24) = true
            ·rw [if_pos c49] at H
             have c49b0 : (x14_24 != x15_24) = true := c49
             (try (have c49b1 : decide (x14_24 = x15_24) = false := by simpa using c49))
             (try (have c49b2 : (x14_24 == x15_24) = false := by simpa using c49))
             (try (have c49b3 : ¬ (x14_24 = x15_24) := by simpa using c49))
             clear c49
             exact absurd H (by simp)
            ·rw [if_neg c49] at H
             have c49b0 : (x14_24 != x15_24) = false := by simpa using c49
             (try (have c49b1 : decide (x14_24 = x15_24) = true := by simpa using c49))
             (try (have c49b2 : (x14_24 == x15_24) = true := by simpa using c49))
             clear c49
             by_cases c50 : t205 = t207
             ·rw [if_pos c50] at H
              have c50b0 : (t205 == t207) = true := beq_iff_eq.mpr c50
              have c50b1 : (t205 != t207) = false := bne_eq_false_iff_eq.mpr c50
              clear c50
              by_cases c51 : t206 = t208
              ·rw [if_pos c51] at H
               have c51b0 : (t206 == t208) = true := beq_iff_eq.mpr c51
               have c51b1 : (t206 != t208) = false := bne_eq_false_iff_eq.mpr c51
               clear c51
               replace H := Option.bind_eq_some_iff.mp H
               obtain ⟨t212, A520, H⟩ := H
               replace H : ((gaiterlaw00_Code.f t212).bind fun t213 => ((gaiterref09_Cursor_Err.f t174 t209 t210 t211).bind fun bt214 => (if t213 = bt214.1 then (if x174002_24 = bt214.2.2.1 then (if (x174003_24 != bt214.2.2.2) = true then (none) else (gaiterlaw17_CursorPlays.l0 kj24 l2 t162 (wrap64 (x13_3 + 1)) x174000_24 x174001_24 x174002_24 x174003_24 t174 bt214.2.1 bt214.2.2.1 bt214.2.2.2)) else (none)) else (none)))) = some r := H
               have A52 := Aside0.mk A520
               clear A520
               replace H := Option.bind_eq_some_iff.mp H
               obtain ⟨t213, A530, H⟩ := H
               replace H : ((gaiterref09_Cursor_Err.f t174 t209 t210 t211).bind fun bt214 => (if t213 = bt214.1 then (if x174002_24 = bt214.2.2.1 then (if (x174003_24 != bt214.2.2.2) = true then (none) else (gaiterlaw17_CursorPlays.l0 kj24 l2 t162 (wrap64 (x13_3 + 1)) x174000_24 x174001_24 x174002_24 x174003_24 t174 bt214.2.1 bt214.2.2.1 bt214.2.2.2)) else (none)) else (none))) = some r := H
               have A53 := Aside0.mk A530
               clear A530
               replace H := Option.bind_eq_some_iff.mp H
               obtain ⟨⟨t214, t215, t216, t217⟩, A540, H⟩ := H
               replace H : (if t213 = t214 then (if x174002_24 = t216 then (if (x174003_24 != t217) = true then (none) else (gaiterlaw17_CursorPlays.l0 kj24 l2 t162 (wrap64 (x13_3 + 1)) x174000_24 x174001_24 x174002_24 x174003_24 t174 t215 t216 t217)) else (none)) else (none)) = some r := H
               have A54 := Aside0.mk A540
               clear A540
               by_cases c55 : t213 = t214
               ·rw [if_pos c55] at H
                have c55b0 : (t213 == t214) = true := beq_iff_eq.mpr c55
                have c55b1 : (t213 != t214) = false := bne_eq_false_iff_eq.mpr c55
                clear c55
                by_cases c56 : x174002_24 = t216
                ·rw [if_pos c56] at H
                 have c56b0 : (x174002_24 == t216) = true := beq_iff_eq.mpr c56
                 have c56b1 : (x174002_24 != t216) = false := bne_eq_false_iff_eq.mpr c56
                 clear c56
                 by_cases c57 : (x174003_24 != t217) = true
                 ·rw [if_pos c57] at H
                  exact absurd H (by simp)
                 ·rw [if_neg c57] at H
                  have c57b0 : (x174003_24 != t217) = false := by simpa using c57
                  (try (have c57b1 : decide (x174003_24 = t217) = true := by simpa using c57))
                  (try (have c57b2 : (x174003_24 == t217) = true := by simpa using c57))
                  clear c57
                  have H' := Aside0.mk H
                  clear H
                  have hnb58 := NB173_178.out
                  have hnc58 := NB178_173.out
                  obtain ⟨hcz59_0, hcz59_1, hcz59_2, hcz59_3⟩ := kc4 BK173
                  obtain ⟨hfz59_0, hfz59_1, hfz59_2, hfz59_3⟩ := kf4 BK173
                  obtain ⟨Ao60, co60, eo60⟩ := Kd.V_slice HO_174000.out
                  subst eo60
                  try go_wp2_with (first | (go_at_call 16; refine calls_of_args (args' := #[.agg #[.slice Ao60 x174000_24.length co60, errW x174001_24, .int .i64 x174002_24, .bool x174003_24]]) (by first | rfl | (simp only [errW_none, errW_some]; rfl)) ?_; (with_reducible refine (cursor_Look.calls _ _ x174000_24 x174001_24 x174002_24 x174003_24 t205 t206 _ ?side1 ?side2 A47.out).mono ?_); (case side1 => repeat (first | exact (Kd.V_reads' HO_174000.out).2.2 | (with_reducible refine Kd.C_alloc ?_ _) | (with_reducible refine Kd.C_drewN ?_ _) | (with_reducible refine Kd.C_drew ?_))); (case side2 => exact (Kd.V_reads' HO_174000.out).2.1); rintro e w61 ⟨rfl, hb⟩; replace HO_174000 := Aside0.mk (Kd.V_below (by (with_reducible repeat (first | apply Kd.V_alloc | apply Kd.V_drewN | apply Kd.V_drew)); exact HO_174000.out) hb); replace BK173 := kB BK173 hb; replace HB := Aside0.mk (below_step (IsS49.kl HB) hb); replace HI178 := Aside0.mk (IsS49.below (IsS49.k HI178) hb); (try clear hb); (try clear hb2); (try clear hk); (try clear hi); (try clear hgw)) | ((with_reducible refine gate_callee (f := 17) rfl ?_); refine goesL_ (some 88) rfl rfl Try.func17 (by kernel_rfl) rfl #[.pointer (some ⟨g178, 0, none⟩)] rfl km ?_; (with_reducible refine (gaiterref09_Cursor_Look.calls g178 t174 x179001_24 x179002_24 x179003_24 t207 t208 t209 t210 t211 w0 _ ?side1 ?side2 A48.out).mono ?_); (case side1 => repeat (first | (with_reducible first | exact HI178.out | apply IsS49.alloc | apply IsS49.drewN | apply IsS49.drew | apply IsS49.set_1 | apply IsS49.set_2 | apply IsS49.set_3 | refine IsS49.far ?_ NB178_173.out _) | exact HI178.out)); (case side2 => repeat (first | (with_reducible first | exact HB.out | apply below_alloc | apply pw_below_drewN | apply below_drew1 | refine below_set ?_ (IsS49.ge HI178.out) | refine below_set ?_ GE173.out) | exact HB.out)); rintro e w62 ⟨rfl, hi, hb, hk⟩; refine ⟨_, rfl, ?_⟩; replace HO_174000 := Aside0.mk (Kd.V_mono (Kd.V_keep (Kd.V_mono (ok := fun k_ => (k_ ≠ gb173 ∧ k_ ≠ g178)) (by (with_reducible repeat (first | apply Kd.V_alloc | apply Kd.V_drewN | apply Kd.V_drew)); exact HO_174000.out) (fun k_ hk_ => (⟨hk_, hk_.2⟩ : _ ∧ k_ ≠ g178))) hk (fun _ h => h.2)) (fun _ h => h.1)); replace BK173 := Aside0.mk (KeepBut.blk hk (g' := gb173) (o := .cells #[.slice Ao60 x174000_24.length co60, errW x174001_24, .int .i64 x174002_24, .bool x174003_24] 31 (0, 0)) (kb BK173) NB173_178.out (by simp)); replace HB := Aside0.mk (hb); replace HI178 := Aside0.mk (hi); (try clear hb); (try clear hb2); (try clear hk); (try clear hi); (try clear hgw)))
                  replace HO_174000 := Aside0.mk (Kd.V_drew HO_174000.out)
                  replace BK173 := Aside0.mk (blk_drew BK173.out)
                  replace HI178 := Aside0.mk (IsS49.drew HI178.out)
                  replace HB := Aside0.mk (below_drew1 HB.out)
                  refine start_ (n := 39) (S := fun w' => w'.cell? ⟨gb173, 0, none⟩ = some (.slice Ao60 x174000_24.length co60) ∧ w'.cell? ⟨gb173, 1, none⟩ = some (errW x174001_24) ∧ w'.cell? ⟨gb173, 2, none⟩ = some (.int .i64 x174002_24) ∧ w'.cell? ⟨gb173, 3, none⟩ = some (.bool x174003_24)) (ds := []) (bl 39 0) (by kernel_rfl) rfl rfl kz (fun hHeld => ?_); refine with_tabW gaiterlaw17_CursorPlays.tab23 gaiterlaw17_CursorPlays.bits23 (fun HT_ HW_ => ?_)
                  generalize w62.drew = w63 at HO_174000 BK173 HI178 HB hHeld ⊢
                  refine pu 0 (some 91) (bl 39 1) (h := ?_)
                  refine pu 1 (some 92) (bl 39 3) (h := ?_)
                  refine pu 2 (some 93) (bl 39 7) (h := ?_)
                  refine pu 3 (some 94) (bl 39 15) (h := ?_)
                  refine pu 4 (some 95) (bl 39 31) (h := ?_)
                  refine pu 5 (some 96) (bl 39 63) (h := ?_)
                  refine pu 6 (some 97) (bl 39 127) (h := ?_)
                  refine pu 7 (some 98) (bl 39 255) (h := ?_)
                  refine pu 8 (some 99) (bl 39 511) (h := ?_)
                  refine pu 9 (some 100) (bl 39 1023) (h := ?_)
                  refine pu 10 (some 101) (bl 39 2047) (h := ?_)
                  refine pu 11 (some 102) (bl 39 4095) (h := ?_)
                  refine pu 12 (some 103) (bl 39 8191) (h := ?_)
                  refine pu 13 (some 104) (bl 39 16383) (h := ?_)
                  refine pu 17 (some 108) (bl 39 147455) (h := ?_)
                  refine ta 14 (some 105) (bl 39 163839) (h := ?_)
                  refine one_ (i := 15) (N := some 106) #[true, true, true, true, true, true, true, true, true, true, true, true, true, true, true, true, false, true, false, false, false, false, false, false, false, false, false, false, false, false, false, false, false, false, false, false, false, false, false] rfl rfl (one_of HT_.out (by kernel_rfl)) (by decide) (fun K hK => ?_)
                  refine goes_ Try.func19 (by kernel_rfl) rfl #[.agg #[.slice Ao60 x174000_24.length co60, errW x174001_24, .int .i64 x174002_24, .bool x174003_24]] (by rfl) rfl rfl km ?_
                  with_reducible refine (cursor_Err.calls _ _ x174000_24 x174001_24 x174002_24 x174003_24 t212 _ ?side1 ?side2 A52.out).mono ?_
                  (case side1 => repeat (first | exact (Kd.V_reads' HO_174000.out).2.2 | (with_reducible refine Kd.C_alloc ?_ _) | (with_reducible refine Kd.C_drewN ?_ _) | (with_reducible refine Kd.C_drew ?_)))
                  (case side2 => exact (Kd.V_reads' HO_174000.out).2.1)
                  rintro e w64 ⟨rfl, hb⟩
                  refine ⟨_, rfl, ?_⟩
                  replace HO_174000 := Aside0.mk (Kd.V_below (by (with_reducible repeat (first | apply Kd.V_alloc | apply Kd.V_drewN | apply Kd.V_drew)); exact HO_174000.out) hb)
                  replace BK173 := kB BK173 hb
                  replace HB := Aside0.mk (below_step (IsS49.kl HB) hb)
                  replace HI178 := Aside0.mk (IsS49.below (IsS49.k HI178) hb)
                  (try clear hb)
                  (try clear hb2)
                  (try clear hk)
                  (try clear hi)
                  (try clear hgw)
                  (try simp only [errW_none, errW_some])
                  have CA53 := fun W => gaiterlaw00_Code.calls t212 t213 W A53.out
                  try simp only [errW_none, errW_some] at CA53
                  refine hK.out _ _ kz (fun hHeld => ?_)
                  clear hK K
                  refine norm_ (a' := ?_) ?_ ?_
                  rotate_left
                  ·show Act.put _ (some 106) _ = _
                   simp only [Act.put, List.setIfInBounds_toArray, List.set_cons_zero, List.set_cons_succ, i64_w, i32_w]
                   rfl
                  refine one_ (i := 16) (N := some 107) #[true, true, true, true, true, true, true, true, true, true, true, true, true, true, true, true, true, true, false, false, false, false, false, false, false, false, false, false, false, false, false, false, false, false, false, false, false, false, false] rfl rfl (one_of HT_.out (by kernel_rfl)) (by decide) (fun K hK => ?_)
                  refine goes_ Try.func18 (by kernel_rfl) rfl #[errW t212] (by rfl) rfl rfl km ?_
                  with_reducible refine (CA53 _).mono ?_
                  rintro e w' ⟨rfl, ⟨nd, rfl⟩⟩
                  refine ⟨_, rfl, ?_⟩
                  refine hK.out _ _ kz (fun hHeld => ?_)
                  clear hK K
                  refine norm_ (a' := ?_) ?_ ?_
                  rotate_left
                  ·show Act.put _ (some 107) _ = _
                   simp only [Act.put, List.setIfInBounds_toArray, List.set_cons_zero, List.set_cons_succ, i64_w, i32_w]
                   rfl
                  refine one_ (i := 18) (N := some 109) #[true, true, true, true, true, true, true, true, true, true, true, true, true, true, true, true, true, true, true, false, false, false, false, false, false, false, false, false, false, false, false, false, false, false, false, false, false, false, false] rfl rfl (one_of HT_.out (by kernel_rfl)) (by decide) (fun K hK => ?_)
                  refine goes_ Try.func20 (by kernel_rfl) rfl #[.pointer (some ⟨g178, 0, none⟩)] (by rfl) rfl rfl km ?_
                  with_reducible refine (gaiterref09_Cursor_Err.calls g178 t174 t209 t210 t211 t214 t215 t216 t217 w0 _ ?side1 ?side2 A54.out).mono ?_
                  (case side1 => repeat (first | (with_reducible first | exact HI178.out | apply IsS49.alloc | apply IsS49.drewN | apply IsS49.drew | apply IsS49.set_1 | apply IsS49.set_2 | apply IsS49.set_3 | refine IsS49.far ?_ NB178_173.out _) | exact HI178.out))
                  (case side2 => repeat (first | (with_reducible first | exact HB.out | apply below_alloc | apply pw_below_drewN | apply below_drew1 | refine below_set ?_ (IsS49.ge HI178.out) | refine below_set ?_ GE173.out) | exact HB.out))
                  rintro e w65 ⟨rfl, hi, hb, hk⟩
                  refine ⟨_, rfl, ?_⟩
                  replace HO_174000 := Aside0.mk (Kd.V_mono (Kd.V_keep (Kd.V_mono (ok := fun k_ => (k_ ≠ gb173 ∧ k_ ≠ g178)) (by (with_reducible repeat (first | apply Kd.V_alloc | apply Kd.V_drewN | apply Kd.V_drew)); exact HO_174000.out) (fun k_ hk_ => (⟨hk_, hk_.2⟩ : _ ∧ k_ ≠ g178))) hk (fun _ h => h.2)) (fun _ h => h.1))
                  replace BK173 := Aside0.mk (KeepBut.blk hk (g' := gb173) (o := .cells #[.slice Ao60 x174000_24.length co60, errW x174001_24, .int .i64 x174002_24, .bool x174003_24] 31 (0, 0)) (kb BK173) NB173_178.out (by simp))
                  replace HB := Aside0.mk (hb)
                  replace HI178 := Aside0.mk (hi)
                  (try clear hb)
                  (try clear hb2)
                  (try clear hk)
                  (try clear hi)
                  (try clear hgw)
                  refine hK.out _ _ kz (fun hHeld => ?_)
                  clear hK K
                  refine norm_ (a' := ?_) ?_ ?_
                  rotate_left
                  ·show Act.put _ (some 109) _ = _
                   simp only [Act.put, List.setIfInBounds_toArray, List.set_cons_zero, List.set_cons_succ, i64_w, i32_w]
                   rfl
                  refine pu 19 (some 110) (bl 39 1048575) (h := ?_)
                  refine pu 20 (some 111) (bl 39 2097151) (h := ?_)
                  refine pu 21 (some 112) (bl 39 4194303) (h := ?_)
                  refine pu 22 (some 113) (bl 39 8388607) (h := ?_)
                  refine pu 24 (some 115) (bl 39 25165823) (h := ?_)
                  refine pu 25 (some 116) (bl 39 58720255) (h := ?_)
                  refine pu 26 (some 117) (bl 39 125829119) (h := ?_)
                  refine ta 23 (some 114) (bl 39 134217727) (h := ?_)
                  refine one_ (i := 27) (N := some 118) #[true, true, true, true, true, true, true, true, true, true, true, true, true, true, true, true, true, true, true, true, true, true, true, true, true, true, true, true, false, false, false, false, false, false, false, false, false, false, false] rfl rfl (one_of HT_.out (by kernel_rfl)) (by decide) (fun K hK => ?_)
                  have hst66 := (show _ = _ from (Exists.elim HI178.out (fun _ h1_ => Exists.elim h1_ (fun _ h2_ => cellS49_2 h2_.1))))
                  refine value_ (w1 := ?_) (v := ?_) (by rfl) rfl ?_ ?_
                  rotate_left 2
                  ·go_simp
                   constructor
                   ·rfl
                   ·rfl
                  clear hst66
                  refine hK.out _ _ kz (fun hHeld => ?_)
                  clear hK K
                  refine norm_ (a' := ?_) ?_ ?_
                  rotate_left
                  ·show Act.put _ (some 118) _ = _
                   simp only [Act.put, List.setIfInBounds_toArray, List.set_cons_zero, List.set_cons_succ, i64_w, i32_w]
                   rfl
                  refine pu 28 (some 119) (bl 39 536870911) (h := ?_)
                  refine pu 29 (some 120) (bl 39 1073741823) (h := ?_)
                  refine pu 30 (some 121) (bl 39 2147483647) (h := ?_)
                  refine pu 31 (some 122) (bl 39 4294967295) (h := ?_)
                  refine pu 33 (some 124) (bl 39 12884901887) (h := ?_)
                  refine pu 34 (some 125) (bl 39 30064771071) (h := ?_)
                  refine pu 35 (some 126) (bl 39 64424509439) (h := ?_)
                  refine ta 32 (some 123) (bl 39 68719476735) (h := ?_)
                  refine one_ (i := 36) (N := some 127) #[true, true, true, true, true, true, true, true, true, true, true, true, true, true, true, true, true, true, true, true, true, true, true, true, true, true, true, true, true, true, true, true, true, true, true, true, true, false, false] rfl rfl (one_of HT_.out (by kernel_rfl)) (by decide) (fun K hK => ?_)
                  have hst67 := (show _ = _ from (Exists.elim HI178.out (fun _ h1_ => Exists.elim h1_ (fun _ h2_ => cellS49_3 h2_.1))))
                  refine value_ (w1 := ?_) (v := ?_) (by rfl) rfl ?_ ?_
                  rotate_left 2
                  ·go_simp
                   constructor
                   ·rfl
                   ·rfl
                  clear hst67
                  refine hK.out _ _ kz (fun hHeld => ?_)
                  clear hK K
                  refine norm_ (a' := ?_) ?_ ?_
                  rotate_left
                  ·show Act.put _ (some 127) _ = _
                   simp only [Act.put, List.setIfInBounds_toArray, List.set_cons_zero, List.set_cons_succ, i64_w, i32_w]
                   rfl
                  refine pu 37 (some 128) (bl 39 274877906943) (h := ?_)
                  refine pu 38 (some 129) (bl 39 549755813887) (h := ?_)
                  refine done_ (done_of HT_.out (by kernel_rfl)) ?_
                  try go_wp2
                  go_roundg kj24
                  case measure => have := HJ4.out; have := HJ10.out; have := HK3.out; have := HJ24.out; omega
                  case rel => exact ⟨(wrap64 (x13_3 + 1)), (x174000_24), (x174001_24), (x174002_24), (x174003_24), (t215), (t216), (t217), (.slice Ao60 x174000_24.length co60), (by first | rfl | (simp; done) | (simp [*]; done)), H', ⟨by have := HJ4.out; have := HJ10.out; have := HK3.out; have := HJ24.out; omega⟩, ⟨by (with_reducible repeat (first | apply Kd.V_alloc | apply Kd.V_drewN | apply Kd.V_drew)); exact HO_174000.out⟩, ⟨kb BK173⟩, ⟨(IsS49.k HI178)⟩, ⟨(IsS49.kl HB)⟩⟩
                ·rw [if_neg c56] at H
                 have c56b0 : (x174002_24 == t216) = false := beq_eq_false_iff_ne.mpr c56
                 have c56b1 : (x174002_24 != t216) = true := bne_iff_ne.mpr c56
                 exact absurd H (by simp)
               ·rw [if_neg c55] at H
                have c55b0 : (t213 == t214) = false := beq_eq_false_iff_ne.mpr c55
                have c55b1 : (t213 != t214) = true := bne_iff_ne.mpr c55
                exact absurd H (by simp)
              ·rw [if_neg c51] at H
               have c51b0 : (t206 == t208) = false := beq_eq_false_iff_ne.mpr c51
               have c51b1 : (t206 != t208) = true := bne_iff_ne.mpr c51
               exact absurd H (by simp)
             ·rw [if_neg c50] at H
              have c50b0 : (t205 == t207) = false := beq_eq_false_iff_ne.mpr c50
              have c50b1 : (t205 != t207) = true := bne_iff_ne.mpr c50
              exact absurd H (by simp)
         ·rw [if_neg c23] at H
          exact absurd H (by simp)
        ·rw [if_neg c22] at H
         have c22b0 : decide (x13_3 < (l2.length : Int)) = false := decide_eq_false c22
         clear c22
         obtain rfl := Option.some.inj H
         go_wp2
         go_ret
         exact ⟨by first | rfl | (simp [errW_none, errW_some] <;> rfl) | (simp [*, errW_none, errW_some] <;> rfl), below_step HBW.out (IsS49.kl HB)⟩

/-- THE ONE PURE STATEMENT of gaiterlaw17_CursorPlays: yours. -/
def gaiterlaw17_CursorPlays.Pure : Prop := ∀ (l0 : List (S75)) (a1 : Int) (l2 : List (S36)), l0.length ≤ maxLen → l0.length * 16 ≤ 140737488351232 → (∀ x ∈ l0, (Lit.int .i64 x.f0).wf = true ∧ (Lit.int .u64 x.f1).wf = true) → (Lit.int .i64 a1).wf = true → l2.length ≤ maxLen → l2.length * 16 ≤ 140737488351232 → (∀ x ∈ l2, (Lit.int .i64 x.f0).wf = true ∧ (Lit.int .i64 x.f1).wf = true) → ∃ k, gaiterlaw17_CursorPlays.f k l0 a1 l2 = some true
theorem gaiterlaw17_CursorPlays.walk (P : gaiterlaw17_CursorPlays.Pure) (a0 : Option Addr) (cap0 : Nat) (l0 : List (S75)) (a1 : Int) (a2 : Option Addr) (cap2 : Nat) (l2 : List (S36)) (w : World) (hr0 : Kd.C k75 w a0 l0.length l0) (hc0 : l0.length ≤ cap0) (hm0 : l0.length ≤ maxLen) (y0 : l0.length * 16 ≤ 140737488351232) (hw0 : ∀ x ∈ l0, (Lit.int .i64 x.f0).wf = true ∧ (Lit.int .u64 x.f1).wf = true) (w1 : (Lit.int .i64 a1).wf = true) (hr2 : Kd.C k36 w a2 l2.length l2) (hc2 : l2.length ≤ cap2) (hm2 : l2.length ≤ maxLen) (y2 : l2.length * 16 ≤ 140737488351232) (hw2 : ∀ x ∈ l2, (Lit.int .i64 x.f0).wf = true ∧ (Lit.int .i64 x.f1).wf = true) :
  Calls Try.prog 3 #[.slice a0 l0.length cap0, .int .i64 a1, .slice a2 l2.length cap2] w fun e w' => e = .returned (.bool true) ∧ Below w.heap.size w w' := by
 obtain ⟨k, h⟩ := P l0 a1 l2 hm0 y0 hw0 w1 hm2 y2 hw2
 refine (gaiterlaw17_CursorPlays.calls k _ _ l0 a1 _ _ l2 true w hr0 hc0 hr2 hc2 h).mono ?_
 rintro e w' ⟨rfl, hd⟩
 exact ⟨rfl, hd⟩

end Go.Proofs.Ytiahbcaoikoogaa.All
