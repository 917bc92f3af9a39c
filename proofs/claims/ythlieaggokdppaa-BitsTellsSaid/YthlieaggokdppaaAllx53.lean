-- written by a program of the session out of the translation; Lean checks it
import Derived.Test.YthlieaggokdppaaAllx0
import Derived.Test.YthlieaggokdppaaAllx41
import Derived.Test.YthlieaggokdppaaAllx45
import Derived.Test.YthlieaggokdppaaAllx47
import Derived.Test.YthlieaggokdppaaAllx48
import Derived.Test.YthlieaggokdppaaAllx50
import Derived.Test.YthlieaggokdppaaAllx51
import Derived.Test.YthlieaggokdppaaAllx52
import Derived.Test.YthlieaggokdppaaIs
namespace Go.Proofs.Ythlieaggokdppaa.All
open Go.RowKit Go.Proofs.YthlieaggokdppaaW.PrintWords Go.Proofs.YthlieaggokdppaaW.PrintLast Go.Proofs.YthlieaggokdppaaW.PrintMore
attribute [local go_sem] max2_int min2_int max_two min_two max_three min_three max_four min_four   -- for this text's walks alone
set_option linter.unusedVariables false
set_option linter.unusedSimpArgs false

/-! ### gaiterlaw01_BitsTells: function 13 -/
mutual
def gaiterlaw01_BitsTells.j0 : Nat → List Int → List Int → Int → Int → List Int → Int → Bool → Bool → Option (Bool)
  | 0, _, _, _, _, _, _, _, _ => none
  | k + 1, x0, x1, x2, x3, x4, x5, x13, x36 => if x36 = true then (some x13) else ((gaiterlaw00_Bits.f k x0).bind fun bt333 => ((gaiterlaw00_Bits.f k x1).bind fun bt338 => ((gaiterref01_Flat.f k bt333.1).bind fun t343 => (if 0 ≤ bt333.2 then (if bt333.2 ≤ (t343.length : Int) then ((some (t343.take (bt333.2 : Int).toNat : List Int)).bind fun y346 => ((some (([] : List Int) : List Int)).bind fun y350 => (if y350.length + y346.length < 140737488355328 then ((some (y350 ++ y346 : List Int)).bind fun y353 => ((gaiterref01_Flat.f k bt338.1).bind fun t356 => (if 0 ≤ bt338.2 then (if bt338.2 ≤ (t356.length : Int) then ((some (t356.take (bt338.2 : Int).toNat : List Int)).bind fun y359 => (if y353.length + y359.length < 140737488355328 then ((some (y353 ++ y359 : List Int)).bind fun y363 => ((some (([] : List Int) : List Int)).bind fun y366 => (if y366.length + y346.length < 140737488355328 then ((some (y366 ++ y346 : List Int)).bind fun y369 => (if x3 ≥ 0 then (gaiterlaw01_BitsTells.j1 k x2 x3 x4 x5 x13 y363 y369 (decide (x3 ≤ 64)) bt333.1 bt333.2 bt338.1 bt338.2) else (gaiterlaw01_BitsTells.j1 k x2 x3 x4 x5 x13 y363 y369 false bt333.1 bt333.2 bt338.1 bt338.2))) else (none)))) else (none))) else (none)) else (none)))) else (none)))) else (none)) else (none)))))
def gaiterlaw01_BitsTells.j1 : Nat → Int → Int → List Int → Int → Bool → List Int → List Int → Bool → List Int → Int → List Int → Int → Option (Bool)
  | 0, _, _, _, _, _, _, _, _, _, _, _, _ => none
  | k + 1, x2, x3, x4, x5, x13, x17, x18, x66, x338000, x338001, x343000, x343001 => if x66 = true then ((gaiterref01_Low.f k x2 x3).bind fun t372 => (if x18.length + t372.length < 140737488355328 then (gaiterlaw01_BitsTells.j2 k x2 x3 x4 x5 x13 x17 (x18 ++ t372) x338000 x338001 x343000 x343001) else (none))) else (gaiterlaw01_BitsTells.j2 k x2 x3 x4 x5 x13 x17 x18 x338000 x338001 x343000 x343001)
def gaiterlaw01_BitsTells.j2 : Nat → Int → Int → List Int → Int → Bool → List Int → List Int → List Int → Int → List Int → Int → Option (Bool)
  | 0, _, _, _, _, _, _, _, _, _, _, _ => none
  | k + 1, x2, x3, x4, x5, x13, x17, x18, x338000, x338001, x343000, x343001 => (bits_Take.f k x4 x5 x3).bind fun bt378 => ((gaiterref01_Take.f k x4 x5 x3).bind fun bt380 => (if x13 = true then ((bits_Put.f k x338000 x338001 x2 x3).bind fun bt382 => ((gaiterlaw00_Is.f k bt382.1 bt382.2 x18).bind fun t386 => (if t386 = 1 then ((bits_Join.f k x338000 x338001 x343000 x343001).bind fun bt387 => ((gaiterlaw00_Is.f k bt387.1 bt387.2 x17).bind fun t391 => (if t391 = 1 then (if bt378.1 = bt380.1 then (some (bt378.2 == bt380.2)) else (some false)) else (some false)))) else (some false)))) else (some false)))
end
def gaiterlaw01_BitsTells.f (k : Nat) (l0 : List Int) (l1 : List Int) (a2 : Int) (a3 : Int) (l4 : List Int) (a5 : Int) : Option (Bool) := (gaiterlaw01_up.f k).bind fun t332 => (if (l0.length : Int) > 500 then (gaiterlaw01_BitsTells.j0 k l0 l1 a2 a3 l4 a5 t332 true) else (if (l1.length : Int) > 500 then (gaiterlaw01_BitsTells.j0 k l0 l1 a2 a3 l4 a5 t332 true) else (gaiterlaw01_BitsTells.j0 k l0 l1 a2 a3 l4 a5 t332 (decide ((l4.length : Int) > 500)))))
theorem gaiterlaw01_BitsTells.mono_l : ∀ k, (∀ y0 y1 y2 y3 y4 y5 y6 y7, LeO (gaiterlaw01_BitsTells.j0 k y0 y1 y2 y3 y4 y5 y6 y7) (gaiterlaw01_BitsTells.j0 (k + 1) y0 y1 y2 y3 y4 y5 y6 y7)) ∧ (∀ y0 y1 y2 y3 y4 y5 y6 y7 y8 y9 y10 y11, LeO (gaiterlaw01_BitsTells.j1 k y0 y1 y2 y3 y4 y5 y6 y7 y8 y9 y10 y11) (gaiterlaw01_BitsTells.j1 (k + 1) y0 y1 y2 y3 y4 y5 y6 y7 y8 y9 y10 y11)) ∧ (∀ y0 y1 y2 y3 y4 y5 y6 y7 y8 y9 y10, LeO (gaiterlaw01_BitsTells.j2 k y0 y1 y2 y3 y4 y5 y6 y7 y8 y9 y10) (gaiterlaw01_BitsTells.j2 (k + 1) y0 y1 y2 y3 y4 y5 y6 y7 y8 y9 y10))
  | 0 => ⟨fun _ _ _ _ _ _ _ _ r h => by simp [gaiterlaw01_BitsTells.j0] at h, fun _ _ _ _ _ _ _ _ _ _ _ _ r h => by simp [gaiterlaw01_BitsTells.j1] at h, fun _ _ _ _ _ _ _ _ _ _ _ r h => by simp [gaiterlaw01_BitsTells.j2] at h⟩
  | k + 1 => by
    obtain ⟨ih0, ih1, ih2⟩ := gaiterlaw01_BitsTells.mono_l k
    refine ⟨?_, ?_, ?_⟩
    · intro y0 y1 y2 y3 y4 y5 y6 y7
      unfold gaiterlaw01_BitsTells.j0
      repeat' first
      | (with_reducible exact ih0 _ _ _ _ _ _ _ _)
      | (with_reducible exact ih1 _ _ _ _ _ _ _ _ _ _ _ _)
      | (with_reducible exact ih2 _ _ _ _ _ _ _ _ _ _ _)
      | (with_reducible exact bits_Join.mono _ _ _ _ _)
      | (with_reducible exact bits_Put.mono _ _ _ _ _)
      | (with_reducible exact bits_Take.mono _ _ _ _)
      | (with_reducible exact gaiterlaw00_Bits.mono _ _)
      | (with_reducible exact gaiterlaw00_Is.mono _ _ _ _)
      | (with_reducible exact gaiterlaw01_up.mono _)
      | (with_reducible exact gaiterref01_Flat.mono _ _)
      | (with_reducible exact gaiterref01_Low.mono _ _ _)
      | (with_reducible exact gaiterref01_Take.mono _ _ _ _)
      | (with_reducible exact LeO.refl _)
      | (with_reducible exact LeO.none _)
      | (with_reducible refine LeO.ite ?_ ?_)
      | (with_reducible refine LeO.bind ?_ (fun _ => ?_))
      | exact ih0 _ _ _ _ _ _ _ _
      | exact ih1 _ _ _ _ _ _ _ _ _ _ _ _
      | exact ih2 _ _ _ _ _ _ _ _ _ _ _
      | exact bits_Join.mono _ _ _ _ _
      | exact bits_Put.mono _ _ _ _ _
      | exact bits_Take.mono _ _ _ _
      | exact gaiterlaw00_Bits.mono _ _
      | exact gaiterlaw00_Is.mono _ _ _ _
      | exact gaiterlaw01_up.mono _
      | exact gaiterref01_Flat.mono _ _
      | exact gaiterref01_Low.mono _ _ _
      | exact gaiterref01_Take.mono _ _ _ _
      | exact LeO.none _
      | refine LeO.ite ?_ ?_
      | refine LeO.bind ?_ (fun _ => ?_)
    · intro y0 y1 y2 y3 y4 y5 y6 y7 y8 y9 y10 y11
      unfold gaiterlaw01_BitsTells.j1
      repeat' first
      | (with_reducible exact ih0 _ _ _ _ _ _ _ _)
      | (with_reducible exact ih1 _ _ _ _ _ _ _ _ _ _ _ _)
      | (with_reducible exact ih2 _ _ _ _ _ _ _ _ _ _ _)
      | (with_reducible exact bits_Join.mono _ _ _ _ _)
      | (with_reducible exact bits_Put.mono _ _ _ _ _)
      | (with_reducible exact bits_Take.mono _ _ _ _)
      | (with_reducible exact gaiterlaw00_Bits.mono _ _)
      | (with_reducible exact gaiterlaw00_Is.mono _ _ _ _)
      | (with_reducible exact gaiterlaw01_up.mono _)
      | (with_reducible exact gaiterref01_Flat.mono _ _)
      | (with_reducible exact gaiterref01_Low.mono _ _ _)
      | (with_reducible exact gaiterref01_Take.mono _ _ _ _)
      | (with_reducible exact LeO.refl _)
      | (with_reducible exact LeO.none _)
      | (with_reducible refine LeO.ite ?_ ?_)
      | (with_reducible refine LeO.bind ?_ (fun _ => ?_))
      | exact ih0 _ _ _ _ _ _ _ _
      | exact ih1 _ _ _ _ _ _ _ _ _ _ _ _
      | exact ih2 _ _ _ _ _ _ _ _ _ _ _
      | exact bits_Join.mono _ _ _ _ _
      | exact bits_Put.mono _ _ _ _ _
      | exact bits_Take.mono _ _ _ _
      | exact gaiterlaw00_Bits.mono _ _
      | exact gaiterlaw00_Is.mono _ _ _ _
      | exact gaiterlaw01_up.mono _
      | exact gaiterref01_Flat.mono _ _
      | exact gaiterref01_Low.mono _ _ _
      | exact gaiterref01_Take.mono _ _ _ _
      | exact LeO.none _
      | refine LeO.ite ?_ ?_
      | refine LeO.bind ?_ (fun _ => ?_)
    · intro y0 y1 y2 y3 y4 y5 y6 y7 y8 y9 y10
      unfold gaiterlaw01_BitsTells.j2
      repeat' first
      | (with_reducible exact ih0 _ _ _ _ _ _ _ _)
      | (with_reducible exact ih1 _ _ _ _ _ _ _ _ _ _ _ _)
      | (with_reducible exact ih2 _ _ _ _ _ _ _ _ _ _ _)
      | (with_reducible exact bits_Join.mono _ _ _ _ _)
      | (with_reducible exact bits_Put.mono _ _ _ _ _)
      | (with_reducible exact bits_Take.mono _ _ _ _)
      | (with_reducible exact gaiterlaw00_Bits.mono _ _)
      | (with_reducible exact gaiterlaw00_Is.mono _ _ _ _)
      | (with_reducible exact gaiterlaw01_up.mono _)
      | (with_reducible exact gaiterref01_Flat.mono _ _)
      | (with_reducible exact gaiterref01_Low.mono _ _ _)
      | (with_reducible exact gaiterref01_Take.mono _ _ _ _)
      | (with_reducible exact LeO.refl _)
      | (with_reducible exact LeO.none _)
      | (with_reducible refine LeO.ite ?_ ?_)
      | (with_reducible refine LeO.bind ?_ (fun _ => ?_))
      | exact ih0 _ _ _ _ _ _ _ _
      | exact ih1 _ _ _ _ _ _ _ _ _ _ _ _
      | exact ih2 _ _ _ _ _ _ _ _ _ _ _
      | exact bits_Join.mono _ _ _ _ _
      | exact bits_Put.mono _ _ _ _ _
      | exact bits_Take.mono _ _ _ _
      | exact gaiterlaw00_Bits.mono _ _
      | exact gaiterlaw00_Is.mono _ _ _ _
      | exact gaiterlaw01_up.mono _
      | exact gaiterref01_Flat.mono _ _
      | exact gaiterref01_Low.mono _ _ _
      | exact gaiterref01_Take.mono _ _ _ _
      | exact LeO.none _
      | refine LeO.ite ?_ ?_
      | refine LeO.bind ?_ (fun _ => ?_)
theorem gaiterlaw01_BitsTells.mono : ∀ a0 a1 a2 a3 a4 a5 k, LeO (gaiterlaw01_BitsTells.f k a0 a1 a2 a3 a4 a5) (gaiterlaw01_BitsTells.f (k + 1) a0 a1 a2 a3 a4 a5) := by
  intro a0 a1 a2 a3 a4 a5 k
  obtain ⟨ih0, ih1, ih2⟩ := gaiterlaw01_BitsTells.mono_l k
  unfold gaiterlaw01_BitsTells.f
  repeat' first
      | (with_reducible exact ih0 _ _ _ _ _ _ _ _)
      | (with_reducible exact ih1 _ _ _ _ _ _ _ _ _ _ _ _)
      | (with_reducible exact ih2 _ _ _ _ _ _ _ _ _ _ _)
      | (with_reducible exact bits_Join.mono _ _ _ _ _)
      | (with_reducible exact bits_Put.mono _ _ _ _ _)
      | (with_reducible exact bits_Take.mono _ _ _ _)
      | (with_reducible exact gaiterlaw00_Bits.mono _ _)
      | (with_reducible exact gaiterlaw00_Is.mono _ _ _ _)
      | (with_reducible exact gaiterlaw01_up.mono _)
      | (with_reducible exact gaiterref01_Flat.mono _ _)
      | (with_reducible exact gaiterref01_Low.mono _ _ _)
      | (with_reducible exact gaiterref01_Take.mono _ _ _ _)
      | (with_reducible exact LeO.refl _)
      | (with_reducible exact LeO.none _)
      | (with_reducible refine LeO.ite ?_ ?_)
      | (with_reducible refine LeO.bind ?_ (fun _ => ?_))
      | exact ih0 _ _ _ _ _ _ _ _
      | exact ih1 _ _ _ _ _ _ _ _ _ _ _ _
      | exact ih2 _ _ _ _ _ _ _ _ _ _ _
      | exact bits_Join.mono _ _ _ _ _
      | exact bits_Put.mono _ _ _ _ _
      | exact bits_Take.mono _ _ _ _
      | exact gaiterlaw00_Bits.mono _ _
      | exact gaiterlaw00_Is.mono _ _ _ _
      | exact gaiterlaw01_up.mono _
      | exact gaiterref01_Flat.mono _ _
      | exact gaiterref01_Low.mono _ _ _
      | exact gaiterref01_Take.mono _ _ _ _
      | exact LeO.none _
      | refine LeO.ite ?_ ?_
      | refine LeO.bind ?_ (fun _ => ?_)
def gaiterlaw01_BitsTells.T7 : Bool × List (List Nat × List Nat) := (true, [([], []), ([], []), ([0, 1], [0, 1]), ([], []), ([3], [3]), ([4, 2], [4]), ([], []), ([6], [6]), ([5, 7], [5, 7]), ([2, 8, 5], [2, 8]), ([9, 9, 0, 1, 2, 3, 4, 5, 6, 7, 8, 9], [9])])
def gaiterlaw01_BitsTells.B7 : List Nat := [0, 0, 3, 0, 8, 31, 0, 64, 255, 511, 1023]
theorem gaiterlaw01_BitsTells.tab7 : rtab .any (opsOf Try.f13 7) = gaiterlaw01_BitsTells.T7 := by kernel_rfl
theorem gaiterlaw01_BitsTells.bits7 : waitsOk gaiterlaw01_BitsTells.T7.2 gaiterlaw01_BitsTells.B7 = true := by kernel_rfl
set_option maxHeartbeats 8000000 in
set_option maxRecDepth 100000 in
theorem gaiterlaw01_BitsTells.calls (k : Nat) (A0 : Option Addr) (c0 : Nat) (l0 : List Int) (A1 : Option Addr) (c1 : Nat) (l1 : List Int) (a2 : Int) (a3 : Int) (A4 : Option Addr) (c4 : Nat) (l4 : List Int) (a5 : Int) (r : Bool) (w : World) (hr0 : Kd.C (Kd.int .u8) w A0 l0.length l0) (hc0 : l0.length ≤ c0) (hr1 : Kd.C (Kd.int .u8) w A1 l1.length l1) (hc1 : l1.length ≤ c1) (hr4 : Kd.C (Kd.int .u8) w A4 l4.length l4) (hc4 : l4.length ≤ c4) (h : gaiterlaw01_BitsTells.f k l0 l1 a2 a3 l4 a5 = some r) :
    Calls Try.prog 13 #[.slice A0 l0.length c0, .slice A1 l1.length c1, .int .u64 a2, .int .i64 a3, .slice A4 l4.length c4, .int .i64 a5] w fun e w' => e = .returned (.bool r) ∧ Below w.heap.size w w' := by
  have hu86 := Try.underlying86
  have HR0 := Aside0.mk hr0
  have HC0 := Aside0.mk hc0
  clear hr0 hc0
  have HR1 := Aside0.mk hr1
  have HC1 := Aside0.mk hc1
  clear hr1 hc1
  have HR4 := Aside0.mk hr4
  have HC4 := Aside0.mk hc4
  clear hr4 hc4
  have HB := Aside0.mk (Below.refl w.heap.size w)
  have H : ((gaiterlaw01_up.f k).bind fun t332 => (if (l0.length : Int) > 500 then (gaiterlaw01_BitsTells.j0 k l0 l1 a2 a3 l4 a5 t332 true) else (if (l1.length : Int) > 500 then (gaiterlaw01_BitsTells.j0 k l0 l1 a2 a3 l4 a5 t332 true) else (gaiterlaw01_BitsTells.j0 k l0 l1 a2 a3 l4 a5 t332 (decide ((l4.length : Int) > 500)))))) = some r := h
  clear h
  replace H := Option.bind_eq_some_iff.mp H
  obtain ⟨t332, A70, H⟩ := H
  replace H : (if (l0.length : Int) > 500 then (gaiterlaw01_BitsTells.j0 k l0 l1 a2 a3 l4 a5 t332 true) else (if (l1.length : Int) > 500 then (gaiterlaw01_BitsTells.j0 k l0 l1 a2 a3 l4 a5 t332 true) else (gaiterlaw01_BitsTells.j0 k l0 l1 a2 a3 l4 a5 t332 (decide ((l4.length : Int) > 500))))) = some r := H
  have A7 := Aside0.mk A70
  clear A70
  have HC8 := Aside0.mk H
  clear H
  go_enter Try.func13, Try.ntmps13
  go_upto_region 2 with (first | ((with_reducible refine gate_callee (f := 51) rfl ?_); refine goesL_ (some 23) rfl rfl Try.func51 (by kernel_rfl) rfl #[] rfl (by (try simp only [List.map_toArray, List.map_cons, List.map_nil]); first | done | rfl | (simp only [List.length_drop, List.length_take]; rfl)) ?_; (with_reducible refine (gaiterlaw01_up.calls k  t332 _ A7.out).mono ?_); rintro e w9 ⟨rfl, hb⟩; refine ⟨_, rfl, ?_⟩; have n0_ := Aside0.mk (below_step (by repeat (first | (with_reducible first | exact HB.out | apply below_alloc | apply pw_below_drewN | apply below_drew1) | exact HB.out)) hb); clear HB; have HB := n0_; clear n0_; (try clear hb); (try clear hb2); (try clear hk); (try clear hi)))
  (try simp only [Act.put, List.setIfInBounds_toArray, List.set_cons_zero, List.set_cons_succ])
  go_cut [36] (fun v36 wc => ∃ (kq : Nat) (x36_7 : Bool), v36 = .bool x36_7 ∧ Aside0 (gaiterlaw01_BitsTells.j0 kq l0 l1 a2 a3 l4 a5 t332 x36_7 = some r) ∧ Aside0 (kq ≤ k) ∧ Aside0 (Below w.heap.size w wc))
  case first =>
    have H := HC8.out
    clear HC8
    by_cases c10 : (l0.length : Int) > 500
    · rw [if_pos c10] at H
      have c10b0 : decide (500 < (l0.length : Int)) = true := decide_eq_true c10
      have c10b1 : decide (500 < l0.length) = true := decide_eq_true (by omega)
      clear c10
      (first | rw [c10b0] | (simp only [i64_w, i32_w]; rw [c10b0]) | skip)
      have H' := Aside0.mk H
      clear H
      go_wp2
      go_meet
      case rel => exact ⟨_, (true), (by first | rfl | (simp; done) | (simp [*]; done)), H', ⟨by first | omega | exact Nat.le_refl _⟩, ⟨by repeat (first | (with_reducible first | exact HB.out | apply below_alloc | apply pw_below_drewN | apply below_drew1) | exact HB.out)⟩⟩
    · rw [if_neg c10] at H
      have c10b0 : decide (500 < (l0.length : Int)) = false := decide_eq_false c10
      have c10b1 : decide (500 < l0.length) = false := decide_eq_false (by omega)
      clear c10
      (first | rw [c10b0] | (simp only [i64_w, i32_w]; rw [c10b0]) | skip)
      by_cases c11 : (l1.length : Int) > 500
      · rw [if_pos c11] at H
        have c11b0 : decide (500 < (l1.length : Int)) = true := decide_eq_true c11
        have c11b1 : decide (500 < l1.length) = true := decide_eq_true (by omega)
        clear c11
        have H' := Aside0.mk H
        clear H
        go_wp2
        go_meet
        case rel => exact ⟨_, (true), (by first | rfl | (simp; done) | (simp [*]; done)), H', ⟨by first | omega | exact Nat.le_refl _⟩, ⟨by repeat (first | (with_reducible first | exact HB.out | apply below_alloc | apply pw_below_drewN | apply below_drew1) | exact HB.out)⟩⟩
      · rw [if_neg c11] at H
        have c11b0 : decide (500 < (l1.length : Int)) = false := decide_eq_false c11
        have c11b1 : decide (500 < l1.length) = false := decide_eq_false (by omega)
        clear c11
        have H' := Aside0.mk H
        clear H
        go_wp2
        go_meet
        case rel => exact ⟨_, (decide ((l4.length : Int) > 500)), (by first | rfl | (simp; done) | (simp [*]; done)), H', ⟨by first | omega | exact Nat.le_refl _⟩, ⟨by repeat (first | (with_reducible first | exact HB.out | apply below_alloc | apply pw_below_drewN | apply below_drew1) | exact HB.out)⟩⟩
  case rest =>
    clear HC8
    try clear c1
    try clear p2
    try clear c4
    try clear c5
    try clear c10
    try clear c10b0
    try clear c10b1
    try clear c11
    try clear c11b0
    try clear c11b1
    obtain ⟨kq, x36_7, rfl, HA, HJ7, HB⟩ := hcut
    cases kq with
    | zero => exact absurd HA.out (by simp [gaiterlaw01_BitsTells.j0])
    | succ kj7 =>
      have H := HA.out
      clear HA
      simp only [gaiterlaw01_BitsTells.j0] at H
      by_cases c12 : x36_7 = true
      · subst c12
        have H1 : (some t332) = some r := by rw [if_pos rfl] at H; exact H
        clear H
        have H := H1
        clear H1
        obtain rfl := Option.some.inj H
        go_wp2
        go_ret
        exact ⟨by first | rfl | (simp [errW_none, errW_some] <;> rfl) | (simp [*, errW_none, errW_some] <;> rfl), by repeat (first | (with_reducible first | exact HB.out | apply below_alloc | apply pw_below_drewN | apply below_drew1) | exact HB.out)⟩
      · replace c12 := Bool.eq_false_iff.mpr c12
        subst c12
        have H1 : ((gaiterlaw00_Bits.f kj7 l0).bind fun bt333 => ((gaiterlaw00_Bits.f kj7 l1).bind fun bt338 => ((gaiterref01_Flat.f kj7 bt333.1).bind fun t343 => (if 0 ≤ bt333.2 then (if bt333.2 ≤ (t343.length : Int) then ((some (t343.take (bt333.2 : Int).toNat : List Int)).bind fun y346 => ((some (([] : List Int) : List Int)).bind fun y350 => (if y350.length + y346.length < 140737488355328 then ((some (y350 ++ y346 : List Int)).bind fun y353 => ((gaiterref01_Flat.f kj7 bt338.1).bind fun t356 => (if 0 ≤ bt338.2 then (if bt338.2 ≤ (t356.length : Int) then ((some (t356.take (bt338.2 : Int).toNat : List Int)).bind fun y359 => (if y353.length + y359.length < 140737488355328 then ((some (y353 ++ y359 : List Int)).bind fun y363 => ((some (([] : List Int) : List Int)).bind fun y366 => (if y366.length + y346.length < 140737488355328 then ((some (y366 ++ y346 : List Int)).bind fun y369 => (if a3 ≥ 0 then (gaiterlaw01_BitsTells.j1 kj7 a2 a3 l4 a5 t332 y363 y369 (decide (a3 ≤ 64)) bt333.1 bt333.2 bt338.1 bt338.2) else (gaiterlaw01_BitsTells.j1 kj7 a2 a3 l4 a5 t332 y363 y369 false bt333.1 bt333.2 bt338.1 bt338.2))) else (none)))) else (none))) else (none)) else (none)))) else (none)))) else (none)) else (none))))) = some r := by rw [if_neg (show ¬ (false = true) by decide)] at H; exact H
        clear H
        have H := H1
        clear H1
        replace H := Option.bind_eq_some_iff.mp H
        obtain ⟨⟨t333, t336⟩, A130, H⟩ := H
        replace H : ((gaiterlaw00_Bits.f kj7 l1).bind fun bt338 => ((gaiterref01_Flat.f kj7 t333).bind fun t343 => (if 0 ≤ t336 then (if t336 ≤ (t343.length : Int) then ((some (t343.take (t336 : Int).toNat : List Int)).bind fun y346 => ((some (([] : List Int) : List Int)).bind fun y350 => (if y350.length + y346.length < 140737488355328 then ((some (y350 ++ y346 : List Int)).bind fun y353 => ((gaiterref01_Flat.f kj7 bt338.1).bind fun t356 => (if 0 ≤ bt338.2 then (if bt338.2 ≤ (t356.length : Int) then ((some (t356.take (bt338.2 : Int).toNat : List Int)).bind fun y359 => (if y353.length + y359.length < 140737488355328 then ((some (y353 ++ y359 : List Int)).bind fun y363 => ((some (([] : List Int) : List Int)).bind fun y366 => (if y366.length + y346.length < 140737488355328 then ((some (y366 ++ y346 : List Int)).bind fun y369 => (if a3 ≥ 0 then (gaiterlaw01_BitsTells.j1 kj7 a2 a3 l4 a5 t332 y363 y369 (decide (a3 ≤ 64)) t333 t336 bt338.1 bt338.2) else (gaiterlaw01_BitsTells.j1 kj7 a2 a3 l4 a5 t332 y363 y369 false t333 t336 bt338.1 bt338.2))) else (none)))) else (none))) else (none)) else (none)))) else (none)))) else (none)) else (none)))) = some r := H
        have A13 := Aside0.mk A130
        clear A130
        replace H := Option.bind_eq_some_iff.mp H
        obtain ⟨⟨t338, t341⟩, A140, H⟩ := H
        replace H : ((gaiterref01_Flat.f kj7 t333).bind fun t343 => (if 0 ≤ t336 then (if t336 ≤ (t343.length : Int) then ((some (t343.take (t336 : Int).toNat : List Int)).bind fun y346 => ((some (([] : List Int) : List Int)).bind fun y350 => (if y350.length + y346.length < 140737488355328 then ((some (y350 ++ y346 : List Int)).bind fun y353 => ((gaiterref01_Flat.f kj7 t338).bind fun t356 => (if 0 ≤ t341 then (if t341 ≤ (t356.length : Int) then ((some (t356.take (t341 : Int).toNat : List Int)).bind fun y359 => (if y353.length + y359.length < 140737488355328 then ((some (y353 ++ y359 : List Int)).bind fun y363 => ((some (([] : List Int) : List Int)).bind fun y366 => (if y366.length + y346.length < 140737488355328 then ((some (y366 ++ y346 : List Int)).bind fun y369 => (if a3 ≥ 0 then (gaiterlaw01_BitsTells.j1 kj7 a2 a3 l4 a5 t332 y363 y369 (decide (a3 ≤ 64)) t333 t336 t338 t341) else (gaiterlaw01_BitsTells.j1 kj7 a2 a3 l4 a5 t332 y363 y369 false t333 t336 t338 t341))) else (none)))) else (none))) else (none)) else (none)))) else (none)))) else (none)) else (none))) = some r := H
        have A14 := Aside0.mk A140
        clear A140
        replace H := Option.bind_eq_some_iff.mp H
        obtain ⟨t343, A150, H⟩ := H
        replace H : (if 0 ≤ t336 then (if t336 ≤ (t343.length : Int) then ((some (t343.take (t336 : Int).toNat : List Int)).bind fun y346 => ((some (([] : List Int) : List Int)).bind fun y350 => (if y350.length + y346.length < 140737488355328 then ((some (y350 ++ y346 : List Int)).bind fun y353 => ((gaiterref01_Flat.f kj7 t338).bind fun t356 => (if 0 ≤ t341 then (if t341 ≤ (t356.length : Int) then ((some (t356.take (t341 : Int).toNat : List Int)).bind fun y359 => (if y353.length + y359.length < 140737488355328 then ((some (y353 ++ y359 : List Int)).bind fun y363 => ((some (([] : List Int) : List Int)).bind fun y366 => (if y366.length + y346.length < 140737488355328 then ((some (y366 ++ y346 : List Int)).bind fun y369 => (if a3 ≥ 0 then (gaiterlaw01_BitsTells.j1 kj7 a2 a3 l4 a5 t332 y363 y369 (decide (a3 ≤ 64)) t333 t336 t338 t341) else (gaiterlaw01_BitsTells.j1 kj7 a2 a3 l4 a5 t332 y363 y369 false t333 t336 t338 t341))) else (none)))) else (none))) else (none)) else (none)))) else (none)))) else (none)) else (none)) = some r := H
        have A15 := Aside0.mk A150
        clear A150
        by_cases c16 : 0 ≤ t336
        · rw [if_pos c16] at H
          have c16b0 := eq_true c16
          have c16b1 : decide (0 ≤ t336) = true := decide_eq_true c16
          clear c16
          by_cases c17 : t336 ≤ (t343.length : Int)
          · rw [if_pos c17] at H
            have c17b0 := eq_true c17
            have c17b1 : decide (t336 ≤ (t343.length : Int)) = true := decide_eq_true c17
            clear c17
            obtain ⟨y346, hy346⟩ : ∃ y_ : List Int, y_ = (t343.take (t336 : Int).toNat) := ⟨_, rfl⟩
            replace H : ((some (([] : List Int) : List Int)).bind fun y350 => (if y350.length + y346.length < 140737488355328 then ((some (y350 ++ y346 : List Int)).bind fun y353 => ((gaiterref01_Flat.f kj7 t338).bind fun t356 => (if 0 ≤ t341 then (if t341 ≤ (t356.length : Int) then ((some (t356.take (t341 : Int).toNat : List Int)).bind fun y359 => (if y353.length + y359.length < 140737488355328 then ((some (y353 ++ y359 : List Int)).bind fun y363 => ((some (([] : List Int) : List Int)).bind fun y366 => (if y366.length + y346.length < 140737488355328 then ((some (y366 ++ y346 : List Int)).bind fun y369 => (if a3 ≥ 0 then (gaiterlaw01_BitsTells.j1 kj7 a2 a3 l4 a5 t332 y363 y369 (decide (a3 ≤ 64)) t333 t336 t338 t341) else (gaiterlaw01_BitsTells.j1 kj7 a2 a3 l4 a5 t332 y363 y369 false t333 t336 t338 t341))) else (none)))) else (none))) else (none)) else (none)))) else (none))) = some r := by first | (rw [hy346]; with_reducible exact H) | (have H2_ := (Option.bind_some _ _).symm.trans H; rw [hy346]; with_reducible exact H2_) | (have H2_ := (Option.bind_some _ _).symm.trans H; with_reducible exact H2_) | with_reducible exact H | (rw [hy346]; exact H) | exact H
            have Ny346 := Aside0.mk hy346
            clear hy346
            obtain ⟨y350, hy350⟩ : ∃ y_ : List Int, y_ = (([] : List Int)) := ⟨_, rfl⟩
            replace H : (if y350.length + y346.length < 140737488355328 then ((some (y350 ++ y346 : List Int)).bind fun y353 => ((gaiterref01_Flat.f kj7 t338).bind fun t356 => (if 0 ≤ t341 then (if t341 ≤ (t356.length : Int) then ((some (t356.take (t341 : Int).toNat : List Int)).bind fun y359 => (if y353.length + y359.length < 140737488355328 then ((some (y353 ++ y359 : List Int)).bind fun y363 => ((some (([] : List Int) : List Int)).bind fun y366 => (if y366.length + y346.length < 140737488355328 then ((some (y366 ++ y346 : List Int)).bind fun y369 => (if a3 ≥ 0 then (gaiterlaw01_BitsTells.j1 kj7 a2 a3 l4 a5 t332 y363 y369 (decide (a3 ≤ 64)) t333 t336 t338 t341) else (gaiterlaw01_BitsTells.j1 kj7 a2 a3 l4 a5 t332 y363 y369 false t333 t336 t338 t341))) else (none)))) else (none))) else (none)) else (none)))) else (none)) = some r := by first | (rw [hy350]; with_reducible exact H) | (have H2_ := (Option.bind_some _ _).symm.trans H; rw [hy350]; with_reducible exact H2_) | (have H2_ := (Option.bind_some _ _).symm.trans H; with_reducible exact H2_) | with_reducible exact H | (rw [hy350]; exact H) | exact H
            have Ny350 := Aside0.mk hy350
            clear hy350
            by_cases c18 : y350.length + y346.length < 140737488355328
            · rw [if_pos c18] at H
              have LMc18 := Aside0.mk c18
              clear c18
              obtain ⟨y353, hy353⟩ : ∃ y_ : List Int, y_ = (y350 ++ y346) := ⟨_, rfl⟩
              replace H : ((gaiterref01_Flat.f kj7 t338).bind fun t356 => (if 0 ≤ t341 then (if t341 ≤ (t356.length : Int) then ((some (t356.take (t341 : Int).toNat : List Int)).bind fun y359 => (if y353.length + y359.length < 140737488355328 then ((some (y353 ++ y359 : List Int)).bind fun y363 => ((some (([] : List Int) : List Int)).bind fun y366 => (if y366.length + y346.length < 140737488355328 then ((some (y366 ++ y346 : List Int)).bind fun y369 => (if a3 ≥ 0 then (gaiterlaw01_BitsTells.j1 kj7 a2 a3 l4 a5 t332 y363 y369 (decide (a3 ≤ 64)) t333 t336 t338 t341) else (gaiterlaw01_BitsTells.j1 kj7 a2 a3 l4 a5 t332 y363 y369 false t333 t336 t338 t341))) else (none)))) else (none))) else (none)) else (none))) = some r := by first | (rw [hy353]; with_reducible exact H) | (have H2_ := (Option.bind_some _ _).symm.trans H; rw [hy353]; with_reducible exact H2_) | (have H2_ := (Option.bind_some _ _).symm.trans H; with_reducible exact H2_) | with_reducible exact H | (rw [hy353]; exact H) | exact H
              have Ny353 := Aside0.mk hy353
              clear hy353
              replace H := Option.bind_eq_some_iff.mp H
              obtain ⟨t356, A190, H⟩ := H
              replace H : (if 0 ≤ t341 then (if t341 ≤ (t356.length : Int) then ((some (t356.take (t341 : Int).toNat : List Int)).bind fun y359 => (if y353.length + y359.length < 140737488355328 then ((some (y353 ++ y359 : List Int)).bind fun y363 => ((some (([] : List Int) : List Int)).bind fun y366 => (if y366.length + y346.length < 140737488355328 then ((some (y366 ++ y346 : List Int)).bind fun y369 => (if a3 ≥ 0 then (gaiterlaw01_BitsTells.j1 kj7 a2 a3 l4 a5 t332 y363 y369 (decide (a3 ≤ 64)) t333 t336 t338 t341) else (gaiterlaw01_BitsTells.j1 kj7 a2 a3 l4 a5 t332 y363 y369 false t333 t336 t338 t341))) else (none)))) else (none))) else (none)) else (none)) = some r := H
              have A19 := Aside0.mk A190
              clear A190
              by_cases c20 : 0 ≤ t341
              · rw [if_pos c20] at H
                have c20b0 := eq_true c20
                have c20b1 : decide (0 ≤ t341) = true := decide_eq_true c20
                clear c20
                by_cases c21 : t341 ≤ (t356.length : Int)
                · rw [if_pos c21] at H
                  have c21b0 := eq_true c21
                  have c21b1 : decide (t341 ≤ (t356.length : Int)) = true := decide_eq_true c21
                  clear c21
                  obtain ⟨y359, hy359⟩ : ∃ y_ : List Int, y_ = (t356.take (t341 : Int).toNat) := ⟨_, rfl⟩
                  replace H : (if y353.length + y359.length < 140737488355328 then ((some (y353 ++ y359 : List Int)).bind fun y363 => ((some (([] : List Int) : List Int)).bind fun y366 => (if y366.length + y346.length < 140737488355328 then ((some (y366 ++ y346 : List Int)).bind fun y369 => (if a3 ≥ 0 then (gaiterlaw01_BitsTells.j1 kj7 a2 a3 l4 a5 t332 y363 y369 (decide (a3 ≤ 64)) t333 t336 t338 t341) else (gaiterlaw01_BitsTells.j1 kj7 a2 a3 l4 a5 t332 y363 y369 false t333 t336 t338 t341))) else (none)))) else (none)) = some r := by first | (rw [hy359]; with_reducible exact H) | (have H2_ := (Option.bind_some _ _).symm.trans H; rw [hy359]; with_reducible exact H2_) | (have H2_ := (Option.bind_some _ _).symm.trans H; with_reducible exact H2_) | with_reducible exact H | (rw [hy359]; exact H) | exact H
                  have Ny359 := Aside0.mk hy359
                  clear hy359
                  by_cases c22 : y353.length + y359.length < 140737488355328
                  · rw [if_pos c22] at H
                    have LMc22 := Aside0.mk c22
                    clear c22
                    obtain ⟨y363, hy363⟩ : ∃ y_ : List Int, y_ = (y353 ++ y359) := ⟨_, rfl⟩
                    replace H : ((some (([] : List Int) : List Int)).bind fun y366 => (if y366.length + y346.length < 140737488355328 then ((some (y366 ++ y346 : List Int)).bind fun y369 => (if a3 ≥ 0 then (gaiterlaw01_BitsTells.j1 kj7 a2 a3 l4 a5 t332 y363 y369 (decide (a3 ≤ 64)) t333 t336 t338 t341) else (gaiterlaw01_BitsTells.j1 kj7 a2 a3 l4 a5 t332 y363 y369 false t333 t336 t338 t341))) else (none))) = some r := by first | (rw [hy363]; with_reducible exact H) | (have H2_ := (Option.bind_some _ _).symm.trans H; rw [hy363]; with_reducible exact H2_) | (have H2_ := (Option.bind_some _ _).symm.trans H; with_reducible exact H2_) | with_reducible exact H | (rw [hy363]; exact H) | exact H
                    have Ny363 := Aside0.mk hy363
                    clear hy363
                    obtain ⟨y366, hy366⟩ : ∃ y_ : List Int, y_ = (([] : List Int)) := ⟨_, rfl⟩
                    replace H : (if y366.length + y346.length < 140737488355328 then ((some (y366 ++ y346 : List Int)).bind fun y369 => (if a3 ≥ 0 then (gaiterlaw01_BitsTells.j1 kj7 a2 a3 l4 a5 t332 y363 y369 (decide (a3 ≤ 64)) t333 t336 t338 t341) else (gaiterlaw01_BitsTells.j1 kj7 a2 a3 l4 a5 t332 y363 y369 false t333 t336 t338 t341))) else (none)) = some r := by first | (rw [hy366]; with_reducible exact H) | (have H2_ := (Option.bind_some _ _).symm.trans H; rw [hy366]; with_reducible exact H2_) | (have H2_ := (Option.bind_some _ _).symm.trans H; with_reducible exact H2_) | with_reducible exact H | (rw [hy366]; exact H) | exact H
                    have Ny366 := Aside0.mk hy366
                    clear hy366
                    by_cases c23 : y366.length + y346.length < 140737488355328
                    · rw [if_pos c23] at H
                      have LMc23 := Aside0.mk c23
                      clear c23
                      obtain ⟨y369, hy369⟩ : ∃ y_ : List Int, y_ = (y366 ++ y346) := ⟨_, rfl⟩
                      replace H : (if a3 ≥ 0 then (gaiterlaw01_BitsTells.j1 kj7 a2 a3 l4 a5 t332 y363 y369 (decide (a3 ≤ 64)) t333 t336 t338 t341) else (gaiterlaw01_BitsTells.j1 kj7 a2 a3 l4 a5 t332 y363 y369 false t333 t336 t338 t341)) = some r := by first | (rw [hy369]; with_reducible exact H) | (have H2_ := (Option.bind_some _ _).symm.trans H; rw [hy369]; with_reducible exact H2_) | (have H2_ := (Option.bind_some _ _).symm.trans H; with_reducible exact H2_) | with_reducible exact H | (rw [hy369]; exact H) | exact H
                      have Ny369 := Aside0.mk hy369
                      clear hy369
                      have HC24 := Aside0.mk H
                      clear H
                      try go_wp2_with (first | ((with_reducible refine gate_callee (f := 52) rfl ?_); refine goesL_ (some 39) rfl rfl Try.func52 (by kernel_rfl) rfl #[.slice A0 l0.length c0] rfl (by (try simp only [List.map_toArray, List.map_cons, List.map_nil]); first | done | rfl | (simp only [List.length_drop, List.length_take]; rfl)) ?_; (with_reducible refine (gaiterlaw00_Bits.calls kj7 _ _ l0 t333 t336 _ ?side1 ?side2 A13.out).mono ?_); (case side1 => repeat (first | exact (Kd.C_below HR0.out HB.out) | (with_reducible refine Kd.C_alloc ?_ _) | (with_reducible refine Kd.C_drewN ?_ _) | (with_reducible refine Kd.C_drew ?_))); (case side2 => exact HC0.out); rintro e w25 ⟨v334, rfl, ho0, hb⟩; refine ⟨_, rfl, ?_⟩; have n0_ := Aside0.mk (Kd.R_lower ho0 (below_size (by repeat (first | (with_reducible first | exact HB.out | apply below_alloc | apply pw_below_drewN | apply below_drew1) | exact HB.out)))); have n1_ := Aside0.mk (below_step (by repeat (first | (with_reducible first | exact HB.out | apply below_alloc | apply pw_below_drewN | apply below_drew1) | exact HB.out)) hb); clear HB; have HO335 := n0_; have HB := n1_; clear n0_ n1_; (try clear hb); (try clear hb2); (try clear hk); (try clear hi); (try clear ho0)) | ((with_reducible refine gate_dst (N := 14) rfl ?_); (try (refine gate_guard (by rfl) ?_; dsimp only)); refine box_event ?hg (N := 14) ?hd (cs := #[.slice none 0 0, .int .i64 0]) (t := 86) ?hr ?_; (case hd => rfl); (case hg => rfl); (case hr => first | (go_simp; done) | (go_simp; rfl)); intro gb337 hg w26 hbox hb; have n0_ := Aside0.mk (Kd.R_below (by (with_reducible repeat (first | apply Kd.R_alloc | apply Kd.R_drewN | apply Kd.R_drew)); exact HO335.out) hb); have n1_ := Aside0.mk (below_step (by repeat (first | (with_reducible first | exact HB.out | apply below_alloc | apply pw_below_drewN | apply below_drew1) | exact HB.out)) hb); have n2_ := Aside0.mk (hbox); have n3_ := Aside0.mk ((by rw [hg]; exact (below_size (by repeat (first | (with_reducible first | exact HB.out | apply below_alloc | apply pw_below_drewN | apply below_drew1) | exact HB.out))) : w.heap.size ≤ gb337)); have n4_ := Aside0.mk ((by rw [hg]; exact (below_size (by repeat (first | (with_reducible first | exact HB.out | apply below_alloc | apply pw_below_drewN | apply below_drew1) | exact HB.out))) : w.heap.size ≤ gb337)); clear HO335; clear HB; have HO335 := n0_; have HB := n1_; have BK337 := n2_; have GW337 := n3_; have GE337 := n4_; clear n0_ n1_ n2_ n3_ n4_; clear hb hbox hg; obtain ⟨Ao27, co27, eo27⟩ := Kd.R_slice HO335.out; subst eo27; have hcz28_0 : w26.cell? ⟨gb337, 0, none⟩ = some (.slice none 0 0) := (blk_cell BK337.out 0).trans rfl; have hcz28_1 : w26.cell? ⟨gb337, 1, none⟩ = some (.int .i64 0) := (blk_cell BK337.out 1).trans rfl; have hfz28_0 := blk_frozen BK337.out 0; have hfz28_1 := blk_frozen BK337.out 1) | ((with_reducible refine gate_callee (f := 52) rfl ?_); refine goesL_ (some 41) rfl rfl Try.func52 (by kernel_rfl) rfl #[.slice A1 l1.length c1] rfl (by (try simp only [List.map_toArray, List.map_cons, List.map_nil]); first | done | rfl | (simp only [List.length_drop, List.length_take]; rfl)) ?_; (with_reducible refine (gaiterlaw00_Bits.calls kj7 _ _ l1 t338 t341 _ ?side1 ?side2 A14.out).mono ?_); (case side1 => exact Kd.C_below HR1.out (by repeat (first | (with_reducible first | exact HB.out | apply below_alloc | apply pw_below_drewN | apply below_drew1 | refine below_set ?_ GE337.out) | exact HB.out))); (case side2 => exact HC1.out); rintro e w29 ⟨v339, rfl, ho0, hb⟩; refine ⟨_, rfl, ?_⟩; have n0_ := Aside0.mk (Kd.R_elder' (by (with_reducible repeat (first | apply Kd.R_alloc | apply Kd.R_drewN | apply Kd.R_drew)); exact (Kd.R_mono (Kd.R_far (p := ⟨gb337, 1, none⟩) (Kd.R_far (p := ⟨gb337, 0, none⟩) (Kd.R_types HO335.out BK337.out (by decide)) (fun _ hk => hk.2) (.slice Ao27 t333.length co27)) (fun _ hk => hk.2) (.int .i64 t336)) (fun _ h_ => h_.1))) (Kd.R_base ho0) hb); have n1_ := Aside0.mk (Kd.R_lower (Kd.R_new' ho0 (Kd.R_lt (by (with_reducible repeat (first | apply Kd.R_alloc | apply Kd.R_drewN | apply Kd.R_drew)); exact (Kd.R_mono (Kd.R_far (p := ⟨gb337, 1, none⟩) (Kd.R_far (p := ⟨gb337, 0, none⟩) (Kd.R_types HO335.out BK337.out (by decide)) (fun _ hk => hk.2) (.slice Ao27 t333.length co27)) (fun _ hk => hk.2) (.int .i64 t336)) (fun _ h_ => h_.1))))) (below_size (by repeat (first | (with_reducible first | exact HB.out | apply below_alloc | apply pw_below_drewN | apply below_drew1 | refine below_set ?_ GE337.out) | exact HB.out)))); have n2_ := Aside0.mk (blk_below (g := gb337) (o := .cells #[.slice Ao27 t333.length co27, .int .i64 t336] 86 (0, 0)) (by (with_reducible repeat (first | refine blk_drewN ?_ _ | refine blk_drew ?_ | refine blk_alloc ?_ _)); refine blk_put (cs := #[.slice Ao27 t333.length co27, .int .i64 0]) ?_ 1 _ rfl; (with_reducible repeat (first | refine blk_drewN ?_ _ | refine blk_drew ?_ | refine blk_alloc ?_ _)); refine blk_put (cs := #[.slice none 0 0, .int .i64 0]) ?_ 0 _ rfl; (with_reducible repeat (first | refine blk_drewN ?_ _ | refine blk_drew ?_ | refine blk_alloc ?_ _)); exact BK337.out) hb); have n3_ := Aside0.mk (below_step (by repeat (first | (with_reducible first | exact HB.out | apply below_alloc | apply pw_below_drewN | apply below_drew1 | refine below_set ?_ GE337.out) | exact HB.out)) hb); clear HO335; clear BK337; clear HB; have HO335 := n0_; have HO340 := n1_; have BK337 := n2_; have HB := n3_; clear n0_ n1_ n2_ n3_; (try clear hb); (try clear hb2); (try clear hk); (try clear hi); (try clear ho0)) | ((with_reducible refine gate_dst (N := 15) rfl ?_); (try (refine gate_guard (by rfl) ?_; dsimp only)); refine box_event ?hg (N := 15) ?hd (cs := #[.slice none 0 0, .int .i64 0]) (t := 86) ?hr ?_; (case hd => rfl); (case hg => rfl); (case hr => first | (go_simp; done) | (go_simp; rfl)); intro gb342 hg w30 hbox hb; have n0_ := Aside0.mk (Kd.R_below (by (with_reducible repeat (first | apply Kd.R_alloc | apply Kd.R_drewN | apply Kd.R_drew)); exact HO335.out) hb); have n1_ := Aside0.mk (Kd.R_below (by (with_reducible repeat (first | apply Kd.R_alloc | apply Kd.R_drewN | apply Kd.R_drew)); exact HO340.out) hb); have n2_ := Aside0.mk (blk_below (g := gb337) (o := .cells #[.slice Ao27 t333.length co27, .int .i64 t336] 86 (0, 0)) (by (with_reducible repeat (first | refine blk_drewN ?_ _ | refine blk_drew ?_ | refine blk_alloc ?_ _)); exact BK337.out) hb); have n3_ := Aside0.mk (below_step (by repeat (first | (with_reducible first | exact HB.out | apply below_alloc | apply pw_below_drewN | apply below_drew1 | refine below_set ?_ GE337.out) | exact HB.out)) hb); have n4_ := Aside0.mk (hbox); have n5_ := Aside0.mk ((by rw [hg]; exact (below_size (by repeat (first | (with_reducible first | exact HB.out | apply below_alloc | apply pw_below_drewN | apply below_drew1 | refine below_set ?_ GE337.out) | exact HB.out))) : w.heap.size ≤ gb342)); have n6_ := Aside0.mk ((by rw [hg]; exact (below_size (by repeat (first | (with_reducible first | exact HB.out | apply below_alloc | apply pw_below_drewN | apply below_drew1 | refine below_set ?_ GE337.out) | exact HB.out))) : w.heap.size ≤ gb342)); have n7_ := Aside0.mk ((by rw [hg]; exact Nat.ne_of_lt (blk_lt (g := gb337) (o := .cells #[.slice Ao27 t333.length co27, .int .i64 t336] 86 (0, 0)) (by (with_reducible repeat (first | refine blk_drewN ?_ _ | refine blk_drew ?_ | refine blk_alloc ?_ _)); exact BK337.out)) : gb337 ≠ gb342)); have n8_ := Aside0.mk ((by rw [hg]; exact Nat.ne_of_gt (blk_lt (g := gb337) (o := .cells #[.slice Ao27 t333.length co27, .int .i64 t336] 86 (0, 0)) (by (with_reducible repeat (first | refine blk_drewN ?_ _ | refine blk_drew ?_ | refine blk_alloc ?_ _)); exact BK337.out)) : gb342 ≠ gb337)); clear HO335; clear HO340; clear BK337; clear HB; have HO335 := n0_; have HO340 := n1_; have BK337 := n2_; have HB := n3_; have BK342 := n4_; have GW342 := n5_; have GE342 := n6_; have NB337_342 := n7_; have NB342_337 := n8_; clear n0_ n1_ n2_ n3_ n4_ n5_ n6_ n7_ n8_; clear hb hbox hg; obtain ⟨Ao31, co31, eo31⟩ := Kd.R_slice HO340.out; subst eo31; have hnb32 := NB342_337.out; have hnc32 := NB337_342.out; have hcz33_0 : w30.cell? ⟨gb342, 0, none⟩ = some (.slice none 0 0) := (blk_cell BK342.out 0).trans rfl; have hcz33_1 : w30.cell? ⟨gb342, 1, none⟩ = some (.int .i64 0) := (blk_cell BK342.out 1).trans rfl; have hfz33_0 := blk_frozen BK342.out 0; have hfz33_1 := blk_frozen BK342.out 1))
                      have n0_ : Aside0 (Kd.R (Kd.int .u8) 5 ((w30.setCell ⟨gb342, 0, none⟩ (.slice Ao31 t338.length co31)).setCell ⟨gb342, 1, none⟩ (.int .i64 t341)) w.heap.size (fun k_ => some k_ ≠ (.slice Ao31 t338.length co31 : Value).ownBlock) (.slice Ao27 t333.length co27) t333) := ⟨by (with_reducible repeat (first | apply Kd.R_alloc | apply Kd.R_drewN | apply Kd.R_drew)); exact Kd.R_mono (Kd.R_far (p := ⟨gb342, 1, none⟩) (Kd.R_far (p := ⟨gb342, 0, none⟩) (Kd.R_types HO335.out BK342.out (by decide)) (fun _ hk => hk.2) (.slice Ao31 t338.length co31)) (fun _ hk => hk.2) (.int .i64 t341)) (fun _ hk => hk.1.2)⟩
                      have n1_ : Aside0 (Kd.R (Kd.int .u8) 5 ((w30.setCell ⟨gb342, 0, none⟩ (.slice Ao31 t338.length co31)).setCell ⟨gb342, 1, none⟩ (.int .i64 t341)) w.heap.size (fun k_ => some k_ ≠ (.slice Ao27 t333.length co27 : Value).ownBlock) (.slice Ao31 t338.length co31) t338) := ⟨by (with_reducible repeat (first | apply Kd.R_alloc | apply Kd.R_drewN | apply Kd.R_drew)); exact Kd.R_mono (Kd.R_far (p := ⟨gb342, 1, none⟩) (Kd.R_far (p := ⟨gb342, 0, none⟩) (Kd.R_types HO340.out BK342.out (by decide)) (fun _ hk => hk.2) (.slice Ao31 t338.length co31)) (fun _ hk => hk.2) (.int .i64 t341)) (fun _ hk => hk.1.2)⟩
                      have n2_ : Aside0 (((w30.setCell ⟨gb342, 0, none⟩ (.slice Ao31 t338.length co31)).setCell ⟨gb342, 1, none⟩ (.int .i64 t341)).heap[gb337]? = some (.cells #[.slice Ao27 t333.length co27, .int .i64 t336] 86 (0, 0))) := ⟨by (with_reducible repeat (first | refine blk_drewN ?_ _ | refine blk_drew ?_ | refine blk_alloc ?_ _)); refine blk_far ?_ NB337_342.out _; (with_reducible repeat (first | refine blk_drewN ?_ _ | refine blk_drew ?_ | refine blk_alloc ?_ _)); refine blk_far ?_ NB337_342.out _; (with_reducible repeat (first | refine blk_drewN ?_ _ | refine blk_drew ?_ | refine blk_alloc ?_ _)); exact BK337.out⟩
                      have n3_ : Aside0 (((w30.setCell ⟨gb342, 0, none⟩ (.slice Ao31 t338.length co31)).setCell ⟨gb342, 1, none⟩ (.int .i64 t341)).heap[gb342]? = some (.cells #[.slice Ao31 t338.length co31, .int .i64 t341] 86 (0, 0))) := ⟨by (with_reducible repeat (first | refine blk_drewN ?_ _ | refine blk_drew ?_ | refine blk_alloc ?_ _)); refine blk_put (cs := #[.slice Ao31 t338.length co31, .int .i64 0]) ?_ 1 _ rfl; (with_reducible repeat (first | refine blk_drewN ?_ _ | refine blk_drew ?_ | refine blk_alloc ?_ _)); refine blk_put (cs := #[.slice none 0 0, .int .i64 0]) ?_ 0 _ rfl; (with_reducible repeat (first | refine blk_drewN ?_ _ | refine blk_drew ?_ | refine blk_alloc ?_ _)); exact BK342.out⟩
                      have n4_ : Aside0 (Below w.heap.size w ((w30.setCell ⟨gb342, 0, none⟩ (.slice Ao31 t338.length co31)).setCell ⟨gb342, 1, none⟩ (.int .i64 t341))) := ⟨by repeat (first | (with_reducible first | exact HB.out | apply below_alloc | apply pw_below_drewN | apply below_drew1 | refine below_set ?_ GE337.out | refine below_set ?_ GE342.out) | exact HB.out)⟩
                      (try clear HO335)
                      (try clear HO340)
                      (try clear BK337)
                      (try clear BK342)
                      (try clear HB)
                      generalize ((w30.setCell ⟨gb342, 0, none⟩ (.slice Ao31 t338.length co31)).setCell ⟨gb342, 1, none⟩ (.int .i64 t341)) = w34 at n0_ n1_ n2_ n3_ n4_ ⊢
                      have HO335 := n0_
                      have HO340 := n1_
                      have BK337 := n2_
                      have BK342 := n3_
                      have HB := n4_
                      clear n0_ n1_ n2_ n3_ n4_
                      have n0_ := Aside0.mk (Kd.R_drew HO335.out)
                      have n1_ := Aside0.mk (Kd.R_drew HO340.out)
                      have n2_ := Aside0.mk (blk_drew BK337.out)
                      have n3_ := Aside0.mk (blk_drew BK342.out)
                      have n4_ := Aside0.mk (below_drew1 HB.out)
                      clear HO335
                      clear HO340
                      clear BK337
                      clear BK342
                      clear HB
                      have HO335 := n0_
                      have HO340 := n1_
                      have BK337 := n2_
                      have BK342 := n3_
                      have HB := n4_
                      clear n0_ n1_ n2_ n3_ n4_
                      refine start_ (n := 7) (S := fun w' => w'.cell? ⟨gb337, 0, none⟩ = some (.slice Ao27 t333.length co27) ∧ w'.cell? ⟨gb337, 1, none⟩ = some (.int .i64 t336)) (ds := []) #[false, false, false, false, false, false, false] (by kernel_rfl) rfl rfl ⟨(blk_cell BK337.out 0).trans rfl, (blk_cell BK337.out 1).trans rfl⟩ (fun hHeld => ?_)
                      generalize w34.drew = w35 at HO335 HO340 BK337 BK342 HB hHeld ⊢
                      refine pure_ (i := 0) (N := some 42) (v := ?_) (a' := ?_) #[true, false, false, false, false, false, false] rfl rfl (by kernel_rfl) (fun _ _ _ h => h) (Or.inl ⟨by rfl, ?_⟩) ?_ ?_
                      rotate_left
                      · intro w'
                        go_simp
                        with_reducible rfl
                      rotate_left
                      · simp only [Act.put, List.setIfInBounds_toArray, List.set_cons_zero, List.set_cons_succ, i64_w, i32_w]
                        rfl
                      refine pure_ (i := 3) (N := some 45) (v := ?_) (a' := ?_) #[true, false, false, true, false, false, false] rfl rfl (by kernel_rfl) (fun _ _ _ h => h) (Or.inl ⟨by rfl, ?_⟩) ?_ ?_
                      rotate_left
                      · intro w'
                        go_simp
                        with_reducible rfl
                      rotate_left
                      · simp only [Act.put, List.setIfInBounds_toArray, List.set_cons_zero, List.set_cons_succ, i64_w, i32_w]
                        rfl
                      refine take_ (i := 1) (N := some 43) (v := ?_) (a' := ?_) #[true, true, false, true, false, false, false] rfl rfl (by kernel_rfl) (fun _ _ _ h => h) (Or.inl ⟨by rfl, ?_⟩) hHeld ?_ ?_
                      rotate_left
                      · rintro w' ⟨s0, s1⟩
                        go_simp
                        with_reducible rfl
                      rotate_left
                      · simp only [Act.put, List.setIfInBounds_toArray, List.set_cons_zero, List.set_cons_succ, i64_w, i32_w]
                        rfl
                      refine take_ (i := 4) (N := some 46) (v := ?_) (a' := ?_) #[true, true, false, true, true, false, false] rfl rfl (by kernel_rfl) (fun _ _ _ h => h) (Or.inl ⟨by rfl, ?_⟩) hHeld ?_ ?_
                      rotate_left
                      · rintro w' ⟨s0, s1⟩
                        go_simp
                        with_reducible rfl
                      rotate_left
                      · simp only [Act.put, List.setIfInBounds_toArray, List.set_cons_zero, List.set_cons_succ, i64_w, i32_w]
                        rfl
                      refine one_ (i := 2) (N := some 44) #[true, true, true, true, true, false, false] rfl rfl (by kernel_rfl) (by decide) (fun K hK => ?_)
                      refine goes_ Try.func44 (by kernel_rfl) rfl #[.slice Ao27 t333.length co27] (by rfl) rfl rfl (by (try simp only [List.map_toArray, List.map_cons, List.map_nil]); first | done | rfl | (simp only [List.length_drop, List.length_take]; rfl)) ?_
                      with_reducible refine (gaiterref01_Flat.calls kj7 _ _ t333 t343 _ ?side1 ?side2 A15.out).mono ?_
                      (case side1 => repeat (first | exact (Kd.R_reads' HO335.out).2.2 | (with_reducible refine Kd.C_alloc ?_ _) | (with_reducible refine Kd.C_drewN ?_ _) | (with_reducible refine Kd.C_drew ?_)))
                      (case side2 => exact (Kd.R_reads' HO335.out).2.1)
                      rintro e w36 ⟨v344, rfl, ho0, hb⟩
                      refine ⟨_, rfl, ?_⟩
                      have n0_ := Aside0.mk (Kd.R_elder' (by (with_reducible repeat (first | apply Kd.R_alloc | apply Kd.R_drewN | apply Kd.R_drew)); exact HO335.out) (Kd.R_base ho0) hb)
                      have n1_ := Aside0.mk (Kd.R_elder' (by (with_reducible repeat (first | apply Kd.R_alloc | apply Kd.R_drewN | apply Kd.R_drew)); exact HO340.out) (Kd.R_base ho0) hb)
                      have n2_ := Aside0.mk (Kd.R_lower (Kd.R_new' (Kd.R_new' ho0 (Kd.R_lt (by (with_reducible repeat (first | apply Kd.R_alloc | apply Kd.R_drewN | apply Kd.R_drew)); exact HO335.out))) (Kd.R_lt (by (with_reducible repeat (first | apply Kd.R_alloc | apply Kd.R_drewN | apply Kd.R_drew)); exact HO340.out))) (below_size (by repeat (first | (with_reducible first | exact HB.out | apply below_alloc | apply pw_below_drewN | apply below_drew1 | refine below_set ?_ GE337.out | refine below_set ?_ GE342.out) | exact HB.out))))
                      have n3_ := Aside0.mk (blk_below (g := gb337) (o := .cells #[.slice Ao27 t333.length co27, .int .i64 t336] 86 (0, 0)) (by (with_reducible repeat (first | refine blk_drewN ?_ _ | refine blk_drew ?_ | refine blk_alloc ?_ _)); exact BK337.out) hb)
                      have n4_ := Aside0.mk (blk_below (g := gb342) (o := .cells #[.slice Ao31 t338.length co31, .int .i64 t341] 86 (0, 0)) (by (with_reducible repeat (first | refine blk_drewN ?_ _ | refine blk_drew ?_ | refine blk_alloc ?_ _)); exact BK342.out) hb)
                      have n5_ := Aside0.mk (below_step (by repeat (first | (with_reducible first | exact HB.out | apply below_alloc | apply pw_below_drewN | apply below_drew1 | refine below_set ?_ GE337.out | refine below_set ?_ GE342.out) | exact HB.out)) hb)
                      clear HO335
                      clear HO340
                      clear BK337
                      clear BK342
                      clear HB
                      have HO335 := n0_
                      have HO340 := n1_
                      have HO345 := n2_
                      have BK337 := n3_
                      have BK342 := n4_
                      have HB := n5_
                      clear n0_ n1_ n2_ n3_ n4_ n5_
                      (try clear hb)
                      (try clear hb2)
                      (try clear hk)
                      (try clear hi)
                      (try clear ho0)
                      obtain ⟨Ao38, co38, eo38⟩ := Kd.R_slice HO345.out
                      (first | subst eo38 | (injection eo38 with f1_ f2_ f3_; have f4_ := f1_.symm; have f5_ := f3_.symm; clear f1_ f2_ f3_; subst f4_; subst f5_))
                      have q37 : (t336 : Int) ≤ ((t343.length : Int) : Int) := of_decide_eq_true (by first | (with_reducible assumption) | assumption)
                      obtain ⟨i037, hi037, _, hsz37, _⟩ := info_parts info5
                      have hroom37 : t343.length ≤ co38 := (Kd.R_reads' HO345.out).2.1
                      have hC37 : Kd.C (Kd.int .u8) _ Ao38 t343.length t343 := (Kd.R_reads' HO345.out).2.2
                      have hcut37 := cut_to (P := Try.prog) 27 5 .i64 Try.underlying27 hi037 Ao38 t343.length co38 t336 (of_decide_eq_true (by first | (with_reducible assumption) | assumption)) q37 hroom37
                      have hr37 := Kd.C_take (m := (t336 : Int).toNat) hC37 (by omega)
                      have hy37 : y346.length = (t336 : Int).toNat := (by rw [Ny346.out, List.length_take]; omega)
                      rw [← Ny346.out] at hr37
                      rw [← hy37] at hcut37
                      have HR349 := Aside0.mk hr37
                      have HC349 := Aside0.mk (show y346.length ≤ co38 from by omega)
                      clear hr37 hC37 hroom37 hi037 hsz37
                      have KY37 := Aside0.mk hy37
                      clear hy37
                      have KL37 := Aside0.mk (show (t336 : Int).toNat ≤ t343.length from by omega)
                      (try (have q37s := q37; simp only [List.length_drop, List.length_take] at q37s; replace q37s := eq_true q37s)); replace q37 := eq_true q37
                      refine hK.out _ _ ⟨(blk_cell BK337.out 0).trans rfl, (blk_cell BK337.out 1).trans rfl⟩ (fun hHeld => ?_)
                      clear hK K
                      refine norm_ (a' := ?_) ?_ ?_
                      rotate_left
                      · show Act.put _ (some 44) _ = _
                        simp only [Act.put, List.setIfInBounds_toArray, List.set_cons_zero, List.set_cons_succ, i64_w, i32_w]
                        rfl
                      refine pure_ (i := 5) (N := some 47) (v := ?_) (a' := ?_) #[true, true, true, true, true, true, false] rfl rfl (by kernel_rfl) (fun _ _ _ h => h) (Or.inl ⟨by rfl, ?_⟩) ?_ ?_
                      rotate_left
                      · intro w'
                        go_simp
                        with_reducible rfl
                      rotate_left
                      · simp only [Act.put, List.setIfInBounds_toArray, List.set_cons_zero, List.set_cons_succ, i64_w, i32_w]
                        rfl
                      refine pure_ (i := 6) (N := some 16) (v := ?_) (a' := ?_) #[true, true, true, true, true, true, true] rfl rfl (by kernel_rfl) (fun _ _ _ h => h) (Or.inl ⟨by rfl, ?_⟩) ?_ ?_
                      rotate_left
                      · intro w'
                        go_simp
                        with_reducible rfl
                      rotate_left
                      · simp only [Act.put, List.setIfInBounds_toArray, List.set_cons_zero, List.set_cons_succ, i64_w, i32_w]
                        rfl
                      refine done_ (by kernel_rfl) ?_
                      try go_wp2
                      have n0_ := Aside0.mk (Kd.R_drew HO335.out)
                      have n1_ := Aside0.mk (Kd.R_drew HO340.out)
                      have n2_ := Aside0.mk (Kd.R_drew HO345.out)
                      have n3_ := Aside0.mk (blk_drew BK337.out)
                      have n4_ := Aside0.mk (blk_drew BK342.out)
                      have n5_ := Aside0.mk (Kd.C_drew HR349.out)
                      have n6_ := Aside0.mk (below_drew1 HB.out)
                      clear HO335
                      clear HO340
                      clear HO345
                      clear BK337
                      clear BK342
                      clear HR349
                      clear HB
                      have HO335 := n0_
                      have HO340 := n1_
                      have HO345 := n2_
                      have BK337 := n3_
                      have BK342 := n4_
                      have HR349 := n5_
                      have HB := n6_
                      clear n0_ n1_ n2_ n3_ n4_ n5_ n6_
                      refine start_ (n := 11) (S := fun w' => w'.cell? ⟨gb342, 0, none⟩ = some (.slice Ao31 t338.length co31) ∧ w'.cell? ⟨gb342, 1, none⟩ = some (.int .i64 t341)) (ds := []) #[false, false, false, false, false, false, false, false, false, false, false] (by kernel_rfl) rfl rfl ⟨(blk_cell BK342.out 0).trans rfl, (blk_cell BK342.out 1).trans rfl⟩ (fun hHeld => ?_); refine with_tabW gaiterlaw01_BitsTells.tab7 gaiterlaw01_BitsTells.bits7 (fun HT_ HW_ => ?_)
                      generalize w36.drew = w39 at HO335 HO340 HO345 BK337 BK342 HR349 HB hHeld ⊢
                      refine pure_ (i := 1) (N := some 49) (v := ?_) (a' := ?_) #[false, true, false, false, false, false, false, false, false, false, false] rfl rfl (any_of HT_.out (by kernel_rfl)) (fun _ _ _ h => h) (Or.inl ⟨by rfl, ?_⟩) ?_ ?_
                      rotate_left
                      · intro w'
                        go_simp
                        with_reducible rfl
                      rotate_left
                      · simp only [Act.put, List.setIfInBounds_toArray, List.set_cons_zero, List.set_cons_succ, i64_w, i32_w]
                        rfl
                      refine pure_ (i := 3) (N := some 51) (v := ?_) (a' := ?_) #[false, true, false, true, false, false, false, false, false, false, false] rfl rfl (any_of HT_.out (by kernel_rfl)) (fun _ _ _ h => h) (Or.inl ⟨by rfl, ?_⟩) ?_ ?_
                      rotate_left
                      · intro w'
                        go_simp
                        with_reducible rfl
                      rotate_left
                      · simp only [Act.put, List.setIfInBounds_toArray, List.set_cons_zero, List.set_cons_succ, i64_w, i32_w]
                        rfl
                      refine pure_ (i := 6) (N := some 54) (v := ?_) (a' := ?_) #[false, true, false, true, false, false, true, false, false, false, false] rfl rfl (any_of HT_.out (by kernel_rfl)) (fun _ _ _ h => h) (Or.inl ⟨by rfl, ?_⟩) ?_ ?_
                      rotate_left
                      · intro w'
                        go_simp
                        with_reducible rfl
                      rotate_left
                      · simp only [Act.put, List.setIfInBounds_toArray, List.set_cons_zero, List.set_cons_succ, i64_w, i32_w]
                        rfl
                      refine take_ (i := 4) (N := some 52) (v := ?_) (a' := ?_) #[false, true, false, true, true, false, true, false, false, false, false] rfl rfl (take_ofW HT_.out HW_.out (by kernel_rfl)) (fun _ _ _ h => h) (Or.inl ⟨by rfl, ?_⟩) hHeld ?_ ?_
                      rotate_left
                      · rintro w' ⟨s0, s1⟩
                        go_simp
                        with_reducible rfl
                      rotate_left
                      · simp only [Act.put, List.setIfInBounds_toArray, List.set_cons_zero, List.set_cons_succ, i64_w, i32_w]
                        rfl
                      refine take_ (i := 7) (N := some 55) (v := ?_) (a' := ?_) #[false, true, false, true, true, false, true, true, false, false, false] rfl rfl (take_ofW HT_.out HW_.out (by kernel_rfl)) (fun _ _ _ h => h) (Or.inl ⟨by rfl, ?_⟩) hHeld ?_ ?_
                      rotate_left
                      · rintro w' ⟨s0, s1⟩
                        go_simp
                        with_reducible rfl
                      rotate_left
                      · simp only [Act.put, List.setIfInBounds_toArray, List.set_cons_zero, List.set_cons_succ, i64_w, i32_w]
                        rfl
                      refine one_ (i := 0) (N := some 48) #[true, true, false, true, true, false, true, true, false, false, false] rfl rfl (one_of HT_.out (by kernel_rfl)) (by decide) (fun K hK => ?_)
                      refine Kd.R_lit_step (Kd.int .u8) _ 5 ?hg (N := 48) ?hd (xs := ([] : List Int)) (inner := []) (ok := fun _ => True) (okp := fun _ => True) ?hr ?hp (fun _ hk => hk) trivial (Below.refl _ _) (Nat.le_refl _) (by simp) ?_; (case hd => rfl); (case hg => rfl); (case hr => first | (go_simp; done) | (go_simp; rfl)); (case hp => exact (Reps.none _ _))
                      intro v351 w40 ho41 hb hg_ hnew_
                      clear hg_ hnew_
                      (first | rw [← Ny350.out] at ho41 | (simp only [Int.reduceToNat] at ho41; rw [← Ny350.out] at ho41))
                      have n0_ := Aside0.mk (Kd.R_elder' (by (with_reducible repeat (first | apply Kd.R_alloc | apply Kd.R_drewN | apply Kd.R_drew)); exact HO335.out) (Kd.R_base ho41) hb)
                      have n1_ := Aside0.mk (Kd.R_elder' (by (with_reducible repeat (first | apply Kd.R_alloc | apply Kd.R_drewN | apply Kd.R_drew)); exact HO340.out) (Kd.R_base ho41) hb)
                      have n2_ := Aside0.mk (Kd.R_elder' (by (with_reducible repeat (first | apply Kd.R_alloc | apply Kd.R_drewN | apply Kd.R_drew)); exact HO345.out) (Kd.R_base ho41) hb)
                      have n3_ := Aside0.mk (Kd.R_lower (Kd.R_new' (Kd.R_new' (Kd.R_new' ho41 (Kd.R_lt (by (with_reducible repeat (first | apply Kd.R_alloc | apply Kd.R_drewN | apply Kd.R_drew)); exact HO335.out))) (Kd.R_lt (by (with_reducible repeat (first | apply Kd.R_alloc | apply Kd.R_drewN | apply Kd.R_drew)); exact HO340.out))) (Kd.R_lt (by (with_reducible repeat (first | apply Kd.R_alloc | apply Kd.R_drewN | apply Kd.R_drew)); exact HO345.out))) (below_size (by repeat (first | (with_reducible first | exact HB.out | apply below_alloc | apply pw_below_drewN | apply below_drew1 | refine below_set ?_ GE337.out | refine below_set ?_ GE342.out) | exact HB.out))))
                      have n4_ := Aside0.mk (blk_below (g := gb337) (o := .cells #[.slice Ao27 t333.length co27, .int .i64 t336] 86 (0, 0)) (by (with_reducible repeat (first | refine blk_drewN ?_ _ | refine blk_drew ?_ | refine blk_alloc ?_ _)); exact BK337.out) hb)
                      have n5_ := Aside0.mk (blk_below (g := gb342) (o := .cells #[.slice Ao31 t338.length co31, .int .i64 t341] 86 (0, 0)) (by (with_reducible repeat (first | refine blk_drewN ?_ _ | refine blk_drew ?_ | refine blk_alloc ?_ _)); exact BK342.out) hb)
                      have n6_ := Aside0.mk (Kd.C_below (by repeat (first | (with_reducible exact HR349.out) | (with_reducible refine Kd.C_alloc ?_ _) | (with_reducible refine Kd.C_drewN ?_ _) | (with_reducible refine Kd.C_drew ?_) | exact HR349.out)) hb)
                      have n7_ := Aside0.mk (below_step (by repeat (first | (with_reducible first | exact HB.out | apply below_alloc | apply pw_below_drewN | apply below_drew1 | refine below_set ?_ GE337.out | refine below_set ?_ GE342.out) | exact HB.out)) hb)
                      clear HO335
                      clear HO340
                      clear HO345
                      clear BK337
                      clear BK342
                      clear HR349
                      clear HB
                      have HO335 := n0_
                      have HO340 := n1_
                      have HO345 := n2_
                      have HO352 := n3_
                      have BK337 := n4_
                      have BK342 := n5_
                      have HR349 := n6_
                      have HB := n7_
                      clear n0_ n1_ n2_ n3_ n4_ n5_ n6_ n7_
                      clear hb ho41
                      refine hK.out _ _ ⟨(blk_cell BK342.out 0).trans rfl, (blk_cell BK342.out 1).trans rfl⟩ (fun hHeld => ?_)
                      clear hK K
                      refine norm_ (a' := ?_) ?_ ?_
                      rotate_left
                      · show Act.put _ (some 48) _ = _
                        simp only [Act.put, List.setIfInBounds_toArray, List.set_cons_zero, List.set_cons_succ, i64_w, i32_w]
                        rfl
                      refine one_ (i := 2) (N := some 50) #[true, true, true, true, true, false, true, true, false, false, false] rfl rfl (one_of HT_.out (by kernel_rfl)) (by decide) (fun K hK => ?_)
                      refine Kd.R_append_rows_step (Kd.int .u8) (w0 := w) w.heap.size (by rfl) (.tmp 48) (.tmp 49) 27 5 (.int .u8 0) 1 rfl Try.underlying27 info5 rfl (by decide) (by omega) v351 y350 y346 _ _ _ (fun k_ => some k_ ≠ (.slice Ao27 t333.length co27 : Value).ownBlock ∧ some k_ ≠ (.slice Ao31 t338.length co31 : Value).ownBlock ∧ some k_ ≠ (.slice Ao38 t343.length co38 : Value).ownBlock) (fun _ => False) rfl rfl ?aO ?aR (fun _ _ h => h) (fun _ h => h.elim) ?aF ?aB ?aS ?aL ?_
                      (case aR => repeat (first | exact (by repeat (first | (with_reducible exact HR349.out) | (with_reducible refine Kd.C_alloc ?_ _) | (with_reducible refine Kd.C_drewN ?_ _) | (with_reducible refine Kd.C_drew ?_) | exact HR349.out)) | (with_reducible refine Kd.C_alloc ?_ _) | (with_reducible refine Kd.C_drewN ?_ _) | (with_reducible refine Kd.C_drew ?_)))
                      (case aB => exact (by repeat (first | (with_reducible first | exact HB.out | apply below_alloc | apply pw_below_drewN | apply below_drew1 | refine below_set ?_ GE337.out | refine below_set ?_ GE342.out) | exact HB.out)))
                      (case aF => exact (fun k_ hk => ⟨Kd.fresh' (Kd.R_lt (by (with_reducible repeat (first | apply Kd.R_alloc | apply Kd.R_drewN | apply Kd.R_drew)); exact HO335.out)) k_ hk, Kd.fresh' (Kd.R_lt (by (with_reducible repeat (first | apply Kd.R_alloc | apply Kd.R_drewN | apply Kd.R_drew)); exact HO340.out)) k_ hk, Kd.fresh' (Kd.R_lt (by (with_reducible repeat (first | apply Kd.R_alloc | apply Kd.R_drewN | apply Kd.R_drew)); exact HO345.out)) k_ hk⟩))
                      (case aO => exact (by (with_reducible repeat (first | apply Kd.R_alloc | apply Kd.R_drewN | apply Kd.R_drew)); exact Kd.R_mono HO352.out (fun _ hk => ⟨hk.1.1.2, ⟨hk.1.2, hk.2⟩⟩)))
                      (case aS => exact (below_size (by repeat (first | (with_reducible first | exact HB.out | apply below_alloc | apply pw_below_drewN | apply below_drew1 | refine below_set ?_ GE337.out | refine below_set ?_ GE342.out) | exact HB.out))))
                      (case aL => have := LMc18.out; omega)
                      intro v354 w42 ho hb hg hat
                      rw [← Ny353.out] at ho
                      have n0_ := Aside0.mk (Kd.R_after (ok := (fun k_ => some k_ ≠ (.slice Ao31 t338.length co31 : Value).ownBlock ∧ some k_ ≠ (.slice Ao38 t343.length co38 : Value).ownBlock)) (by (with_reducible repeat (first | apply Kd.R_alloc | apply Kd.R_drewN | apply Kd.R_drew)); exact HO335.out) hg hat)
                      have n1_ := Aside0.mk (blk_grown (g := gb337) (o := .cells #[.slice Ao27 t333.length co27, .int .i64 t336] 86 (0, 0)) (by (with_reducible repeat (first | refine blk_drewN ?_ _ | refine blk_drew ?_ | refine blk_alloc ?_ _)); exact BK337.out) hg (Kd.R_ne HO352.out BK337.out (by decide)))
                      have n2_ := Aside0.mk (Kd.R_after (ok := (fun k_ => some k_ ≠ (.slice Ao27 t333.length co27 : Value).ownBlock ∧ some k_ ≠ (.slice Ao38 t343.length co38 : Value).ownBlock)) (by (with_reducible repeat (first | apply Kd.R_alloc | apply Kd.R_drewN | apply Kd.R_drew)); exact HO340.out) hg hat)
                      have n3_ := Aside0.mk (blk_grown (g := gb342) (o := .cells #[.slice Ao31 t338.length co31, .int .i64 t341] 86 (0, 0)) (by (with_reducible repeat (first | refine blk_drewN ?_ _ | refine blk_drew ?_ | refine blk_alloc ?_ _)); exact BK342.out) hg (Kd.R_ne HO352.out BK342.out (by decide)))
                      have n4_ := Aside0.mk (Kd.R_after (ok := (fun k_ => some k_ ≠ (.slice Ao27 t333.length co27 : Value).ownBlock ∧ some k_ ≠ (.slice Ao31 t338.length co31 : Value).ownBlock)) (by (with_reducible repeat (first | apply Kd.R_alloc | apply Kd.R_drewN | apply Kd.R_drew)); exact Kd.R_mono HO345.out (fun _ hk => ⟨⟨hk.1.1.2, hk.1.2⟩, hk.2⟩)) hg hat)
                      have n5_ := Aside0.mk (hb)
                      have n6_ := Aside0.mk ((show Kd.C (Kd.int .u8) w42 Ao38 y346.length y346 from by rw [Ny346.out]; exact Kd.C_take (m := (t336 : Int).toNat) ((Kd.R_reads' (Kd.R_after (ok := (fun k_ => some k_ ≠ (.slice Ao27 t333.length co27 : Value).ownBlock ∧ some k_ ≠ (.slice Ao31 t338.length co31 : Value).ownBlock)) (by (with_reducible repeat (first | apply Kd.R_alloc | apply Kd.R_drewN | apply Kd.R_drew)); exact Kd.R_mono HO345.out (fun _ hk => ⟨⟨hk.1.1.2, hk.1.2⟩, hk.2⟩)) hg hat)).2.2) KL37.out))
                      have n7_ := Aside0.mk (ho)
                      clear HO335
                      clear BK337
                      clear HO340
                      clear BK342
                      clear HO345
                      clear HB
                      clear HR349
                      clear HO352
                      have HO335 := n0_
                      have BK337 := n1_
                      have HO340 := n2_
                      have BK342 := n3_
                      have HO345 := n4_
                      have HB := n5_
                      have HR349 := n6_
                      have HO355 := n7_
                      clear n0_ n1_ n2_ n3_ n4_ n5_ n6_ n7_
                      clear ho hb hg hat
                      refine hK.out _ _ ⟨(blk_cell BK342.out 0).trans rfl, (blk_cell BK342.out 1).trans rfl⟩ (fun hHeld => ?_)
                      clear hK K
                      refine norm_ (a' := ?_) ?_ ?_
                      rotate_left
                      · show Act.put _ (some 50) _ = _
                        simp only [Act.put, List.setIfInBounds_toArray, List.set_cons_zero, List.set_cons_succ, i64_w, i32_w]
                        rfl
                      refine one_ (i := 5) (N := some 53) #[true, true, true, true, true, true, true, true, false, false, false] rfl rfl (one_of HT_.out (by kernel_rfl)) (by decide) (fun K hK => ?_)
                      refine goes_ Try.func44 (by kernel_rfl) rfl #[.slice Ao31 t338.length co31] (by rfl) rfl rfl (by (try simp only [List.map_toArray, List.map_cons, List.map_nil]); first | done | rfl | (simp only [List.length_drop, List.length_take]; rfl)) ?_
                      with_reducible refine (gaiterref01_Flat.calls kj7 _ _ t338 t356 _ ?side1 ?side2 A19.out).mono ?_
                      (case side1 => repeat (first | exact (Kd.R_reads' HO340.out).2.2 | (with_reducible refine Kd.C_alloc ?_ _) | (with_reducible refine Kd.C_drewN ?_ _) | (with_reducible refine Kd.C_drew ?_)))
                      (case side2 => exact (Kd.R_reads' HO340.out).2.1)
                      rintro e w43 ⟨v357, rfl, ho0, hb⟩
                      refine ⟨_, rfl, ?_⟩
                      have n0_ := Aside0.mk (Kd.R_elder' (by (with_reducible repeat (first | apply Kd.R_alloc | apply Kd.R_drewN | apply Kd.R_drew)); exact HO335.out) (Kd.R_base ho0) hb)
                      have n1_ := Aside0.mk (Kd.R_elder' (by (with_reducible repeat (first | apply Kd.R_alloc | apply Kd.R_drewN | apply Kd.R_drew)); exact HO340.out) (Kd.R_base ho0) hb)
                      have n2_ := Aside0.mk (Kd.R_elder' (by (with_reducible repeat (first | apply Kd.R_alloc | apply Kd.R_drewN | apply Kd.R_drew)); exact HO345.out) (Kd.R_base ho0) hb)
                      have n3_ := Aside0.mk (Kd.R_elder' (by (with_reducible repeat (first | apply Kd.R_alloc | apply Kd.R_drewN | apply Kd.R_drew)); exact HO355.out) (Kd.R_base ho0) hb)
                      have n4_ := Aside0.mk (Kd.R_lower (Kd.R_new' (Kd.R_new' (Kd.R_new' (Kd.R_new' ho0 (Kd.R_lt (by (with_reducible repeat (first | apply Kd.R_alloc | apply Kd.R_drewN | apply Kd.R_drew)); exact HO335.out))) (Kd.R_lt (by (with_reducible repeat (first | apply Kd.R_alloc | apply Kd.R_drewN | apply Kd.R_drew)); exact HO340.out))) (Kd.R_lt (by (with_reducible repeat (first | apply Kd.R_alloc | apply Kd.R_drewN | apply Kd.R_drew)); exact HO345.out))) (Kd.R_lt (by (with_reducible repeat (first | apply Kd.R_alloc | apply Kd.R_drewN | apply Kd.R_drew)); exact HO355.out))) (below_size (by repeat (first | (with_reducible first | exact HB.out | apply below_alloc | apply pw_below_drewN | apply below_drew1 | refine below_set ?_ GE337.out | refine below_set ?_ GE342.out) | exact HB.out))))
                      have n5_ := Aside0.mk (blk_below (g := gb337) (o := .cells #[.slice Ao27 t333.length co27, .int .i64 t336] 86 (0, 0)) (by (with_reducible repeat (first | refine blk_drewN ?_ _ | refine blk_drew ?_ | refine blk_alloc ?_ _)); exact BK337.out) hb)
                      have n6_ := Aside0.mk (blk_below (g := gb342) (o := .cells #[.slice Ao31 t338.length co31, .int .i64 t341] 86 (0, 0)) (by (with_reducible repeat (first | refine blk_drewN ?_ _ | refine blk_drew ?_ | refine blk_alloc ?_ _)); exact BK342.out) hb)
                      have n7_ := Aside0.mk (Kd.C_below (by repeat (first | (with_reducible exact HR349.out) | (with_reducible refine Kd.C_alloc ?_ _) | (with_reducible refine Kd.C_drewN ?_ _) | (with_reducible refine Kd.C_drew ?_) | exact HR349.out)) hb)
                      have n8_ := Aside0.mk (below_step (by repeat (first | (with_reducible first | exact HB.out | apply below_alloc | apply pw_below_drewN | apply below_drew1 | refine below_set ?_ GE337.out | refine below_set ?_ GE342.out) | exact HB.out)) hb)
                      clear HO335
                      clear HO340
                      clear HO345
                      clear HO355
                      clear BK337
                      clear BK342
                      clear HR349
                      clear HB
                      have HO335 := n0_
                      have HO340 := n1_
                      have HO345 := n2_
                      have HO355 := n3_
                      have HO358 := n4_
                      have BK337 := n5_
                      have BK342 := n6_
                      have HR349 := n7_
                      have HB := n8_
                      clear n0_ n1_ n2_ n3_ n4_ n5_ n6_ n7_ n8_
                      (try clear hb)
                      (try clear hb2)
                      (try clear hk)
                      (try clear hi)
                      (try clear ho0)
                      obtain ⟨Ao45, co45, eo45⟩ := Kd.R_slice HO358.out
                      (first | subst eo45 | (injection eo45 with f1_ f2_ f3_; have f4_ := f1_.symm; have f5_ := f3_.symm; clear f1_ f2_ f3_; subst f4_; subst f5_))
                      have q44 : (t341 : Int) ≤ ((t356.length : Int) : Int) := of_decide_eq_true (by first | (with_reducible assumption) | assumption)
                      obtain ⟨i044, hi044, _, hsz44, _⟩ := info_parts info5
                      have hroom44 : t356.length ≤ co45 := (Kd.R_reads' HO358.out).2.1
                      have hC44 : Kd.C (Kd.int .u8) _ Ao45 t356.length t356 := (Kd.R_reads' HO358.out).2.2
                      have hcut44 := cut_to (P := Try.prog) 27 5 .i64 Try.underlying27 hi044 Ao45 t356.length co45 t341 (of_decide_eq_true (by first | (with_reducible assumption) | assumption)) q44 hroom44
                      have hr44 := Kd.C_take (m := (t341 : Int).toNat) hC44 (by omega)
                      have hy44 : y359.length = (t341 : Int).toNat := (by rw [Ny359.out, List.length_take]; omega)
                      rw [← Ny359.out] at hr44
                      rw [← hy44] at hcut44
                      have HR362 := Aside0.mk hr44
                      have HC362 := Aside0.mk (show y359.length ≤ co45 from by omega)
                      clear hr44 hC44 hroom44 hi044 hsz44
                      have KY44 := Aside0.mk hy44
                      clear hy44
                      have KL44 := Aside0.mk (show (t341 : Int).toNat ≤ t356.length from by omega)
                      (try (have q44s := q44; simp only [List.length_drop, List.length_take] at q44s; replace q44s := eq_true q44s)); replace q44 := eq_true q44
                      refine hK.out _ _ ⟨(blk_cell BK342.out 0).trans rfl, (blk_cell BK342.out 1).trans rfl⟩ (fun hHeld => ?_)
                      clear hK K
                      refine norm_ (a' := ?_) ?_ ?_
                      rotate_left
                      · show Act.put _ (some 53) _ = _
                        simp only [Act.put, List.setIfInBounds_toArray, List.set_cons_zero, List.set_cons_succ, i64_w, i32_w]
                        rfl
                      refine pure_ (i := 8) (N := some 56) (v := ?_) (a' := ?_) #[true, true, true, true, true, true, true, true, true, false, false] rfl rfl (any_of HT_.out (by kernel_rfl)) (fun _ _ _ h => h) (Or.inl ⟨by rfl, ?_⟩) ?_ ?_
                      rotate_left
                      · intro w'
                        go_simp
                        with_reducible rfl
                      rotate_left
                      · simp only [Act.put, List.setIfInBounds_toArray, List.set_cons_zero, List.set_cons_succ, i64_w, i32_w]
                        rfl
                      refine one_ (i := 9) (N := some 57) #[true, true, true, true, true, true, true, true, true, true, false] rfl rfl (one_of HT_.out (by kernel_rfl)) (by decide) (fun K hK => ?_)
                      refine Kd.R_append_rows_step (Kd.int .u8) (w0 := w) w.heap.size (by rfl) (.tmp 50) (.tmp 56) 27 5 (.int .u8 0) 1 rfl Try.underlying27 info5 rfl (by decide) (by omega) v354 y353 y359 _ _ _ (fun k_ => some k_ ≠ (.slice Ao27 t333.length co27 : Value).ownBlock ∧ some k_ ≠ (.slice Ao31 t338.length co31 : Value).ownBlock ∧ some k_ ≠ (.slice Ao38 t343.length co38 : Value).ownBlock ∧ some k_ ≠ (.slice Ao45 t356.length co45 : Value).ownBlock) (fun _ => False) rfl rfl ?aO ?aR (fun _ _ h => h) (fun _ h => h.elim) ?aF ?aB ?aS ?aL ?_
                      (case aR => repeat (first | exact (by repeat (first | (with_reducible exact HR362.out) | (with_reducible refine Kd.C_alloc ?_ _) | (with_reducible refine Kd.C_drewN ?_ _) | (with_reducible refine Kd.C_drew ?_) | exact HR362.out)) | (with_reducible refine Kd.C_alloc ?_ _) | (with_reducible refine Kd.C_drewN ?_ _) | (with_reducible refine Kd.C_drew ?_)))
                      (case aB => exact (by repeat (first | (with_reducible first | exact HB.out | apply below_alloc | apply pw_below_drewN | apply below_drew1 | refine below_set ?_ GE337.out | refine below_set ?_ GE342.out) | exact HB.out)))
                      (case aF => exact (fun k_ hk => ⟨Kd.fresh' (Kd.R_lt (by (with_reducible repeat (first | apply Kd.R_alloc | apply Kd.R_drewN | apply Kd.R_drew)); exact HO335.out)) k_ hk, Kd.fresh' (Kd.R_lt (by (with_reducible repeat (first | apply Kd.R_alloc | apply Kd.R_drewN | apply Kd.R_drew)); exact HO340.out)) k_ hk, Kd.fresh' (Kd.R_lt (by (with_reducible repeat (first | apply Kd.R_alloc | apply Kd.R_drewN | apply Kd.R_drew)); exact HO345.out)) k_ hk, Kd.fresh' (Kd.R_lt (by (with_reducible repeat (first | apply Kd.R_alloc | apply Kd.R_drewN | apply Kd.R_drew)); exact HO358.out)) k_ hk⟩))
                      (case aO => exact (by (with_reducible repeat (first | apply Kd.R_alloc | apply Kd.R_drewN | apply Kd.R_drew)); exact Kd.R_mono HO355.out (fun _ hk => ⟨hk.1.1, ⟨hk.1.2.1, ⟨hk.1.2.2, hk.2⟩⟩⟩)))
                      (case aS => exact (below_size (by repeat (first | (with_reducible first | exact HB.out | apply below_alloc | apply pw_below_drewN | apply below_drew1 | refine below_set ?_ GE337.out | refine below_set ?_ GE342.out) | exact HB.out))))
                      (case aL => have := LMc22.out; omega)
                      intro v364 w46 ho hb hg hat
                      rw [← Ny363.out] at ho
                      have n0_ := Aside0.mk (Kd.R_after (ok := (fun k_ => some k_ ≠ (.slice Ao31 t338.length co31 : Value).ownBlock ∧ some k_ ≠ (.slice Ao38 t343.length co38 : Value).ownBlock ∧ some k_ ≠ (.slice Ao45 t356.length co45 : Value).ownBlock)) (by (with_reducible repeat (first | apply Kd.R_alloc | apply Kd.R_drewN | apply Kd.R_drew)); exact Kd.R_mono HO335.out (fun _ hk => ⟨⟨hk.1.1.1, ⟨hk.1.1.2, hk.2⟩⟩, hk.1.2⟩)) hg hat)
                      have n1_ := Aside0.mk (blk_grown (g := gb337) (o := .cells #[.slice Ao27 t333.length co27, .int .i64 t336] 86 (0, 0)) (by (with_reducible repeat (first | refine blk_drewN ?_ _ | refine blk_drew ?_ | refine blk_alloc ?_ _)); exact BK337.out) hg (Kd.R_ne HO355.out BK337.out (by decide)))
                      have n2_ := Aside0.mk (Kd.R_after (ok := (fun k_ => some k_ ≠ (.slice Ao27 t333.length co27 : Value).ownBlock ∧ some k_ ≠ (.slice Ao38 t343.length co38 : Value).ownBlock ∧ some k_ ≠ (.slice Ao45 t356.length co45 : Value).ownBlock)) (by (with_reducible repeat (first | apply Kd.R_alloc | apply Kd.R_drewN | apply Kd.R_drew)); exact Kd.R_mono HO340.out (fun _ hk => ⟨⟨hk.1.1.1, ⟨hk.1.1.2, hk.2⟩⟩, hk.1.2⟩)) hg hat)
                      have n3_ := Aside0.mk (blk_grown (g := gb342) (o := .cells #[.slice Ao31 t338.length co31, .int .i64 t341] 86 (0, 0)) (by (with_reducible repeat (first | refine blk_drewN ?_ _ | refine blk_drew ?_ | refine blk_alloc ?_ _)); exact BK342.out) hg (Kd.R_ne HO355.out BK342.out (by decide)))
                      have n4_ := Aside0.mk (Kd.R_after (ok := (fun k_ => some k_ ≠ (.slice Ao27 t333.length co27 : Value).ownBlock ∧ some k_ ≠ (.slice Ao31 t338.length co31 : Value).ownBlock ∧ some k_ ≠ (.slice Ao45 t356.length co45 : Value).ownBlock)) (by (with_reducible repeat (first | apply Kd.R_alloc | apply Kd.R_drewN | apply Kd.R_drew)); exact Kd.R_mono HO345.out (fun _ hk => ⟨⟨hk.1.1.1, ⟨hk.1.1.2, hk.2⟩⟩, hk.1.2⟩)) hg hat)
                      have n5_ := Aside0.mk (Kd.R_after (ok := (fun k_ => some k_ ≠ (.slice Ao27 t333.length co27 : Value).ownBlock ∧ some k_ ≠ (.slice Ao31 t338.length co31 : Value).ownBlock ∧ some k_ ≠ (.slice Ao38 t343.length co38 : Value).ownBlock)) (by (with_reducible repeat (first | apply Kd.R_alloc | apply Kd.R_drewN | apply Kd.R_drew)); exact Kd.R_mono HO358.out (fun _ hk => ⟨⟨hk.1.1.1.2, ⟨hk.1.1.2, hk.1.2⟩⟩, hk.2⟩)) hg hat)
                      have n6_ := Aside0.mk (hb)
                      have n7_ := Aside0.mk ((show Kd.C (Kd.int .u8) w46 Ao38 y346.length y346 from by rw [Ny346.out]; exact Kd.C_take (m := (t336 : Int).toNat) ((Kd.R_reads' (Kd.R_after (ok := (fun k_ => some k_ ≠ (.slice Ao27 t333.length co27 : Value).ownBlock ∧ some k_ ≠ (.slice Ao31 t338.length co31 : Value).ownBlock ∧ some k_ ≠ (.slice Ao45 t356.length co45 : Value).ownBlock)) (by (with_reducible repeat (first | apply Kd.R_alloc | apply Kd.R_drewN | apply Kd.R_drew)); exact Kd.R_mono HO345.out (fun _ hk => ⟨⟨hk.1.1.1, ⟨hk.1.1.2, hk.2⟩⟩, hk.1.2⟩)) hg hat)).2.2) KL37.out))
                      have n8_ := Aside0.mk ((show Kd.C (Kd.int .u8) w46 Ao45 y359.length y359 from by rw [Ny359.out]; exact Kd.C_take (m := (t341 : Int).toNat) ((Kd.R_reads' (Kd.R_after (ok := (fun k_ => some k_ ≠ (.slice Ao27 t333.length co27 : Value).ownBlock ∧ some k_ ≠ (.slice Ao31 t338.length co31 : Value).ownBlock ∧ some k_ ≠ (.slice Ao38 t343.length co38 : Value).ownBlock)) (by (with_reducible repeat (first | apply Kd.R_alloc | apply Kd.R_drewN | apply Kd.R_drew)); exact Kd.R_mono HO358.out (fun _ hk => ⟨⟨hk.1.1.1.2, ⟨hk.1.1.2, hk.1.2⟩⟩, hk.2⟩)) hg hat)).2.2) KL44.out))
                      have n9_ := Aside0.mk (ho)
                      clear HO335
                      clear BK337
                      clear HO340
                      clear BK342
                      clear HO345
                      clear HO358
                      clear HB
                      clear HR349
                      clear HR362
                      clear HO355
                      have HO335 := n0_
                      have BK337 := n1_
                      have HO340 := n2_
                      have BK342 := n3_
                      have HO345 := n4_
                      have HO358 := n5_
                      have HB := n6_
                      have HR349 := n7_
                      have HR362 := n8_
                      have HO365 := n9_
                      clear n0_ n1_ n2_ n3_ n4_ n5_ n6_ n7_ n8_ n9_
                      clear ho hb hg hat
                      refine hK.out _ _ ⟨(blk_cell BK342.out 0).trans rfl, (blk_cell BK342.out 1).trans rfl⟩ (fun hHeld => ?_)
                      clear hK K
                      refine norm_ (a' := ?_) ?_ ?_
                      rotate_left
                      · show Act.put _ (some 57) _ = _
                        simp only [Act.put, List.setIfInBounds_toArray, List.set_cons_zero, List.set_cons_succ, i64_w, i32_w]
                        rfl
                      refine pure_ (i := 10) (N := some 17) (v := ?_) (a' := ?_) #[true, true, true, true, true, true, true, true, true, true, true] rfl rfl (any_of HT_.out (by kernel_rfl)) (fun _ _ _ h => h) (Or.inl ⟨by rfl, ?_⟩) ?_ ?_
                      rotate_left
                      · intro w'
                        go_simp
                        with_reducible rfl
                      rotate_left
                      · simp only [Act.put, List.setIfInBounds_toArray, List.set_cons_zero, List.set_cons_succ, i64_w, i32_w]
                        rfl
                      refine done_ (done_of HT_.out (by kernel_rfl)) ?_
                      go_upto_region 9 with (first | ((with_reducible refine gate_dst (N := 58) rfl ?_); (try (refine gate_guard (by rfl) ?_; dsimp only)); refine Kd.R_lit (Kd.int .u8) _ 5 ?hg (N := 58) ?hd (xs := ([] : List Int)) (inner := []) (ok := fun _ => True) (okp := fun _ => True) ?hr ?hp (fun _ hk => hk) trivial (Below.refl _ _) (Nat.le_refl _) (by simp) ?_; (case hd => rfl); (case hg => rfl); (case hr => first | (go_simp; done) | (go_simp; rfl)); (case hp => exact (Reps.none _ _)); intro v367 w47 ho48 hb hg_ hnew_; clear hg_ hnew_; (first | rw [← Ny366.out] at ho48 | (simp only [Int.reduceToNat] at ho48; rw [← Ny366.out] at ho48)); have n0_ := Aside0.mk (Kd.R_elder' (by (with_reducible repeat (first | apply Kd.R_alloc | apply Kd.R_drewN | apply Kd.R_drew)); exact HO335.out) (Kd.R_base ho48) hb); have n1_ := Aside0.mk (Kd.R_elder' (by (with_reducible repeat (first | apply Kd.R_alloc | apply Kd.R_drewN | apply Kd.R_drew)); exact HO340.out) (Kd.R_base ho48) hb); have n2_ := Aside0.mk (Kd.R_elder' (by (with_reducible repeat (first | apply Kd.R_alloc | apply Kd.R_drewN | apply Kd.R_drew)); exact HO345.out) (Kd.R_base ho48) hb); have n3_ := Aside0.mk (Kd.R_elder' (by (with_reducible repeat (first | apply Kd.R_alloc | apply Kd.R_drewN | apply Kd.R_drew)); exact HO358.out) (Kd.R_base ho48) hb); have n4_ := Aside0.mk (Kd.R_elder' (by (with_reducible repeat (first | apply Kd.R_alloc | apply Kd.R_drewN | apply Kd.R_drew)); exact HO365.out) (Kd.R_base ho48) hb); have n5_ := Aside0.mk (Kd.R_lower (Kd.R_new' (Kd.R_new' (Kd.R_new' (Kd.R_new' (Kd.R_new' ho48 (Kd.R_lt (by (with_reducible repeat (first | apply Kd.R_alloc | apply Kd.R_drewN | apply Kd.R_drew)); exact HO335.out))) (Kd.R_lt (by (with_reducible repeat (first | apply Kd.R_alloc | apply Kd.R_drewN | apply Kd.R_drew)); exact HO340.out))) (Kd.R_lt (by (with_reducible repeat (first | apply Kd.R_alloc | apply Kd.R_drewN | apply Kd.R_drew)); exact HO345.out))) (Kd.R_lt (by (with_reducible repeat (first | apply Kd.R_alloc | apply Kd.R_drewN | apply Kd.R_drew)); exact HO358.out))) (Kd.R_lt (by (with_reducible repeat (first | apply Kd.R_alloc | apply Kd.R_drewN | apply Kd.R_drew)); exact HO365.out))) (below_size (by repeat (first | (with_reducible first | exact HB.out | apply below_alloc | apply pw_below_drewN | apply below_drew1 | refine below_set ?_ GE337.out | refine below_set ?_ GE342.out) | exact HB.out)))); have n6_ := Aside0.mk (blk_below (g := gb337) (o := .cells #[.slice Ao27 t333.length co27, .int .i64 t336] 86 (0, 0)) (by (with_reducible repeat (first | refine blk_drewN ?_ _ | refine blk_drew ?_ | refine blk_alloc ?_ _)); exact BK337.out) hb); have n7_ := Aside0.mk (blk_below (g := gb342) (o := .cells #[.slice Ao31 t338.length co31, .int .i64 t341] 86 (0, 0)) (by (with_reducible repeat (first | refine blk_drewN ?_ _ | refine blk_drew ?_ | refine blk_alloc ?_ _)); exact BK342.out) hb); have n8_ := Aside0.mk (Kd.C_below (by repeat (first | (with_reducible exact HR349.out) | (with_reducible refine Kd.C_alloc ?_ _) | (with_reducible refine Kd.C_drewN ?_ _) | (with_reducible refine Kd.C_drew ?_) | exact HR349.out)) hb); have n9_ := Aside0.mk (Kd.C_below (by repeat (first | (with_reducible exact HR362.out) | (with_reducible refine Kd.C_alloc ?_ _) | (with_reducible refine Kd.C_drewN ?_ _) | (with_reducible refine Kd.C_drew ?_) | exact HR362.out)) hb); have n10_ := Aside0.mk (below_step (by repeat (first | (with_reducible first | exact HB.out | apply below_alloc | apply pw_below_drewN | apply below_drew1 | refine below_set ?_ GE337.out | refine below_set ?_ GE342.out) | exact HB.out)) hb); clear HO335; clear HO340; clear HO345; clear HO358; clear HO365; clear BK337; clear BK342; clear HR349; clear HR362; clear HB; have HO335 := n0_; have HO340 := n1_; have HO345 := n2_; have HO358 := n3_; have HO365 := n4_; have HO368 := n5_; have BK337 := n6_; have BK342 := n7_; have HR349 := n8_; have HR362 := n9_; have HB := n10_; clear n0_ n1_ n2_ n3_ n4_ n5_ n6_ n7_ n8_ n9_ n10_; clear hb ho48) | ((with_reducible refine gate_builtin (b := .append) (xs := #[.tmp 58, .tmp 59]) rfl ?_); (try (refine gate_guard (by rfl) ?_; dsimp only)); at_builtin; refine Kd.R_append_rows (Kd.int .u8) (w0 := w) w.heap.size rfl (.tmp 58) (.tmp 59) 27 5 (.int .u8 0) 1 rfl Try.underlying27 info5 rfl (by decide) (by omega) v367 y366 y346 _ _ _ (fun k_ => some k_ ≠ (.slice Ao27 t333.length co27 : Value).ownBlock ∧ some k_ ≠ (.slice Ao31 t338.length co31 : Value).ownBlock ∧ some k_ ≠ (.slice Ao38 t343.length co38 : Value).ownBlock ∧ some k_ ≠ (.slice Ao45 t356.length co45 : Value).ownBlock ∧ some k_ ≠ (v364 : Value).ownBlock) (fun _ => False) rfl rfl ?aO ?aR (fun _ _ h => h) (fun _ h => h.elim) ?aF ?aB ?aS ?aL ?_; (case aR => repeat (first | exact (by repeat (first | (with_reducible exact HR349.out) | (with_reducible refine Kd.C_alloc ?_ _) | (with_reducible refine Kd.C_drewN ?_ _) | (with_reducible refine Kd.C_drew ?_) | exact HR349.out)) | (with_reducible refine Kd.C_alloc ?_ _) | (with_reducible refine Kd.C_drewN ?_ _) | (with_reducible refine Kd.C_drew ?_))); (case aB => exact (by repeat (first | (with_reducible first | exact HB.out | apply below_alloc | apply pw_below_drewN | apply below_drew1 | refine below_set ?_ GE337.out | refine below_set ?_ GE342.out) | exact HB.out))); (case aF => exact (fun k_ hk => ⟨Kd.fresh' (Kd.R_lt (by (with_reducible repeat (first | apply Kd.R_alloc | apply Kd.R_drewN | apply Kd.R_drew)); exact HO335.out)) k_ hk, Kd.fresh' (Kd.R_lt (by (with_reducible repeat (first | apply Kd.R_alloc | apply Kd.R_drewN | apply Kd.R_drew)); exact HO340.out)) k_ hk, Kd.fresh' (Kd.R_lt (by (with_reducible repeat (first | apply Kd.R_alloc | apply Kd.R_drewN | apply Kd.R_drew)); exact HO345.out)) k_ hk, Kd.fresh' (Kd.R_lt (by (with_reducible repeat (first | apply Kd.R_alloc | apply Kd.R_drewN | apply Kd.R_drew)); exact HO358.out)) k_ hk, Kd.fresh' (Kd.R_lt (by (with_reducible repeat (first | apply Kd.R_alloc | apply Kd.R_drewN | apply Kd.R_drew)); exact HO365.out)) k_ hk⟩)); (case aO => exact (by (with_reducible repeat (first | apply Kd.R_alloc | apply Kd.R_drewN | apply Kd.R_drew)); exact Kd.R_mono HO368.out (fun _ hk => ⟨hk.1.1.1.1.2, ⟨hk.1.1.1.2, ⟨hk.1.1.2, ⟨hk.1.2, hk.2⟩⟩⟩⟩))); (case aS => exact (below_size (by repeat (first | (with_reducible first | exact HB.out | apply below_alloc | apply pw_below_drewN | apply below_drew1 | refine below_set ?_ GE337.out | refine below_set ?_ GE342.out) | exact HB.out)))); (case aL => have := LMc23.out; omega); intro v370 w49 ho hb hg hat; rw [← Ny369.out] at ho; have n0_ := Aside0.mk (Kd.R_after (ok := (fun k_ => some k_ ≠ (.slice Ao31 t338.length co31 : Value).ownBlock ∧ some k_ ≠ (.slice Ao38 t343.length co38 : Value).ownBlock ∧ some k_ ≠ (.slice Ao45 t356.length co45 : Value).ownBlock ∧ some k_ ≠ (v364 : Value).ownBlock)) (by (with_reducible repeat (first | apply Kd.R_alloc | apply Kd.R_drewN | apply Kd.R_drew)); exact Kd.R_mono HO335.out (fun _ hk => ⟨⟨hk.1.1.1, ⟨hk.1.1.2.1, ⟨hk.1.1.2.2, hk.1.2⟩⟩⟩, hk.2⟩)) hg hat); have n1_ := Aside0.mk (blk_grown (g := gb337) (o := .cells #[.slice Ao27 t333.length co27, .int .i64 t336] 86 (0, 0)) (by (with_reducible repeat (first | refine blk_drewN ?_ _ | refine blk_drew ?_ | refine blk_alloc ?_ _)); exact BK337.out) hg (Kd.R_ne HO368.out BK337.out (by decide))); have n2_ := Aside0.mk (Kd.R_after (ok := (fun k_ => some k_ ≠ (.slice Ao27 t333.length co27 : Value).ownBlock ∧ some k_ ≠ (.slice Ao38 t343.length co38 : Value).ownBlock ∧ some k_ ≠ (.slice Ao45 t356.length co45 : Value).ownBlock ∧ some k_ ≠ (v364 : Value).ownBlock)) (by (with_reducible repeat (first | apply Kd.R_alloc | apply Kd.R_drewN | apply Kd.R_drew)); exact Kd.R_mono HO340.out (fun _ hk => ⟨⟨hk.1.1.1, ⟨hk.1.1.2.1, ⟨hk.1.1.2.2, hk.1.2⟩⟩⟩, hk.2⟩)) hg hat); have n3_ := Aside0.mk (blk_grown (g := gb342) (o := .cells #[.slice Ao31 t338.length co31, .int .i64 t341] 86 (0, 0)) (by (with_reducible repeat (first | refine blk_drewN ?_ _ | refine blk_drew ?_ | refine blk_alloc ?_ _)); exact BK342.out) hg (Kd.R_ne HO368.out BK342.out (by decide))); have n4_ := Aside0.mk (Kd.R_after (ok := (fun k_ => some k_ ≠ (.slice Ao27 t333.length co27 : Value).ownBlock ∧ some k_ ≠ (.slice Ao31 t338.length co31 : Value).ownBlock ∧ some k_ ≠ (.slice Ao45 t356.length co45 : Value).ownBlock ∧ some k_ ≠ (v364 : Value).ownBlock)) (by (with_reducible repeat (first | apply Kd.R_alloc | apply Kd.R_drewN | apply Kd.R_drew)); exact Kd.R_mono HO345.out (fun _ hk => ⟨⟨hk.1.1.1, ⟨hk.1.1.2.1, ⟨hk.1.1.2.2, hk.1.2⟩⟩⟩, hk.2⟩)) hg hat); have n5_ := Aside0.mk (Kd.R_after (ok := (fun k_ => some k_ ≠ (.slice Ao27 t333.length co27 : Value).ownBlock ∧ some k_ ≠ (.slice Ao31 t338.length co31 : Value).ownBlock ∧ some k_ ≠ (.slice Ao38 t343.length co38 : Value).ownBlock ∧ some k_ ≠ (v364 : Value).ownBlock)) (by (with_reducible repeat (first | apply Kd.R_alloc | apply Kd.R_drewN | apply Kd.R_drew)); exact Kd.R_mono HO358.out (fun _ hk => ⟨⟨hk.1.1.1, ⟨hk.1.1.2.1, ⟨hk.1.1.2.2, hk.1.2⟩⟩⟩, hk.2⟩)) hg hat); have n6_ := Aside0.mk (Kd.R_after (ok := (fun k_ => some k_ ≠ (.slice Ao27 t333.length co27 : Value).ownBlock ∧ some k_ ≠ (.slice Ao31 t338.length co31 : Value).ownBlock ∧ some k_ ≠ (.slice Ao38 t343.length co38 : Value).ownBlock ∧ some k_ ≠ (.slice Ao45 t356.length co45 : Value).ownBlock)) (by (with_reducible repeat (first | apply Kd.R_alloc | apply Kd.R_drewN | apply Kd.R_drew)); exact HO365.out) hg hat); have n7_ := Aside0.mk (hb); have n8_ := Aside0.mk ((show Kd.C (Kd.int .u8) w49 Ao38 y346.length y346 from by rw [Ny346.out]; exact Kd.C_take (m := (t336 : Int).toNat) ((Kd.R_reads' (Kd.R_after (ok := (fun k_ => some k_ ≠ (.slice Ao27 t333.length co27 : Value).ownBlock ∧ some k_ ≠ (.slice Ao31 t338.length co31 : Value).ownBlock ∧ some k_ ≠ (.slice Ao45 t356.length co45 : Value).ownBlock ∧ some k_ ≠ (v364 : Value).ownBlock)) (by (with_reducible repeat (first | apply Kd.R_alloc | apply Kd.R_drewN | apply Kd.R_drew)); exact Kd.R_mono HO345.out (fun _ hk => ⟨⟨hk.1.1.1, ⟨hk.1.1.2.1, ⟨hk.1.1.2.2, hk.1.2⟩⟩⟩, hk.2⟩)) hg hat)).2.2) KL37.out)); have n9_ := Aside0.mk ((show Kd.C (Kd.int .u8) w49 Ao45 y359.length y359 from by rw [Ny359.out]; exact Kd.C_take (m := (t341 : Int).toNat) ((Kd.R_reads' (Kd.R_after (ok := (fun k_ => some k_ ≠ (.slice Ao27 t333.length co27 : Value).ownBlock ∧ some k_ ≠ (.slice Ao31 t338.length co31 : Value).ownBlock ∧ some k_ ≠ (.slice Ao38 t343.length co38 : Value).ownBlock ∧ some k_ ≠ (v364 : Value).ownBlock)) (by (with_reducible repeat (first | apply Kd.R_alloc | apply Kd.R_drewN | apply Kd.R_drew)); exact Kd.R_mono HO358.out (fun _ hk => ⟨⟨hk.1.1.1, ⟨hk.1.1.2.1, ⟨hk.1.1.2.2, hk.1.2⟩⟩⟩, hk.2⟩)) hg hat)).2.2) KL44.out)); have n10_ := Aside0.mk (ho); clear HO335; clear BK337; clear HO340; clear BK342; clear HO345; clear HO358; clear HO365; clear HB; clear HR349; clear HR362; clear HO368; have HO335 := n0_; have BK337 := n1_; have HO340 := n2_; have BK342 := n3_; have HO345 := n4_; have HO358 := n5_; have HO365 := n6_; have HB := n7_; have HR349 := n8_; have HR362 := n9_; have HO371 := n10_; clear n0_ n1_ n2_ n3_ n4_ n5_ n6_ n7_ n8_ n9_ n10_; clear ho hb hg hat))
                      (try simp only [Act.put, List.setIfInBounds_toArray, List.set_cons_zero, List.set_cons_succ])
                      go_cut [66] (fun v66 wc => ∃ (kq : Nat) (x66_23 : Bool), v66 = .bool x66_23 ∧ Aside0 (gaiterlaw01_BitsTells.j1 kq a2 a3 l4 a5 t332 y363 y369 x66_23 t333 t336 t338 t341 = some r) ∧ Aside0 (kq ≤ kj7) ∧ Aside0 (Kd.R (Kd.int .u8) 5 wc w.heap.size (fun k_ => some k_ ≠ (v370 : Value).ownBlock ∧ some k_ ≠ ((.slice Ao27 t333.length co27) : Value).ownBlock ∧ some k_ ≠ ((.slice Ao31 t338.length co31) : Value).ownBlock) v364 y363) ∧ Aside0 (Kd.R (Kd.int .u8) 5 wc w.heap.size (fun k_ => some k_ ≠ (v364 : Value).ownBlock ∧ some k_ ≠ ((.slice Ao27 t333.length co27) : Value).ownBlock ∧ some k_ ≠ ((.slice Ao31 t338.length co31) : Value).ownBlock) v370 y369) ∧ Aside0 (Kd.R (Kd.int .u8) 5 wc w.heap.size (fun k_ => some k_ ≠ (v364 : Value).ownBlock ∧ some k_ ≠ (v370 : Value).ownBlock ∧ some k_ ≠ ((.slice Ao31 t338.length co31) : Value).ownBlock) (.slice Ao27 t333.length co27) t333) ∧ Aside0 (Kd.R (Kd.int .u8) 5 wc w.heap.size (fun k_ => some k_ ≠ (v364 : Value).ownBlock ∧ some k_ ≠ (v370 : Value).ownBlock ∧ some k_ ≠ ((.slice Ao27 t333.length co27) : Value).ownBlock) (.slice Ao31 t338.length co31) t338) ∧ Aside0 (wc.heap[gb337]? = some (.cells #[(.slice Ao27 t333.length co27), .int .i64 t336] 86 (0, 0))) ∧ Aside0 (wc.heap[gb342]? = some (.cells #[(.slice Ao31 t338.length co31), .int .i64 t341] 86 (0, 0))) ∧ Aside0 (Kd.C (Kd.int .u8) wc Ao38 y346.length y346) ∧ Aside0 (Kd.C (Kd.int .u8) wc Ao45 y359.length y359) ∧ Aside0 (Below w.heap.size w wc))
                      case first =>
                        have H := HC24.out
                        clear HC24
                        by_cases c50 : a3 ≥ 0
                        · rw [if_pos c50] at H
                          have c50b0 : decide (0 ≤ a3) = true := decide_eq_true c50
                          clear c50
                          (first | rw [c50b0] | (simp only [i64_w, i32_w]; rw [c50b0]) | skip)
                          have H' := Aside0.mk H
                          clear H
                          go_wp2
                          go_meet
                          case rel => exact ⟨_, (decide (a3 ≤ 64)), (by first | rfl | (simp; done) | (simp [*]; done)), H', ⟨by have := HJ7.out; first | omega | exact Nat.le_refl _⟩, ⟨by (with_reducible repeat (first | apply Kd.R_alloc | apply Kd.R_drewN | apply Kd.R_drew)); exact Kd.R_mono HO365.out (fun _ hk => ⟨hk.2, ⟨hk.1.1, hk.1.2.1⟩⟩)⟩, ⟨by (with_reducible repeat (first | apply Kd.R_alloc | apply Kd.R_drewN | apply Kd.R_drew)); exact Kd.R_mono HO371.out (fun _ hk => ⟨hk.2.2.2.2, ⟨hk.1, hk.2.1⟩⟩)⟩, ⟨by (with_reducible repeat (first | apply Kd.R_alloc | apply Kd.R_drewN | apply Kd.R_drew)); exact Kd.R_mono HO335.out (fun _ hk => ⟨hk.1.2.2.2, ⟨hk.2, hk.1.1⟩⟩)⟩, ⟨by (with_reducible repeat (first | apply Kd.R_alloc | apply Kd.R_drewN | apply Kd.R_drew)); exact Kd.R_mono HO340.out (fun _ hk => ⟨hk.1.2.2.2, ⟨hk.2, hk.1.1⟩⟩)⟩, ⟨by (with_reducible repeat (first | refine blk_drewN ?_ _ | refine blk_drew ?_ | refine blk_alloc ?_ _)); exact BK337.out⟩, ⟨by (with_reducible repeat (first | refine blk_drewN ?_ _ | refine blk_drew ?_ | refine blk_alloc ?_ _)); exact BK342.out⟩, ⟨by repeat (first | (with_reducible exact HR349.out) | (with_reducible refine Kd.C_alloc ?_ _) | (with_reducible refine Kd.C_drewN ?_ _) | (with_reducible refine Kd.C_drew ?_) | exact HR349.out)⟩, ⟨by repeat (first | (with_reducible exact HR362.out) | (with_reducible refine Kd.C_alloc ?_ _) | (with_reducible refine Kd.C_drewN ?_ _) | (with_reducible refine Kd.C_drew ?_) | exact HR362.out)⟩, ⟨by repeat (first | (with_reducible first | exact HB.out | apply below_alloc | apply pw_below_drewN | apply below_drew1 | refine below_set ?_ GE337.out | refine below_set ?_ GE342.out) | exact HB.out)⟩⟩
                        · rw [if_neg c50] at H
                          have c50b0 : decide (0 ≤ a3) = false := decide_eq_false c50
                          clear c50
                          (first | rw [c50b0] | (simp only [i64_w, i32_w]; rw [c50b0]) | skip)
                          have H' := Aside0.mk H
                          clear H
                          go_wp2
                          go_meet
                          case rel => exact ⟨_, (false), (by first | rfl | (simp; done) | (simp [*]; done)), H', ⟨by have := HJ7.out; first | omega | exact Nat.le_refl _⟩, ⟨by (with_reducible repeat (first | apply Kd.R_alloc | apply Kd.R_drewN | apply Kd.R_drew)); exact Kd.R_mono HO365.out (fun _ hk => ⟨hk.2, ⟨hk.1.1, hk.1.2.1⟩⟩)⟩, ⟨by (with_reducible repeat (first | apply Kd.R_alloc | apply Kd.R_drewN | apply Kd.R_drew)); exact Kd.R_mono HO371.out (fun _ hk => ⟨hk.2.2.2.2, ⟨hk.1, hk.2.1⟩⟩)⟩, ⟨by (with_reducible repeat (first | apply Kd.R_alloc | apply Kd.R_drewN | apply Kd.R_drew)); exact Kd.R_mono HO335.out (fun _ hk => ⟨hk.1.2.2.2, ⟨hk.2, hk.1.1⟩⟩)⟩, ⟨by (with_reducible repeat (first | apply Kd.R_alloc | apply Kd.R_drewN | apply Kd.R_drew)); exact Kd.R_mono HO340.out (fun _ hk => ⟨hk.1.2.2.2, ⟨hk.2, hk.1.1⟩⟩)⟩, ⟨by (with_reducible repeat (first | refine blk_drewN ?_ _ | refine blk_drew ?_ | refine blk_alloc ?_ _)); exact BK337.out⟩, ⟨by (with_reducible repeat (first | refine blk_drewN ?_ _ | refine blk_drew ?_ | refine blk_alloc ?_ _)); exact BK342.out⟩, ⟨by repeat (first | (with_reducible exact HR349.out) | (with_reducible refine Kd.C_alloc ?_ _) | (with_reducible refine Kd.C_drewN ?_ _) | (with_reducible refine Kd.C_drew ?_) | exact HR349.out)⟩, ⟨by repeat (first | (with_reducible exact HR362.out) | (with_reducible refine Kd.C_alloc ?_ _) | (with_reducible refine Kd.C_drewN ?_ _) | (with_reducible refine Kd.C_drew ?_) | exact HR362.out)⟩, ⟨by repeat (first | (with_reducible first | exact HB.out | apply below_alloc | apply pw_below_drewN | apply below_drew1 | refine below_set ?_ GE337.out | refine below_set ?_ GE342.out) | exact HB.out)⟩⟩
                      case rest =>
                        clear HC24
                        try clear c1
                        try clear c2
                        try clear p2
                        try clear c3
                        try clear q3
                        try clear c4
                        try clear q4
                        try clear c5
                        try clear c10
                        try clear c10b0
                        try clear c10b1
                        try clear c11
                        try clear c11b0
                        try clear c11b1
                        try clear c12
                        try clear c16
                        try clear c16b0
                        try clear c16b1
                        try clear c17
                        try clear c17b0
                        try clear c17b1
                        try clear c18
                        try clear c20
                        try clear c20b0
                        try clear c20b1
                        try clear c21
                        try clear c21b0
                        try clear c21b1
                        try clear c22
                        try clear c23
                        try clear c32
                        try clear q37
                        try clear c44
                        try clear q44
                        try clear c50
                        try clear c50b0
                        try clear hcz28_0
                        try clear hcz28_1
                        try clear hcz33_0
                        try clear hcz33_1
                        try clear hfz28_0
                        try clear hfz28_1
                        try clear hfz33_0
                        try clear hfz33_1
                        try clear p2
                        try clear q37
                        try clear q44
                        obtain ⟨kq, x66_23, rfl, HA, HJ23, HO_17, HO_18, HO_338000, HO_343000, BK337, BK342, HR349, HR362, HB⟩ := hcut
                        cases kq with
                        | zero => exact absurd HA.out (by simp [gaiterlaw01_BitsTells.j1])
                        | succ kj23 =>
                          have H := HA.out
                          clear HA
                          simp only [gaiterlaw01_BitsTells.j1] at H
                          have HC51 := Aside0.mk H
                          clear H
                          go_upto_if 66 with (fail)
                          go_cut [18] (fun v18 wc => ∃ (kq : Nat) (x18_50 : List Int), Aside0 (gaiterlaw01_BitsTells.j2 kq a2 a3 l4 a5 t332 y363 x18_50 t333 t336 t338 t341 = some r) ∧ Aside0 (kq ≤ kj23) ∧ Aside0 (Kd.R (Kd.int .u8) 5 wc w.heap.size (fun k_ => some k_ ≠ (v18 : Value).ownBlock ∧ some k_ ≠ ((.slice Ao27 t333.length co27) : Value).ownBlock ∧ some k_ ≠ ((.slice Ao31 t338.length co31) : Value).ownBlock) v364 y363) ∧ Aside0 (Kd.R (Kd.int .u8) 5 wc w.heap.size (fun k_ => some k_ ≠ (v364 : Value).ownBlock ∧ some k_ ≠ ((.slice Ao27 t333.length co27) : Value).ownBlock ∧ some k_ ≠ ((.slice Ao31 t338.length co31) : Value).ownBlock) v18 x18_50) ∧ Aside0 (Kd.R (Kd.int .u8) 5 wc w.heap.size (fun k_ => some k_ ≠ (v364 : Value).ownBlock ∧ some k_ ≠ (v18 : Value).ownBlock ∧ some k_ ≠ ((.slice Ao31 t338.length co31) : Value).ownBlock) (.slice Ao27 t333.length co27) t333) ∧ Aside0 (Kd.R (Kd.int .u8) 5 wc w.heap.size (fun k_ => some k_ ≠ (v364 : Value).ownBlock ∧ some k_ ≠ (v18 : Value).ownBlock ∧ some k_ ≠ ((.slice Ao27 t333.length co27) : Value).ownBlock) (.slice Ao31 t338.length co31) t338) ∧ Aside0 (wc.heap[gb337]? = some (.cells #[(.slice Ao27 t333.length co27), .int .i64 t336] 86 (0, 0))) ∧ Aside0 (wc.heap[gb342]? = some (.cells #[(.slice Ao31 t338.length co31), .int .i64 t341] 86 (0, 0))) ∧ Aside0 (Below w.heap.size w wc))
                          case first =>
                            have H := HC51.out
                            clear HC51
                            by_cases c52 : x66_23 = true
                            · subst c52
                              have H1 : ((gaiterref01_Low.f kj23 a2 a3).bind fun t372 => (if y369.length + t372.length < 140737488355328 then (gaiterlaw01_BitsTells.j2 kj23 a2 a3 l4 a5 t332 y363 (y369 ++ t372) t333 t336 t338 t341) else (none))) = some r := by rw [if_pos rfl] at H; exact H
                              clear H
                              have H := H1
                              clear H1
                              replace H := Option.bind_eq_some_iff.mp H
                              obtain ⟨t372, A530, H⟩ := H
                              replace H : (if y369.length + t372.length < 140737488355328 then (gaiterlaw01_BitsTells.j2 kj23 a2 a3 l4 a5 t332 y363 (y369 ++ t372) t333 t336 t338 t341) else (none)) = some r := H
                              have A53 := Aside0.mk A530
                              clear A530
                              by_cases c54 : y369.length + t372.length < 140737488355328
                              · rw [if_pos c54] at H
                                have LMc54 := Aside0.mk c54
                                clear c54
                                obtain ⟨y375, hy375⟩ : ∃ y_ : List Int, y_ = (y369 ++ t372) := ⟨_, rfl⟩
                                replace H : (gaiterlaw01_BitsTells.j2 kj23 a2 a3 l4 a5 t332 y363 y375 t333 t336 t338 t341) = some r := by first | (rw [hy375]; with_reducible exact H) | (have H2_ := (Option.bind_some _ _).symm.trans H; rw [hy375]; with_reducible exact H2_) | (have H2_ := (Option.bind_some _ _).symm.trans H; with_reducible exact H2_) | with_reducible exact H | (rw [hy375]; exact H) | exact H
                                have Ny375 := Aside0.mk hy375
                                clear hy375
                                have H' := Aside0.mk H
                                clear H
                                go_wp2_with (first | ((with_reducible refine gate_callee (f := 53) rfl ?_); refine goesL_ (some 70) rfl rfl Try.func53 (by kernel_rfl) rfl #[.int .u64 a2, .int .i64 a3] rfl (by (try simp only [List.map_toArray, List.map_cons, List.map_nil]); first | done | rfl | (simp only [List.length_drop, List.length_take]; rfl)) ?_; (with_reducible refine (gaiterref01_Low.calls kj23 a2 a3 t372 _ A53.out).mono ?_); rintro e w55 ⟨v373, rfl, ho0, hb⟩; refine ⟨_, rfl, ?_⟩; have n0_ := Aside0.mk (Kd.R_elder' (by (with_reducible repeat (first | apply Kd.R_alloc | apply Kd.R_drewN | apply Kd.R_drew)); exact HO_17.out) (Kd.R_base ho0) hb); have n1_ := Aside0.mk (Kd.R_elder' (by (with_reducible repeat (first | apply Kd.R_alloc | apply Kd.R_drewN | apply Kd.R_drew)); exact HO_18.out) (Kd.R_base ho0) hb); have n2_ := Aside0.mk (Kd.R_elder' (by (with_reducible repeat (first | apply Kd.R_alloc | apply Kd.R_drewN | apply Kd.R_drew)); exact HO_338000.out) (Kd.R_base ho0) hb); have n3_ := Aside0.mk (Kd.R_elder' (by (with_reducible repeat (first | apply Kd.R_alloc | apply Kd.R_drewN | apply Kd.R_drew)); exact HO_343000.out) (Kd.R_base ho0) hb); have n4_ := Aside0.mk (Kd.R_lower (Kd.R_new' (Kd.R_new' (Kd.R_new' (Kd.R_new' ho0 (Kd.R_lt (by (with_reducible repeat (first | apply Kd.R_alloc | apply Kd.R_drewN | apply Kd.R_drew)); exact HO_17.out))) (Kd.R_lt (by (with_reducible repeat (first | apply Kd.R_alloc | apply Kd.R_drewN | apply Kd.R_drew)); exact HO_18.out))) (Kd.R_lt (by (with_reducible repeat (first | apply Kd.R_alloc | apply Kd.R_drewN | apply Kd.R_drew)); exact HO_338000.out))) (Kd.R_lt (by (with_reducible repeat (first | apply Kd.R_alloc | apply Kd.R_drewN | apply Kd.R_drew)); exact HO_343000.out))) (below_size (by repeat (first | (with_reducible first | exact HB.out | apply below_alloc | apply pw_below_drewN | apply below_drew1 | refine below_set ?_ GE337.out | refine below_set ?_ GE342.out) | exact HB.out)))); have n5_ := Aside0.mk (blk_below (g := gb337) (o := .cells #[.slice Ao27 t333.length co27, .int .i64 t336] 86 (0, 0)) (by (with_reducible repeat (first | refine blk_drewN ?_ _ | refine blk_drew ?_ | refine blk_alloc ?_ _)); exact BK337.out) hb); have n6_ := Aside0.mk (blk_below (g := gb342) (o := .cells #[.slice Ao31 t338.length co31, .int .i64 t341] 86 (0, 0)) (by (with_reducible repeat (first | refine blk_drewN ?_ _ | refine blk_drew ?_ | refine blk_alloc ?_ _)); exact BK342.out) hb); have n7_ := Aside0.mk (Kd.C_below (by repeat (first | (with_reducible exact HR349.out) | (with_reducible refine Kd.C_alloc ?_ _) | (with_reducible refine Kd.C_drewN ?_ _) | (with_reducible refine Kd.C_drew ?_) | exact HR349.out)) hb); have n8_ := Aside0.mk (Kd.C_below (by repeat (first | (with_reducible exact HR362.out) | (with_reducible refine Kd.C_alloc ?_ _) | (with_reducible refine Kd.C_drewN ?_ _) | (with_reducible refine Kd.C_drew ?_) | exact HR362.out)) hb); have n9_ := Aside0.mk (below_step (by repeat (first | (with_reducible first | exact HB.out | apply below_alloc | apply pw_below_drewN | apply below_drew1 | refine below_set ?_ GE337.out | refine below_set ?_ GE342.out) | exact HB.out)) hb); clear HO_17; clear HO_18; clear HO_338000; clear HO_343000; clear BK337; clear BK342; clear HR349; clear HR362; clear HB; have HO_17 := n0_; have HO_18 := n1_; have HO_338000 := n2_; have HO_343000 := n3_; have HO374 := n4_; have BK337 := n5_; have BK342 := n6_; have HR349 := n7_; have HR362 := n8_; have HB := n9_; clear n0_ n1_ n2_ n3_ n4_ n5_ n6_ n7_ n8_ n9_; (try clear hb); (try clear hb2); (try clear hk); (try clear hi); (try clear ho0); obtain ⟨Ao57, co57, eo57⟩ := Kd.R_slice HO374.out; subst eo57) | ((with_reducible refine gate_builtin (b := .append) (xs := #[.tmp 67, .tmp 70]) rfl ?_); (try (refine gate_guard (by rfl) ?_; dsimp only)); at_builtin; refine Kd.R_append_rows (Kd.int .u8) (w0 := w) w.heap.size rfl (.tmp 67) (.tmp 70) 27 5 (.int .u8 0) 1 rfl Try.underlying27 info5 rfl (by decide) (by omega) v370 y369 t372 _ _ _ (fun k_ => some k_ ≠ (v364 : Value).ownBlock ∧ some k_ ≠ (.slice Ao27 t333.length co27 : Value).ownBlock ∧ some k_ ≠ (.slice Ao31 t338.length co31 : Value).ownBlock ∧ some k_ ≠ (.slice Ao57 t372.length co57 : Value).ownBlock) (fun _ => False) rfl rfl ?aO ?aR (fun _ _ h => h) (fun _ h => h.elim) ?aF ?aB ?aS ?aL ?_; (case aR => repeat (first | exact (Kd.R_reads' HO374.out).2.2 | (with_reducible refine Kd.C_alloc ?_ _) | (with_reducible refine Kd.C_drewN ?_ _) | (with_reducible refine Kd.C_drew ?_))); (case aB => exact (by repeat (first | (with_reducible first | exact HB.out | apply below_alloc | apply pw_below_drewN | apply below_drew1 | refine below_set ?_ GE337.out | refine below_set ?_ GE342.out) | exact HB.out))); (case aF => exact (fun k_ hk => ⟨Kd.fresh' (Kd.R_lt (by (with_reducible repeat (first | apply Kd.R_alloc | apply Kd.R_drewN | apply Kd.R_drew)); exact HO_17.out)) k_ hk, Kd.fresh' (Kd.R_lt (by (with_reducible repeat (first | apply Kd.R_alloc | apply Kd.R_drewN | apply Kd.R_drew)); exact HO_338000.out)) k_ hk, Kd.fresh' (Kd.R_lt (by (with_reducible repeat (first | apply Kd.R_alloc | apply Kd.R_drewN | apply Kd.R_drew)); exact HO_343000.out)) k_ hk, Kd.fresh' (Kd.R_lt (by (with_reducible repeat (first | apply Kd.R_alloc | apply Kd.R_drewN | apply Kd.R_drew)); exact HO374.out)) k_ hk⟩)); (case aO => exact (by (with_reducible repeat (first | apply Kd.R_alloc | apply Kd.R_drewN | apply Kd.R_drew)); exact Kd.R_mono HO_18.out (fun _ hk => ⟨hk.1.1, ⟨hk.1.2.1, ⟨hk.1.2.2, hk.2⟩⟩⟩))); (case aS => exact (below_size (by repeat (first | (with_reducible first | exact HB.out | apply below_alloc | apply pw_below_drewN | apply below_drew1 | refine below_set ?_ GE337.out | refine below_set ?_ GE342.out) | exact HB.out)))); (case aL => have := LMc54.out; omega); intro v376 w56 ho hb hg hat; rw [← Ny375.out] at ho; have n0_ := Aside0.mk (Kd.R_after (ok := (fun k_ => some k_ ≠ (.slice Ao27 t333.length co27 : Value).ownBlock ∧ some k_ ≠ (.slice Ao31 t338.length co31 : Value).ownBlock ∧ some k_ ≠ (.slice Ao57 t372.length co57 : Value).ownBlock)) (by (with_reducible repeat (first | apply Kd.R_alloc | apply Kd.R_drewN | apply Kd.R_drew)); exact Kd.R_mono HO_17.out (fun _ hk => ⟨⟨hk.1.2.1, ⟨hk.1.2.2, hk.2⟩⟩, hk.1.1⟩)) hg hat); have n1_ := Aside0.mk (Kd.R_after (ok := (fun k_ => some k_ ≠ (v364 : Value).ownBlock ∧ some k_ ≠ (.slice Ao31 t338.length co31 : Value).ownBlock ∧ some k_ ≠ (.slice Ao57 t372.length co57 : Value).ownBlock)) (by (with_reducible repeat (first | apply Kd.R_alloc | apply Kd.R_drewN | apply Kd.R_drew)); exact Kd.R_mono HO_338000.out (fun _ hk => ⟨⟨hk.1.1, ⟨hk.1.2.2, hk.2⟩⟩, hk.1.2.1⟩)) hg hat); have n2_ := Aside0.mk (Kd.R_after (ok := (fun k_ => some k_ ≠ (v364 : Value).ownBlock ∧ some k_ ≠ (.slice Ao27 t333.length co27 : Value).ownBlock ∧ some k_ ≠ (.slice Ao57 t372.length co57 : Value).ownBlock)) (by (with_reducible repeat (first | apply Kd.R_alloc | apply Kd.R_drewN | apply Kd.R_drew)); exact Kd.R_mono HO_343000.out (fun _ hk => ⟨⟨hk.1.1, ⟨hk.1.2.2, hk.2⟩⟩, hk.1.2.1⟩)) hg hat); have n3_ := Aside0.mk (blk_grown (g := gb337) (o := .cells #[.slice Ao27 t333.length co27, .int .i64 t336] 86 (0, 0)) (by (with_reducible repeat (first | refine blk_drewN ?_ _ | refine blk_drew ?_ | refine blk_alloc ?_ _)); exact BK337.out) hg (Kd.R_ne HO_18.out BK337.out (by decide))); have n4_ := Aside0.mk (blk_grown (g := gb342) (o := .cells #[.slice Ao31 t338.length co31, .int .i64 t341] 86 (0, 0)) (by (with_reducible repeat (first | refine blk_drewN ?_ _ | refine blk_drew ?_ | refine blk_alloc ?_ _)); exact BK342.out) hg (Kd.R_ne HO_18.out BK342.out (by decide))); have n5_ := Aside0.mk (Kd.R_after (ok := (fun k_ => some k_ ≠ (v364 : Value).ownBlock ∧ some k_ ≠ (.slice Ao27 t333.length co27 : Value).ownBlock ∧ some k_ ≠ (.slice Ao31 t338.length co31 : Value).ownBlock)) (by (with_reducible repeat (first | apply Kd.R_alloc | apply Kd.R_drewN | apply Kd.R_drew)); exact Kd.R_mono HO374.out (fun _ hk => ⟨⟨hk.1.1.1.2, ⟨hk.1.2, hk.2⟩⟩, hk.1.1.2⟩)) hg hat); have n6_ := Aside0.mk (hb); have n7_ := Aside0.mk (ho); clear HO_17; clear HO_338000; clear HO_343000; clear BK337; clear BK342; clear HO374; clear HB; clear HO_18; have HO_17 := n0_; have HO_338000 := n1_; have HO_343000 := n2_; have BK337 := n3_; have BK342 := n4_; have HO374 := n5_; have HB := n6_; have HO377 := n7_; clear n0_ n1_ n2_ n3_ n4_ n5_ n6_ n7_; clear ho hb hg hat))
                                go_meet
                                case rel => exact ⟨_, (y375), H', ⟨by have := HJ7.out; have := HJ23.out; first | omega | exact Nat.le_refl _⟩, ⟨by (with_reducible repeat (first | apply Kd.R_alloc | apply Kd.R_drewN | apply Kd.R_drew)); exact Kd.R_mono HO_17.out (fun _ hk => ⟨hk.2, ⟨hk.1.1, hk.1.2.1⟩⟩)⟩, ⟨by (with_reducible repeat (first | apply Kd.R_alloc | apply Kd.R_drewN | apply Kd.R_drew)); exact Kd.R_mono HO377.out (fun _ hk => ⟨hk.1, ⟨hk.2.1, hk.2.2.1⟩⟩)⟩, ⟨by (with_reducible repeat (first | apply Kd.R_alloc | apply Kd.R_drewN | apply Kd.R_drew)); exact Kd.R_mono HO_338000.out (fun _ hk => ⟨hk.1.1, ⟨hk.2, hk.1.2.1⟩⟩)⟩, ⟨by (with_reducible repeat (first | apply Kd.R_alloc | apply Kd.R_drewN | apply Kd.R_drew)); exact Kd.R_mono HO_343000.out (fun _ hk => ⟨hk.1.1, ⟨hk.2, hk.1.2.1⟩⟩)⟩, ⟨by (with_reducible repeat (first | refine blk_drewN ?_ _ | refine blk_drew ?_ | refine blk_alloc ?_ _)); exact BK337.out⟩, ⟨by (with_reducible repeat (first | refine blk_drewN ?_ _ | refine blk_drew ?_ | refine blk_alloc ?_ _)); exact BK342.out⟩, ⟨by repeat (first | (with_reducible first | exact HB.out | apply below_alloc | apply pw_below_drewN | apply below_drew1 | refine below_set ?_ GE337.out | refine below_set ?_ GE342.out) | exact HB.out)⟩⟩
                              · rw [if_neg c54] at H
                                exact absurd H (by simp)
                            · replace c52 := Bool.eq_false_iff.mpr c52
                              subst c52
                              have H1 : (gaiterlaw01_BitsTells.j2 kj23 a2 a3 l4 a5 t332 y363 y369 t333 t336 t338 t341) = some r := by rw [if_neg (show ¬ (false = true) by decide)] at H; exact H
                              clear H
                              have H := H1
                              clear H1
                              have H' := Aside0.mk H
                              clear H
                              go_wp2
                              go_meet
                              case rel => exact ⟨_, (y369), H', ⟨by have := HJ7.out; have := HJ23.out; first | omega | exact Nat.le_refl _⟩, ⟨by (with_reducible repeat (first | apply Kd.R_alloc | apply Kd.R_drewN | apply Kd.R_drew)); exact HO_17.out⟩, ⟨by (with_reducible repeat (first | apply Kd.R_alloc | apply Kd.R_drewN | apply Kd.R_drew)); exact HO_18.out⟩, ⟨by (with_reducible repeat (first | apply Kd.R_alloc | apply Kd.R_drewN | apply Kd.R_drew)); exact HO_338000.out⟩, ⟨by (with_reducible repeat (first | apply Kd.R_alloc | apply Kd.R_drewN | apply Kd.R_drew)); exact HO_343000.out⟩, ⟨by (with_reducible repeat (first | refine blk_drewN ?_ _ | refine blk_drew ?_ | refine blk_alloc ?_ _)); exact BK337.out⟩, ⟨by (with_reducible repeat (first | refine blk_drewN ?_ _ | refine blk_drew ?_ | refine blk_alloc ?_ _)); exact BK342.out⟩, ⟨by repeat (first | (with_reducible first | exact HB.out | apply below_alloc | apply pw_below_drewN | apply below_drew1 | refine below_set ?_ GE337.out | refine below_set ?_ GE342.out) | exact HB.out)⟩⟩
                          case rest =>
                            clear HC51
                            try clear c1
                            try clear c2
                            try clear p2
                            try clear c3
                            try clear q3
                            try clear c4
                            try clear q4
                            try clear c5
                            try clear c10
                            try clear c10b0
                            try clear c10b1
                            try clear c11
                            try clear c11b0
                            try clear c11b1
                            try clear c12
                            try clear c16
                            try clear c16b0
                            try clear c16b1
                            try clear c17
                            try clear c17b0
                            try clear c17b1
                            try clear c18
                            try clear c20
                            try clear c20b0
                            try clear c20b1
                            try clear c21
                            try clear c21b0
                            try clear c21b1
                            try clear c22
                            try clear c23
                            try clear c32
                            try clear q37
                            try clear c44
                            try clear q44
                            try clear c50
                            try clear c50b0
                            try clear c52
                            try clear c53
                            try clear c54
                            try clear hcz28_0
                            try clear hcz28_1
                            try clear hcz33_0
                            try clear hcz33_1
                            try clear hfz28_0
                            try clear hfz28_1
                            try clear hfz33_0
                            try clear hfz33_1
                            try clear p2
                            try clear q3
                            try clear q37
                            try clear q4
                            try clear q44
                            obtain ⟨kq, x18_50, HA, HJ50, HO_17, HO_18, HO_338000, HO_343000, BK337, BK342, HB⟩ := hcut
                            cases kq with
                            | zero => exact absurd HA.out (by simp [gaiterlaw01_BitsTells.j2])
                            | succ kj50 =>
                              have H := HA.out
                              clear HA
                              simp only [gaiterlaw01_BitsTells.j2] at H
                              replace H := Option.bind_eq_some_iff.mp H
                              obtain ⟨⟨t378, t379⟩, A580, H⟩ := H
                              replace H : ((gaiterref01_Take.f kj50 l4 a5 a3).bind fun bt380 => (if t332 = true then ((bits_Put.f kj50 t333 t336 a2 a3).bind fun bt382 => ((gaiterlaw00_Is.f kj50 bt382.1 bt382.2 x18_50).bind fun t386 => (if t386 = 1 then ((bits_Join.f kj50 t333 t336 t338 t341).bind fun bt387 => ((gaiterlaw00_Is.f kj50 bt387.1 bt387.2 y363).bind fun t391 => (if t391 = 1 then (if t378 = bt380.1 then (some (t379 == bt380.2)) else (some false)) else (some false)))) else (some false)))) else (some false))) = some r := H
                              have A58 := Aside0.mk A580
                              clear A580
                              replace H := Option.bind_eq_some_iff.mp H
                              obtain ⟨⟨t380, t381⟩, A590, H⟩ := H
                              replace H : (if t332 = true then ((bits_Put.f kj50 t333 t336 a2 a3).bind fun bt382 => ((gaiterlaw00_Is.f kj50 bt382.1 bt382.2 x18_50).bind fun t386 => (if t386 = 1 then ((bits_Join.f kj50 t333 t336 t338 t341).bind fun bt387 => ((gaiterlaw00_Is.f kj50 bt387.1 bt387.2 y363).bind fun t391 => (if t391 = 1 then (if t378 = t380 then (some (t379 == t381)) else (some false)) else (some false)))) else (some false)))) else (some false)) = some r := H
                              have A59 := Aside0.mk A590
                              clear A590
                              by_cases c60 : t332 = true
                              · subst c60
                                have H1 : ((bits_Put.f kj50 t333 t336 a2 a3).bind fun bt382 => ((gaiterlaw00_Is.f kj50 bt382.1 bt382.2 x18_50).bind fun t386 => (if t386 = 1 then ((bits_Join.f kj50 t333 t336 t338 t341).bind fun bt387 => ((gaiterlaw00_Is.f kj50 bt387.1 bt387.2 y363).bind fun t391 => (if t391 = 1 then (if t378 = t380 then (some (t379 == t381)) else (some false)) else (some false)))) else (some false)))) = some r := by rw [if_pos rfl] at H; exact H
                                clear H
                                have H := H1
                                clear H1
                                replace H := Option.bind_eq_some_iff.mp H
                                obtain ⟨⟨t382, t385⟩, A610, H⟩ := H
                                replace H : ((gaiterlaw00_Is.f kj50 t382 t385 x18_50).bind fun t386 => (if t386 = 1 then ((bits_Join.f kj50 t333 t336 t338 t341).bind fun bt387 => ((gaiterlaw00_Is.f kj50 bt387.1 bt387.2 y363).bind fun t391 => (if t391 = 1 then (if t378 = t380 then (some (t379 == t381)) else (some false)) else (some false)))) else (some false))) = some r := H
                                have A61 := Aside0.mk A610
                                clear A610
                                replace H := Option.bind_eq_some_iff.mp H
                                obtain ⟨t386, A620, H⟩ := H
                                replace H : (if t386 = 1 then ((bits_Join.f kj50 t333 t336 t338 t341).bind fun bt387 => ((gaiterlaw00_Is.f kj50 bt387.1 bt387.2 y363).bind fun t391 => (if t391 = 1 then (if t378 = t380 then (some (t379 == t381)) else (some false)) else (some false)))) else (some false)) = some r := H
                                have A62 := Aside0.mk A620
                                clear A620
                                by_cases c63 : t386 = 1
                                · rw [if_pos c63] at H
                                  have c63b0 : (t386 == 1) = true := beq_iff_eq.mpr c63
                                  have c63b1 : (t386 != 1) = false := bne_eq_false_iff_eq.mpr c63
                                  clear c63
                                  replace H := Option.bind_eq_some_iff.mp H
                                  obtain ⟨⟨t387, t390⟩, A640, H⟩ := H
                                  replace H : ((gaiterlaw00_Is.f kj50 t387 t390 y363).bind fun t391 => (if t391 = 1 then (if t378 = t380 then (some (t379 == t381)) else (some false)) else (some false))) = some r := H
                                  have A64 := Aside0.mk A640
                                  clear A640
                                  replace H := Option.bind_eq_some_iff.mp H
                                  obtain ⟨t391, A650, H⟩ := H
                                  replace H : (if t391 = 1 then (if t378 = t380 then (some (t379 == t381)) else (some false)) else (some false)) = some r := H
                                  have A65 := Aside0.mk A650
                                  clear A650
                                  by_cases c66 : t391 = 1
                                  · rw [if_pos c66] at H
                                    have c66b0 : (t391 == 1) = true := beq_iff_eq.mpr c66
                                    have c66b1 : (t391 != 1) = false := bne_eq_false_iff_eq.mpr c66
                                    clear c66
                                    by_cases c67 : t378 = t380
                                    · rw [if_pos c67] at H
                                      have c67b0 : (t378 == t380) = true := beq_iff_eq.mpr c67
                                      have c67b1 : (t378 != t380) = false := bne_eq_false_iff_eq.mpr c67
                                      clear c67
                                      obtain rfl := Option.some.inj H
                                      go_wp2_with (first | ((with_reducible refine gate_callee (f := 50) rfl ?_); refine goesL_ (some 76) rfl rfl Try.func50 (by kernel_rfl) rfl #[.slice A4 l4.length c4, .int .i64 a5, .int .i64 a3] rfl (by (try simp only [List.map_toArray, List.map_cons, List.map_nil]); first | done | rfl | (simp only [List.length_drop, List.length_take]; rfl)) ?_; (with_reducible refine (bits_Take.calls kj50 _ _ l4 a5 a3 t378 t379 _ ?side1 ?side2 A58.out).mono ?_); (case side1 => repeat (first | exact (Kd.C_below HR4.out HB.out) | (with_reducible refine Kd.C_alloc ?_ _) | (with_reducible refine Kd.C_drewN ?_ _) | (with_reducible refine Kd.C_drew ?_))); (case side2 => exact HC4.out); rintro e w' ⟨rfl, ⟨nd, rfl⟩⟩; refine ⟨_, rfl, ?_⟩) | ((with_reducible refine gate_callee (f := 54) rfl ?_); refine goesL_ (some 83) rfl rfl Try.func54 (by kernel_rfl) rfl #[.slice A4 l4.length c4, .int .i64 a5, .int .i64 a3] rfl (by (try simp only [List.map_toArray, List.map_cons, List.map_nil]); first | done | rfl | (simp only [List.length_drop, List.length_take]; rfl)) ?_; (with_reducible refine (gaiterref01_Take.calls kj50 _ _ l4 a5 a3 t380 t381 _ ?side1 ?side2 A59.out).mono ?_); (case side1 => repeat (first | exact (Kd.C_below HR4.out (by repeat (first | (with_reducible first | exact HB.out | apply below_alloc | apply pw_below_drewN | apply below_drew1 | refine below_set ?_ GE337.out | refine below_set ?_ GE342.out) | exact HB.out))) | (with_reducible refine Kd.C_alloc ?_ _) | (with_reducible refine Kd.C_drewN ?_ _) | (with_reducible refine Kd.C_drew ?_))); (case side2 => exact HC4.out); rintro e w68 ⟨rfl, hb⟩; refine ⟨_, rfl, ?_⟩; have n0_ := Aside0.mk (Kd.R_below (by (with_reducible repeat (first | apply Kd.R_alloc | apply Kd.R_drewN | apply Kd.R_drew)); exact HO_17.out) hb); have n1_ := Aside0.mk (Kd.R_below (by (with_reducible repeat (first | apply Kd.R_alloc | apply Kd.R_drewN | apply Kd.R_drew)); exact HO_18.out) hb); have n2_ := Aside0.mk (Kd.R_below (by (with_reducible repeat (first | apply Kd.R_alloc | apply Kd.R_drewN | apply Kd.R_drew)); exact HO_338000.out) hb); have n3_ := Aside0.mk (Kd.R_below (by (with_reducible repeat (first | apply Kd.R_alloc | apply Kd.R_drewN | apply Kd.R_drew)); exact HO_343000.out) hb); have n4_ := Aside0.mk (blk_below (g := gb337) (o := .cells #[.slice Ao27 t333.length co27, .int .i64 t336] 86 (0, 0)) (by (with_reducible repeat (first | refine blk_drewN ?_ _ | refine blk_drew ?_ | refine blk_alloc ?_ _)); exact BK337.out) hb); have n5_ := Aside0.mk (blk_below (g := gb342) (o := .cells #[.slice Ao31 t338.length co31, .int .i64 t341] 86 (0, 0)) (by (with_reducible repeat (first | refine blk_drewN ?_ _ | refine blk_drew ?_ | refine blk_alloc ?_ _)); exact BK342.out) hb); have n6_ := Aside0.mk (below_step (by repeat (first | (with_reducible first | exact HB.out | apply below_alloc | apply pw_below_drewN | apply below_drew1 | refine below_set ?_ GE337.out | refine below_set ?_ GE342.out) | exact HB.out)) hb); clear HO_17; clear HO_18; clear HO_338000; clear HO_343000; clear BK337; clear BK342; clear HB; have HO_17 := n0_; have HO_18 := n1_; have HO_338000 := n2_; have HO_343000 := n3_; have BK337 := n4_; have BK342 := n5_; have HB := n6_; clear n0_ n1_ n2_ n3_ n4_ n5_ n6_; (try clear hb); (try clear hb2); (try clear hk); (try clear hi); have hnb69 := NB337_342.out; have hnc69 := NB342_337.out; have hcz70_0 : w68.cell? ⟨gb337, 0, none⟩ = some (.slice Ao27 t333.length co27) := (blk_cell BK337.out 0).trans rfl; have hcz70_1 : w68.cell? ⟨gb337, 1, none⟩ = some (.int .i64 t336) := (blk_cell BK337.out 1).trans rfl; have hfz70_0 := blk_frozen BK337.out 0; have hfz70_1 := blk_frozen BK337.out 1) | (go_at_call 56; (with_reducible refine (bits_Put.calls kj50 _ _ t333 t336 a2 a3 t382 t385 _ ?side1 ?side2 A61.out).mono ?_); (case side1 => repeat (first | exact (Kd.R_reads' HO_338000.out).2.2 | (with_reducible refine Kd.C_alloc ?_ _) | (with_reducible refine Kd.C_drewN ?_ _) | (with_reducible refine Kd.C_drew ?_))); (case side2 => exact (Kd.R_reads' HO_338000.out).2.1); rintro e w71 ⟨v383, rfl, ho0, hb⟩; have n0_ := Aside0.mk (Kd.R_elder' (by (with_reducible repeat (first | apply Kd.R_alloc | apply Kd.R_drewN | apply Kd.R_drew)); exact HO_17.out) (Kd.R_base ho0) hb); have n1_ := Aside0.mk (Kd.R_elder' (by (with_reducible repeat (first | apply Kd.R_alloc | apply Kd.R_drewN | apply Kd.R_drew)); exact HO_18.out) (Kd.R_base ho0) hb); have n2_ := Aside0.mk (Kd.R_elder' (by (with_reducible repeat (first | apply Kd.R_alloc | apply Kd.R_drewN | apply Kd.R_drew)); exact HO_338000.out) (Kd.R_base ho0) hb); have n3_ := Aside0.mk (Kd.R_elder' (by (with_reducible repeat (first | apply Kd.R_alloc | apply Kd.R_drewN | apply Kd.R_drew)); exact HO_343000.out) (Kd.R_base ho0) hb); have n4_ := Aside0.mk (Kd.R_lower (Kd.R_new' (Kd.R_new' (Kd.R_new' (Kd.R_new' ho0 (Kd.R_lt (by (with_reducible repeat (first | apply Kd.R_alloc | apply Kd.R_drewN | apply Kd.R_drew)); exact HO_17.out))) (Kd.R_lt (by (with_reducible repeat (first | apply Kd.R_alloc | apply Kd.R_drewN | apply Kd.R_drew)); exact HO_18.out))) (Kd.R_lt (by (with_reducible repeat (first | apply Kd.R_alloc | apply Kd.R_drewN | apply Kd.R_drew)); exact HO_338000.out))) (Kd.R_lt (by (with_reducible repeat (first | apply Kd.R_alloc | apply Kd.R_drewN | apply Kd.R_drew)); exact HO_343000.out))) (below_size (by repeat (first | (with_reducible first | exact HB.out | apply below_alloc | apply pw_below_drewN | apply below_drew1 | refine below_set ?_ GE337.out | refine below_set ?_ GE342.out) | exact HB.out)))); have n5_ := Aside0.mk (blk_below (g := gb337) (o := .cells #[.slice Ao27 t333.length co27, .int .i64 t336] 86 (0, 0)) (by (with_reducible repeat (first | refine blk_drewN ?_ _ | refine blk_drew ?_ | refine blk_alloc ?_ _)); exact BK337.out) hb); have n6_ := Aside0.mk (blk_below (g := gb342) (o := .cells #[.slice Ao31 t338.length co31, .int .i64 t341] 86 (0, 0)) (by (with_reducible repeat (first | refine blk_drewN ?_ _ | refine blk_drew ?_ | refine blk_alloc ?_ _)); exact BK342.out) hb); have n7_ := Aside0.mk (below_step (by repeat (first | (with_reducible first | exact HB.out | apply below_alloc | apply pw_below_drewN | apply below_drew1 | refine below_set ?_ GE337.out | refine below_set ?_ GE342.out) | exact HB.out)) hb); clear HO_17; clear HO_18; clear HO_338000; clear HO_343000; clear BK337; clear BK342; clear HB; have HO_17 := n0_; have HO_18 := n1_; have HO_338000 := n2_; have HO_343000 := n3_; have HO384 := n4_; have BK337 := n5_; have BK342 := n6_; have HB := n7_; clear n0_ n1_ n2_ n3_ n4_ n5_ n6_ n7_; (try clear hb); (try clear hb2); (try clear hk); (try clear hi); (try clear ho0); obtain ⟨Ao72, co72, eo72⟩ := Kd.R_slice HO384.out; subst eo72; obtain ⟨Ao73, co73, eo73⟩ := Kd.R_slice HO_18.out; subst eo73) | (go_at_call 55; (with_reducible refine (gaiterlaw00_Is.calls kj50 _ _ t382 t385 _ _ x18_50 t386 _ ?side1 ?side2 ?side3 ?side4 A62.out).mono ?_); (case side1 => repeat (first | exact (Kd.R_reads' HO384.out).2.2 | (with_reducible refine Kd.C_alloc ?_ _) | (with_reducible refine Kd.C_drewN ?_ _) | (with_reducible refine Kd.C_drew ?_))); (case side2 => exact (Kd.R_reads' HO384.out).2.1); (case side3 => repeat (first | exact (Kd.R_reads' HO_18.out).2.2 | (with_reducible refine Kd.C_alloc ?_ _) | (with_reducible refine Kd.C_drewN ?_ _) | (with_reducible refine Kd.C_drew ?_))); (case side4 => exact (Kd.R_reads' HO_18.out).2.1); rintro e w74 ⟨rfl, hb⟩; have n0_ := Aside0.mk (Kd.R_below (by (with_reducible repeat (first | apply Kd.R_alloc | apply Kd.R_drewN | apply Kd.R_drew)); exact HO_17.out) hb); have n1_ := Aside0.mk (Kd.R_below (by (with_reducible repeat (first | apply Kd.R_alloc | apply Kd.R_drewN | apply Kd.R_drew)); exact HO_18.out) hb); have n2_ := Aside0.mk (Kd.R_below (by (with_reducible repeat (first | apply Kd.R_alloc | apply Kd.R_drewN | apply Kd.R_drew)); exact HO_338000.out) hb); have n3_ := Aside0.mk (Kd.R_below (by (with_reducible repeat (first | apply Kd.R_alloc | apply Kd.R_drewN | apply Kd.R_drew)); exact HO_343000.out) hb); have n4_ := Aside0.mk (Kd.R_below (by (with_reducible repeat (first | apply Kd.R_alloc | apply Kd.R_drewN | apply Kd.R_drew)); exact HO384.out) hb); have n5_ := Aside0.mk (blk_below (g := gb337) (o := .cells #[.slice Ao27 t333.length co27, .int .i64 t336] 86 (0, 0)) (by (with_reducible repeat (first | refine blk_drewN ?_ _ | refine blk_drew ?_ | refine blk_alloc ?_ _)); exact BK337.out) hb); have n6_ := Aside0.mk (blk_below (g := gb342) (o := .cells #[.slice Ao31 t338.length co31, .int .i64 t341] 86 (0, 0)) (by (with_reducible repeat (first | refine blk_drewN ?_ _ | refine blk_drew ?_ | refine blk_alloc ?_ _)); exact BK342.out) hb); have n7_ := Aside0.mk (below_step (by repeat (first | (with_reducible first | exact HB.out | apply below_alloc | apply pw_below_drewN | apply below_drew1 | refine below_set ?_ GE337.out | refine below_set ?_ GE342.out) | exact HB.out)) hb); clear HO_17; clear HO_18; clear HO_338000; clear HO_343000; clear HO384; clear BK337; clear BK342; clear HB; have HO_17 := n0_; have HO_18 := n1_; have HO_338000 := n2_; have HO_343000 := n3_; have HO384 := n4_; have BK337 := n5_; have BK342 := n6_; have HB := n7_; clear n0_ n1_ n2_ n3_ n4_ n5_ n6_ n7_; (try clear hb); (try clear hb2); (try clear hk); (try clear hi); have hcz75_0 : w74.cell? ⟨gb337, 0, none⟩ = some (.slice Ao27 t333.length co27) := (blk_cell BK337.out 0).trans rfl; have hcz75_1 : w74.cell? ⟨gb337, 1, none⟩ = some (.int .i64 t336) := (blk_cell BK337.out 1).trans rfl; have hfz75_0 := blk_frozen BK337.out 0; have hfz75_1 := blk_frozen BK337.out 1; have hcz76_0 : w74.cell? ⟨gb342, 0, none⟩ = some (.slice Ao31 t338.length co31) := (blk_cell BK342.out 0).trans rfl; have hcz76_1 : w74.cell? ⟨gb342, 1, none⟩ = some (.int .i64 t341) := (blk_cell BK342.out 1).trans rfl; have hfz76_0 := blk_frozen BK342.out 0; have hfz76_1 := blk_frozen BK342.out 1) | (go_at_call 57; (with_reducible refine (bits_Join.calls kj50 _ _ t333 t336 _ _ t338 t341 t387 t390 _ ?side1 ?side2 ?side3 ?side4 A64.out).mono ?_); (case side1 => repeat (first | exact (Kd.R_reads' HO_338000.out).2.2 | (with_reducible refine Kd.C_alloc ?_ _) | (with_reducible refine Kd.C_drewN ?_ _) | (with_reducible refine Kd.C_drew ?_))); (case side2 => exact (Kd.R_reads' HO_338000.out).2.1); (case side3 => repeat (first | exact (Kd.R_reads' HO_343000.out).2.2 | (with_reducible refine Kd.C_alloc ?_ _) | (with_reducible refine Kd.C_drewN ?_ _) | (with_reducible refine Kd.C_drew ?_))); (case side4 => exact (Kd.R_reads' HO_343000.out).2.1); rintro e w77 ⟨v388, rfl, ho0, hb⟩; have n0_ := Aside0.mk (Kd.R_elder' (by (with_reducible repeat (first | apply Kd.R_alloc | apply Kd.R_drewN | apply Kd.R_drew)); exact HO_17.out) (Kd.R_base ho0) hb); have n1_ := Aside0.mk (Kd.R_elder' (by (with_reducible repeat (first | apply Kd.R_alloc | apply Kd.R_drewN | apply Kd.R_drew)); exact HO_18.out) (Kd.R_base ho0) hb); have n2_ := Aside0.mk (Kd.R_elder' (by (with_reducible repeat (first | apply Kd.R_alloc | apply Kd.R_drewN | apply Kd.R_drew)); exact HO_338000.out) (Kd.R_base ho0) hb); have n3_ := Aside0.mk (Kd.R_elder' (by (with_reducible repeat (first | apply Kd.R_alloc | apply Kd.R_drewN | apply Kd.R_drew)); exact HO_343000.out) (Kd.R_base ho0) hb); have n4_ := Aside0.mk (Kd.R_elder' (by (with_reducible repeat (first | apply Kd.R_alloc | apply Kd.R_drewN | apply Kd.R_drew)); exact HO384.out) (Kd.R_base ho0) hb); have n5_ := Aside0.mk (Kd.R_lower (Kd.R_new' (Kd.R_new' (Kd.R_new' (Kd.R_new' (Kd.R_new' ho0 (Kd.R_lt (by (with_reducible repeat (first | apply Kd.R_alloc | apply Kd.R_drewN | apply Kd.R_drew)); exact HO_17.out))) (Kd.R_lt (by (with_reducible repeat (first | apply Kd.R_alloc | apply Kd.R_drewN | apply Kd.R_drew)); exact HO_18.out))) (Kd.R_lt (by (with_reducible repeat (first | apply Kd.R_alloc | apply Kd.R_drewN | apply Kd.R_drew)); exact HO_338000.out))) (Kd.R_lt (by (with_reducible repeat (first | apply Kd.R_alloc | apply Kd.R_drewN | apply Kd.R_drew)); exact HO_343000.out))) (Kd.R_lt (by (with_reducible repeat (first | apply Kd.R_alloc | apply Kd.R_drewN | apply Kd.R_drew)); exact HO384.out))) (below_size (by repeat (first | (with_reducible first | exact HB.out | apply below_alloc | apply pw_below_drewN | apply below_drew1 | refine below_set ?_ GE337.out | refine below_set ?_ GE342.out) | exact HB.out)))); have n6_ := Aside0.mk (blk_below (g := gb337) (o := .cells #[.slice Ao27 t333.length co27, .int .i64 t336] 86 (0, 0)) (by (with_reducible repeat (first | refine blk_drewN ?_ _ | refine blk_drew ?_ | refine blk_alloc ?_ _)); exact BK337.out) hb); have n7_ := Aside0.mk (blk_below (g := gb342) (o := .cells #[.slice Ao31 t338.length co31, .int .i64 t341] 86 (0, 0)) (by (with_reducible repeat (first | refine blk_drewN ?_ _ | refine blk_drew ?_ | refine blk_alloc ?_ _)); exact BK342.out) hb); have n8_ := Aside0.mk (below_step (by repeat (first | (with_reducible first | exact HB.out | apply below_alloc | apply pw_below_drewN | apply below_drew1 | refine below_set ?_ GE337.out | refine below_set ?_ GE342.out) | exact HB.out)) hb); clear HO_17; clear HO_18; clear HO_338000; clear HO_343000; clear HO384; clear BK337; clear BK342; clear HB; have HO_17 := n0_; have HO_18 := n1_; have HO_338000 := n2_; have HO_343000 := n3_; have HO384 := n4_; have HO389 := n5_; have BK337 := n6_; have BK342 := n7_; have HB := n8_; clear n0_ n1_ n2_ n3_ n4_ n5_ n6_ n7_ n8_; (try clear hb); (try clear hb2); (try clear hk); (try clear hi); (try clear ho0); obtain ⟨Ao78, co78, eo78⟩ := Kd.R_slice HO389.out; subst eo78; obtain ⟨Ao79, co79, eo79⟩ := Kd.R_slice HO_17.out; subst eo79) | (go_at_call 55; (with_reducible refine (gaiterlaw00_Is.calls kj50 _ _ t387 t390 _ _ y363 t391 _ ?side1 ?side2 ?side3 ?side4 A65.out).mono ?_); (case side1 => repeat (first | exact (Kd.R_reads' HO389.out).2.2 | (with_reducible refine Kd.C_alloc ?_ _) | (with_reducible refine Kd.C_drewN ?_ _) | (with_reducible refine Kd.C_drew ?_))); (case side2 => exact (Kd.R_reads' HO389.out).2.1); (case side3 => repeat (first | exact (Kd.R_reads' HO_17.out).2.2 | (with_reducible refine Kd.C_alloc ?_ _) | (with_reducible refine Kd.C_drewN ?_ _) | (with_reducible refine Kd.C_drew ?_))); (case side4 => exact (Kd.R_reads' HO_17.out).2.1); rintro e w80 ⟨rfl, hb⟩; have n0_ := Aside0.mk (Kd.R_below (by (with_reducible repeat (first | apply Kd.R_alloc | apply Kd.R_drewN | apply Kd.R_drew)); exact HO_17.out) hb); have n1_ := Aside0.mk (Kd.R_below (by (with_reducible repeat (first | apply Kd.R_alloc | apply Kd.R_drewN | apply Kd.R_drew)); exact HO_18.out) hb); have n2_ := Aside0.mk (Kd.R_below (by (with_reducible repeat (first | apply Kd.R_alloc | apply Kd.R_drewN | apply Kd.R_drew)); exact HO_338000.out) hb); have n3_ := Aside0.mk (Kd.R_below (by (with_reducible repeat (first | apply Kd.R_alloc | apply Kd.R_drewN | apply Kd.R_drew)); exact HO_343000.out) hb); have n4_ := Aside0.mk (Kd.R_below (by (with_reducible repeat (first | apply Kd.R_alloc | apply Kd.R_drewN | apply Kd.R_drew)); exact HO384.out) hb); have n5_ := Aside0.mk (Kd.R_below (by (with_reducible repeat (first | apply Kd.R_alloc | apply Kd.R_drewN | apply Kd.R_drew)); exact HO389.out) hb); have n6_ := Aside0.mk (blk_below (g := gb337) (o := .cells #[.slice Ao27 t333.length co27, .int .i64 t336] 86 (0, 0)) (by (with_reducible repeat (first | refine blk_drewN ?_ _ | refine blk_drew ?_ | refine blk_alloc ?_ _)); exact BK337.out) hb); have n7_ := Aside0.mk (blk_below (g := gb342) (o := .cells #[.slice Ao31 t338.length co31, .int .i64 t341] 86 (0, 0)) (by (with_reducible repeat (first | refine blk_drewN ?_ _ | refine blk_drew ?_ | refine blk_alloc ?_ _)); exact BK342.out) hb); have n8_ := Aside0.mk (below_step (by repeat (first | (with_reducible first | exact HB.out | apply below_alloc | apply pw_below_drewN | apply below_drew1 | refine below_set ?_ GE337.out | refine below_set ?_ GE342.out) | exact HB.out)) hb); clear HO_17; clear HO_18; clear HO_338000; clear HO_343000; clear HO384; clear HO389; clear BK337; clear BK342; clear HB; have HO_17 := n0_; have HO_18 := n1_; have HO_338000 := n2_; have HO_343000 := n3_; have HO384 := n4_; have HO389 := n5_; have BK337 := n6_; have BK342 := n7_; have HB := n8_; clear n0_ n1_ n2_ n3_ n4_ n5_ n6_ n7_ n8_; (try clear hb); (try clear hb2); (try clear hk); (try clear hi)))
                                      go_ret
                                      exact ⟨by first | rfl | (simp [errW_none, errW_some] <;> rfl) | (simp [*, errW_none, errW_some] <;> rfl), by repeat (first | (with_reducible first | exact HB.out | apply below_alloc | apply pw_below_drewN | apply below_drew1 | refine below_set ?_ GE337.out | refine below_set ?_ GE342.out) | exact HB.out)⟩
                                    · rw [if_neg c67] at H
                                      have c67b0 : (t378 == t380) = false := beq_eq_false_iff_ne.mpr c67
                                      have c67b1 : (t378 != t380) = true := bne_iff_ne.mpr c67
                                      obtain rfl := Option.some.inj H
                                      go_wp2_with (first | ((with_reducible refine gate_callee (f := 50) rfl ?_); refine goesL_ (some 76) rfl rfl Try.func50 (by kernel_rfl) rfl #[.slice A4 l4.length c4, .int .i64 a5, .int .i64 a3] rfl (by (try simp only [List.map_toArray, List.map_cons, List.map_nil]); first | done | rfl | (simp only [List.length_drop, List.length_take]; rfl)) ?_; (with_reducible refine (bits_Take.calls kj50 _ _ l4 a5 a3 t378 t379 _ ?side1 ?side2 A58.out).mono ?_); (case side1 => repeat (first | exact (Kd.C_below HR4.out HB.out) | (with_reducible refine Kd.C_alloc ?_ _) | (with_reducible refine Kd.C_drewN ?_ _) | (with_reducible refine Kd.C_drew ?_))); (case side2 => exact HC4.out); rintro e w' ⟨rfl, ⟨nd, rfl⟩⟩; refine ⟨_, rfl, ?_⟩) | ((with_reducible refine gate_callee (f := 54) rfl ?_); refine goesL_ (some 83) rfl rfl Try.func54 (by kernel_rfl) rfl #[.slice A4 l4.length c4, .int .i64 a5, .int .i64 a3] rfl (by (try simp only [List.map_toArray, List.map_cons, List.map_nil]); first | done | rfl | (simp only [List.length_drop, List.length_take]; rfl)) ?_; (with_reducible refine (gaiterref01_Take.calls kj50 _ _ l4 a5 a3 t380 t381 _ ?side1 ?side2 A59.out).mono ?_); (case side1 => repeat (first | exact (Kd.C_below HR4.out (by repeat (first | (with_reducible first | exact HB.out | apply below_alloc | apply pw_below_drewN | apply below_drew1 | refine below_set ?_ GE337.out | refine below_set ?_ GE342.out) | exact HB.out))) | (with_reducible refine Kd.C_alloc ?_ _) | (with_reducible refine Kd.C_drewN ?_ _) | (with_reducible refine Kd.C_drew ?_))); (case side2 => exact HC4.out); rintro e w81 ⟨rfl, hb⟩; refine ⟨_, rfl, ?_⟩; have n0_ := Aside0.mk (Kd.R_below (by (with_reducible repeat (first | apply Kd.R_alloc | apply Kd.R_drewN | apply Kd.R_drew)); exact HO_17.out) hb); have n1_ := Aside0.mk (Kd.R_below (by (with_reducible repeat (first | apply Kd.R_alloc | apply Kd.R_drewN | apply Kd.R_drew)); exact HO_18.out) hb); have n2_ := Aside0.mk (Kd.R_below (by (with_reducible repeat (first | apply Kd.R_alloc | apply Kd.R_drewN | apply Kd.R_drew)); exact HO_338000.out) hb); have n3_ := Aside0.mk (Kd.R_below (by (with_reducible repeat (first | apply Kd.R_alloc | apply Kd.R_drewN | apply Kd.R_drew)); exact HO_343000.out) hb); have n4_ := Aside0.mk (blk_below (g := gb337) (o := .cells #[.slice Ao27 t333.length co27, .int .i64 t336] 86 (0, 0)) (by (with_reducible repeat (first | refine blk_drewN ?_ _ | refine blk_drew ?_ | refine blk_alloc ?_ _)); exact BK337.out) hb); have n5_ := Aside0.mk (blk_below (g := gb342) (o := .cells #[.slice Ao31 t338.length co31, .int .i64 t341] 86 (0, 0)) (by (with_reducible repeat (first | refine blk_drewN ?_ _ | refine blk_drew ?_ | refine blk_alloc ?_ _)); exact BK342.out) hb); have n6_ := Aside0.mk (below_step (by repeat (first | (with_reducible first | exact HB.out | apply below_alloc | apply pw_below_drewN | apply below_drew1 | refine below_set ?_ GE337.out | refine below_set ?_ GE342.out) | exact HB.out)) hb); clear HO_17; clear HO_18; clear HO_338000; clear HO_343000; clear BK337; clear BK342; clear HB; have HO_17 := n0_; have HO_18 := n1_; have HO_338000 := n2_; have HO_343000 := n3_; have BK337 := n4_; have BK342 := n5_; have HB := n6_; clear n0_ n1_ n2_ n3_ n4_ n5_ n6_; (try clear hb); (try clear hb2); (try clear hk); (try clear hi); have hnb82 := NB337_342.out; have hnc82 := NB342_337.out; have hcz83_0 : w81.cell? ⟨gb337, 0, none⟩ = some (.slice Ao27 t333.length co27) := (blk_cell BK337.out 0).trans rfl; have hcz83_1 : w81.cell? ⟨gb337, 1, none⟩ = some (.int .i64 t336) := (blk_cell BK337.out 1).trans rfl; have hfz83_0 := blk_frozen BK337.out 0; have hfz83_1 := blk_frozen BK337.out 1) | (go_at_call 56; (with_reducible refine (bits_Put.calls kj50 _ _ t333 t336 a2 a3 t382 t385 _ ?side1 ?side2 A61.out).mono ?_); (case side1 => repeat (first | exact (Kd.R_reads' HO_338000.out).2.2 | (with_reducible refine Kd.C_alloc ?_ _) | (with_reducible refine Kd.C_drewN ?_ _) | (with_reducible refine Kd.C_drew ?_))); (case side2 => exact (Kd.R_reads' HO_338000.out).2.1); rintro e w84 ⟨v383, rfl, ho0, hb⟩; have n0_ := Aside0.mk (Kd.R_elder' (by (with_reducible repeat (first | apply Kd.R_alloc | apply Kd.R_drewN | apply Kd.R_drew)); exact HO_17.out) (Kd.R_base ho0) hb); have n1_ := Aside0.mk (Kd.R_elder' (by (with_reducible repeat (first | apply Kd.R_alloc | apply Kd.R_drewN | apply Kd.R_drew)); exact HO_18.out) (Kd.R_base ho0) hb); have n2_ := Aside0.mk (Kd.R_elder' (by (with_reducible repeat (first | apply Kd.R_alloc | apply Kd.R_drewN | apply Kd.R_drew)); exact HO_338000.out) (Kd.R_base ho0) hb); have n3_ := Aside0.mk (Kd.R_elder' (by (with_reducible repeat (first | apply Kd.R_alloc | apply Kd.R_drewN | apply Kd.R_drew)); exact HO_343000.out) (Kd.R_base ho0) hb); have n4_ := Aside0.mk (Kd.R_lower (Kd.R_new' (Kd.R_new' (Kd.R_new' (Kd.R_new' ho0 (Kd.R_lt (by (with_reducible repeat (first | apply Kd.R_alloc | apply Kd.R_drewN | apply Kd.R_drew)); exact HO_17.out))) (Kd.R_lt (by (with_reducible repeat (first | apply Kd.R_alloc | apply Kd.R_drewN | apply Kd.R_drew)); exact HO_18.out))) (Kd.R_lt (by (with_reducible repeat (first | apply Kd.R_alloc | apply Kd.R_drewN | apply Kd.R_drew)); exact HO_338000.out))) (Kd.R_lt (by (with_reducible repeat (first | apply Kd.R_alloc | apply Kd.R_drewN | apply Kd.R_drew)); exact HO_343000.out))) (below_size (by repeat (first | (with_reducible first | exact HB.out | apply below_alloc | apply pw_below_drewN | apply below_drew1 | refine below_set ?_ GE337.out | refine below_set ?_ GE342.out) | exact HB.out)))); have n5_ := Aside0.mk (blk_below (g := gb337) (o := .cells #[.slice Ao27 t333.length co27, .int .i64 t336] 86 (0, 0)) (by (with_reducible repeat (first | refine blk_drewN ?_ _ | refine blk_drew ?_ | refine blk_alloc ?_ _)); exact BK337.out) hb); have n6_ := Aside0.mk (blk_below (g := gb342) (o := .cells #[.slice Ao31 t338.length co31, .int .i64 t341] 86 (0, 0)) (by (with_reducible repeat (first | refine blk_drewN ?_ _ | refine blk_drew ?_ | refine blk_alloc ?_ _)); exact BK342.out) hb); have n7_ := Aside0.mk (below_step (by repeat (first | (with_reducible first | exact HB.out | apply below_alloc | apply pw_below_drewN | apply below_drew1 | refine below_set ?_ GE337.out | refine below_set ?_ GE342.out) | exact HB.out)) hb); clear HO_17; clear HO_18; clear HO_338000; clear HO_343000; clear BK337; clear BK342; clear HB; have HO_17 := n0_; have HO_18 := n1_; have HO_338000 := n2_; have HO_343000 := n3_; have HO384 := n4_; have BK337 := n5_; have BK342 := n6_; have HB := n7_; clear n0_ n1_ n2_ n3_ n4_ n5_ n6_ n7_; (try clear hb); (try clear hb2); (try clear hk); (try clear hi); (try clear ho0); obtain ⟨Ao85, co85, eo85⟩ := Kd.R_slice HO384.out; subst eo85; obtain ⟨Ao86, co86, eo86⟩ := Kd.R_slice HO_18.out; subst eo86) | (go_at_call 55; (with_reducible refine (gaiterlaw00_Is.calls kj50 _ _ t382 t385 _ _ x18_50 t386 _ ?side1 ?side2 ?side3 ?side4 A62.out).mono ?_); (case side1 => repeat (first | exact (Kd.R_reads' HO384.out).2.2 | (with_reducible refine Kd.C_alloc ?_ _) | (with_reducible refine Kd.C_drewN ?_ _) | (with_reducible refine Kd.C_drew ?_))); (case side2 => exact (Kd.R_reads' HO384.out).2.1); (case side3 => repeat (first | exact (Kd.R_reads' HO_18.out).2.2 | (with_reducible refine Kd.C_alloc ?_ _) | (with_reducible refine Kd.C_drewN ?_ _) | (with_reducible refine Kd.C_drew ?_))); (case side4 => exact (Kd.R_reads' HO_18.out).2.1); rintro e w87 ⟨rfl, hb⟩; have n0_ := Aside0.mk (Kd.R_below (by (with_reducible repeat (first | apply Kd.R_alloc | apply Kd.R_drewN | apply Kd.R_drew)); exact HO_17.out) hb); have n1_ := Aside0.mk (Kd.R_below (by (with_reducible repeat (first | apply Kd.R_alloc | apply Kd.R_drewN | apply Kd.R_drew)); exact HO_18.out) hb); have n2_ := Aside0.mk (Kd.R_below (by (with_reducible repeat (first | apply Kd.R_alloc | apply Kd.R_drewN | apply Kd.R_drew)); exact HO_338000.out) hb); have n3_ := Aside0.mk (Kd.R_below (by (with_reducible repeat (first | apply Kd.R_alloc | apply Kd.R_drewN | apply Kd.R_drew)); exact HO_343000.out) hb); have n4_ := Aside0.mk (Kd.R_below (by (with_reducible repeat (first | apply Kd.R_alloc | apply Kd.R_drewN | apply Kd.R_drew)); exact HO384.out) hb); have n5_ := Aside0.mk (blk_below (g := gb337) (o := .cells #[.slice Ao27 t333.length co27, .int .i64 t336] 86 (0, 0)) (by (with_reducible repeat (first | refine blk_drewN ?_ _ | refine blk_drew ?_ | refine blk_alloc ?_ _)); exact BK337.out) hb); have n6_ := Aside0.mk (blk_below (g := gb342) (o := .cells #[.slice Ao31 t338.length co31, .int .i64 t341] 86 (0, 0)) (by (with_reducible repeat (first | refine blk_drewN ?_ _ | refine blk_drew ?_ | refine blk_alloc ?_ _)); exact BK342.out) hb); have n7_ := Aside0.mk (below_step (by repeat (first | (with_reducible first | exact HB.out | apply below_alloc | apply pw_below_drewN | apply below_drew1 | refine below_set ?_ GE337.out | refine below_set ?_ GE342.out) | exact HB.out)) hb); clear HO_17; clear HO_18; clear HO_338000; clear HO_343000; clear HO384; clear BK337; clear BK342; clear HB; have HO_17 := n0_; have HO_18 := n1_; have HO_338000 := n2_; have HO_343000 := n3_; have HO384 := n4_; have BK337 := n5_; have BK342 := n6_; have HB := n7_; clear n0_ n1_ n2_ n3_ n4_ n5_ n6_ n7_; (try clear hb); (try clear hb2); (try clear hk); (try clear hi); have hcz88_0 : w87.cell? ⟨gb337, 0, none⟩ = some (.slice Ao27 t333.length co27) := (blk_cell BK337.out 0).trans rfl; have hcz88_1 : w87.cell? ⟨gb337, 1, none⟩ = some (.int .i64 t336) := (blk_cell BK337.out 1).trans rfl; have hfz88_0 := blk_frozen BK337.out 0; have hfz88_1 := blk_frozen BK337.out 1; have hcz89_0 : w87.cell? ⟨gb342, 0, none⟩ = some (.slice Ao31 t338.length co31) := (blk_cell BK342.out 0).trans rfl; have hcz89_1 : w87.cell? ⟨gb342, 1, none⟩ = some (.int .i64 t341) := (blk_cell BK342.out 1).trans rfl; have hfz89_0 := blk_frozen BK342.out 0; have hfz89_1 := blk_frozen BK342.out 1) | (go_at_call 57; (with_reducible refine (bits_Join.calls kj50 _ _ t333 t336 _ _ t338 t341 t387 t390 _ ?side1 ?side2 ?side3 ?side4 A64.out).mono ?_); (case side1 => repeat (first | exact (Kd.R_reads' HO_338000.out).2.2 | (with_reducible refine Kd.C_alloc ?_ _) | (with_reducible refine Kd.C_drewN ?_ _) | (with_reducible refine Kd.C_drew ?_))); (case side2 => exact (Kd.R_reads' HO_338000.out).2.1); (case side3 => repeat (first | exact (Kd.R_reads' HO_343000.out).2.2 | (with_reducible refine Kd.C_alloc ?_ _) | (with_reducible refine Kd.C_drewN ?_ _) | (with_reducible refine Kd.C_drew ?_))); (case side4 => exact (Kd.R_reads' HO_343000.out).2.1); rintro e w90 ⟨v388, rfl, ho0, hb⟩; have n0_ := Aside0.mk (Kd.R_elder' (by (with_reducible repeat (first | apply Kd.R_alloc | apply Kd.R_drewN | apply Kd.R_drew)); exact HO_17.out) (Kd.R_base ho0) hb); have n1_ := Aside0.mk (Kd.R_elder' (by (with_reducible repeat (first | apply Kd.R_alloc | apply Kd.R_drewN | apply Kd.R_drew)); exact HO_18.out) (Kd.R_base ho0) hb); have n2_ := Aside0.mk (Kd.R_elder' (by (with_reducible repeat (first | apply Kd.R_alloc | apply Kd.R_drewN | apply Kd.R_drew)); exact HO_338000.out) (Kd.R_base ho0) hb); have n3_ := Aside0.mk (Kd.R_elder' (by (with_reducible repeat (first | apply Kd.R_alloc | apply Kd.R_drewN | apply Kd.R_drew)); exact HO_343000.out) (Kd.R_base ho0) hb); have n4_ := Aside0.mk (Kd.R_elder' (by (with_reducible repeat (first | apply Kd.R_alloc | apply Kd.R_drewN | apply Kd.R_drew)); exact HO384.out) (Kd.R_base ho0) hb); have n5_ := Aside0.mk (Kd.R_lower (Kd.R_new' (Kd.R_new' (Kd.R_new' (Kd.R_new' (Kd.R_new' ho0 (Kd.R_lt (by (with_reducible repeat (first | apply Kd.R_alloc | apply Kd.R_drewN | apply Kd.R_drew)); exact HO_17.out))) (Kd.R_lt (by (with_reducible repeat (first | apply Kd.R_alloc | apply Kd.R_drewN | apply Kd.R_drew)); exact HO_18.out))) (Kd.R_lt (by (with_reducible repeat (first | apply Kd.R_alloc | apply Kd.R_drewN | apply Kd.R_drew)); exact HO_338000.out))) (Kd.R_lt (by (with_reducible repeat (first | apply Kd.R_alloc | apply Kd.R_drewN | apply Kd.R_drew)); exact HO_343000.out))) (Kd.R_lt (by (with_reducible repeat (first | apply Kd.R_alloc | apply Kd.R_drewN | apply Kd.R_drew)); exact HO384.out))) (below_size (by repeat (first | (with_reducible first | exact HB.out | apply below_alloc | apply pw_below_drewN | apply below_drew1 | refine below_set ?_ GE337.out | refine below_set ?_ GE342.out) | exact HB.out)))); have n6_ := Aside0.mk (blk_below (g := gb337) (o := .cells #[.slice Ao27 t333.length co27, .int .i64 t336] 86 (0, 0)) (by (with_reducible repeat (first | refine blk_drewN ?_ _ | refine blk_drew ?_ | refine blk_alloc ?_ _)); exact BK337.out) hb); have n7_ := Aside0.mk (blk_below (g := gb342) (o := .cells #[.slice Ao31 t338.length co31, .int .i64 t341] 86 (0, 0)) (by (with_reducible repeat (first | refine blk_drewN ?_ _ | refine blk_drew ?_ | refine blk_alloc ?_ _)); exact BK342.out) hb); have n8_ := Aside0.mk (below_step (by repeat (first | (with_reducible first | exact HB.out | apply below_alloc | apply pw_below_drewN | apply below_drew1 | refine below_set ?_ GE337.out | refine below_set ?_ GE342.out) | exact HB.out)) hb); clear HO_17; clear HO_18; clear HO_338000; clear HO_343000; clear HO384; clear BK337; clear BK342; clear HB; have HO_17 := n0_; have HO_18 := n1_; have HO_338000 := n2_; have HO_343000 := n3_; have HO384 := n4_; have HO389 := n5_; have BK337 := n6_; have BK342 := n7_; have HB := n8_; clear n0_ n1_ n2_ n3_ n4_ n5_ n6_ n7_ n8_; (try clear hb); (try clear hb2); (try clear hk); (try clear hi); (try clear ho0); obtain ⟨Ao91, co91, eo91⟩ := Kd.R_slice HO389.out; subst eo91; obtain ⟨Ao92, co92, eo92⟩ := Kd.R_slice HO_17.out; subst eo92) | (go_at_call 55; (with_reducible refine (gaiterlaw00_Is.calls kj50 _ _ t387 t390 _ _ y363 t391 _ ?side1 ?side2 ?side3 ?side4 A65.out).mono ?_); (case side1 => repeat (first | exact (Kd.R_reads' HO389.out).2.2 | (with_reducible refine Kd.C_alloc ?_ _) | (with_reducible refine Kd.C_drewN ?_ _) | (with_reducible refine Kd.C_drew ?_))); (case side2 => exact (Kd.R_reads' HO389.out).2.1); (case side3 => repeat (first | exact (Kd.R_reads' HO_17.out).2.2 | (with_reducible refine Kd.C_alloc ?_ _) | (with_reducible refine Kd.C_drewN ?_ _) | (with_reducible refine Kd.C_drew ?_))); (case side4 => exact (Kd.R_reads' HO_17.out).2.1); rintro e w93 ⟨rfl, hb⟩; have n0_ := Aside0.mk (Kd.R_below (by (with_reducible repeat (first | apply Kd.R_alloc | apply Kd.R_drewN | apply Kd.R_drew)); exact HO_17.out) hb); have n1_ := Aside0.mk (Kd.R_below (by (with_reducible repeat (first | apply Kd.R_alloc | apply Kd.R_drewN | apply Kd.R_drew)); exact HO_18.out) hb); have n2_ := Aside0.mk (Kd.R_below (by (with_reducible repeat (first | apply Kd.R_alloc | apply Kd.R_drewN | apply Kd.R_drew)); exact HO_338000.out) hb); have n3_ := Aside0.mk (Kd.R_below (by (with_reducible repeat (first | apply Kd.R_alloc | apply Kd.R_drewN | apply Kd.R_drew)); exact HO_343000.out) hb); have n4_ := Aside0.mk (Kd.R_below (by (with_reducible repeat (first | apply Kd.R_alloc | apply Kd.R_drewN | apply Kd.R_drew)); exact HO384.out) hb); have n5_ := Aside0.mk (Kd.R_below (by (with_reducible repeat (first | apply Kd.R_alloc | apply Kd.R_drewN | apply Kd.R_drew)); exact HO389.out) hb); have n6_ := Aside0.mk (blk_below (g := gb337) (o := .cells #[.slice Ao27 t333.length co27, .int .i64 t336] 86 (0, 0)) (by (with_reducible repeat (first | refine blk_drewN ?_ _ | refine blk_drew ?_ | refine blk_alloc ?_ _)); exact BK337.out) hb); have n7_ := Aside0.mk (blk_below (g := gb342) (o := .cells #[.slice Ao31 t338.length co31, .int .i64 t341] 86 (0, 0)) (by (with_reducible repeat (first | refine blk_drewN ?_ _ | refine blk_drew ?_ | refine blk_alloc ?_ _)); exact BK342.out) hb); have n8_ := Aside0.mk (below_step (by repeat (first | (with_reducible first | exact HB.out | apply below_alloc | apply pw_below_drewN | apply below_drew1 | refine below_set ?_ GE337.out | refine below_set ?_ GE342.out) | exact HB.out)) hb); clear HO_17; clear HO_18; clear HO_338000; clear HO_343000; clear HO384; clear HO389; clear BK337; clear BK342; clear HB; have HO_17 := n0_; have HO_18 := n1_; have HO_338000 := n2_; have HO_343000 := n3_; have HO384 := n4_; have HO389 := n5_; have BK337 := n6_; have BK342 := n7_; have HB := n8_; clear n0_ n1_ n2_ n3_ n4_ n5_ n6_ n7_ n8_; (try clear hb); (try clear hb2); (try clear hk); (try clear hi)))
                                      go_ret
                                      exact ⟨by first | rfl | (simp [errW_none, errW_some] <;> rfl) | (simp [*, errW_none, errW_some] <;> rfl), by repeat (first | (with_reducible first | exact HB.out | apply below_alloc | apply pw_below_drewN | apply below_drew1 | refine below_set ?_ GE337.out | refine below_set ?_ GE342.out) | exact HB.out)⟩
                                  · rw [if_neg c66] at H
                                    have c66b0 : (t391 == 1) = false := beq_eq_false_iff_ne.mpr c66
                                    have c66b1 : (t391 != 1) = true := bne_iff_ne.mpr c66
                                    obtain rfl := Option.some.inj H
                                    go_wp2_with (first | ((with_reducible refine gate_callee (f := 50) rfl ?_); refine goesL_ (some 76) rfl rfl Try.func50 (by kernel_rfl) rfl #[.slice A4 l4.length c4, .int .i64 a5, .int .i64 a3] rfl (by (try simp only [List.map_toArray, List.map_cons, List.map_nil]); first | done | rfl | (simp only [List.length_drop, List.length_take]; rfl)) ?_; (with_reducible refine (bits_Take.calls kj50 _ _ l4 a5 a3 t378 t379 _ ?side1 ?side2 A58.out).mono ?_); (case side1 => repeat (first | exact (Kd.C_below HR4.out HB.out) | (with_reducible refine Kd.C_alloc ?_ _) | (with_reducible refine Kd.C_drewN ?_ _) | (with_reducible refine Kd.C_drew ?_))); (case side2 => exact HC4.out); rintro e w' ⟨rfl, ⟨nd, rfl⟩⟩; refine ⟨_, rfl, ?_⟩) | ((with_reducible refine gate_callee (f := 54) rfl ?_); refine goesL_ (some 83) rfl rfl Try.func54 (by kernel_rfl) rfl #[.slice A4 l4.length c4, .int .i64 a5, .int .i64 a3] rfl (by (try simp only [List.map_toArray, List.map_cons, List.map_nil]); first | done | rfl | (simp only [List.length_drop, List.length_take]; rfl)) ?_; (with_reducible refine (gaiterref01_Take.calls kj50 _ _ l4 a5 a3 t380 t381 _ ?side1 ?side2 A59.out).mono ?_); (case side1 => repeat (first | exact (Kd.C_below HR4.out (by repeat (first | (with_reducible first | exact HB.out | apply below_alloc | apply pw_below_drewN | apply below_drew1 | refine below_set ?_ GE337.out | refine below_set ?_ GE342.out) | exact HB.out))) | (with_reducible refine Kd.C_alloc ?_ _) | (with_reducible refine Kd.C_drewN ?_ _) | (with_reducible refine Kd.C_drew ?_))); (case side2 => exact HC4.out); rintro e w94 ⟨rfl, hb⟩; refine ⟨_, rfl, ?_⟩; have n0_ := Aside0.mk (Kd.R_below (by (with_reducible repeat (first | apply Kd.R_alloc | apply Kd.R_drewN | apply Kd.R_drew)); exact HO_17.out) hb); have n1_ := Aside0.mk (Kd.R_below (by (with_reducible repeat (first | apply Kd.R_alloc | apply Kd.R_drewN | apply Kd.R_drew)); exact HO_18.out) hb); have n2_ := Aside0.mk (Kd.R_below (by (with_reducible repeat (first | apply Kd.R_alloc | apply Kd.R_drewN | apply Kd.R_drew)); exact HO_338000.out) hb); have n3_ := Aside0.mk (Kd.R_below (by (with_reducible repeat (first | apply Kd.R_alloc | apply Kd.R_drewN | apply Kd.R_drew)); exact HO_343000.out) hb); have n4_ := Aside0.mk (blk_below (g := gb337) (o := .cells #[.slice Ao27 t333.length co27, .int .i64 t336] 86 (0, 0)) (by (with_reducible repeat (first | refine blk_drewN ?_ _ | refine blk_drew ?_ | refine blk_alloc ?_ _)); exact BK337.out) hb); have n5_ := Aside0.mk (blk_below (g := gb342) (o := .cells #[.slice Ao31 t338.length co31, .int .i64 t341] 86 (0, 0)) (by (with_reducible repeat (first | refine blk_drewN ?_ _ | refine blk_drew ?_ | refine blk_alloc ?_ _)); exact BK342.out) hb); have n6_ := Aside0.mk (below_step (by repeat (first | (with_reducible first | exact HB.out | apply below_alloc | apply pw_below_drewN | apply below_drew1 | refine below_set ?_ GE337.out | refine below_set ?_ GE342.out) | exact HB.out)) hb); clear HO_17; clear HO_18; clear HO_338000; clear HO_343000; clear BK337; clear BK342; clear HB; have HO_17 := n0_; have HO_18 := n1_; have HO_338000 := n2_; have HO_343000 := n3_; have BK337 := n4_; have BK342 := n5_; have HB := n6_; clear n0_ n1_ n2_ n3_ n4_ n5_ n6_; (try clear hb); (try clear hb2); (try clear hk); (try clear hi); have hnb95 := NB337_342.out; have hnc95 := NB342_337.out; have hcz96_0 : w94.cell? ⟨gb337, 0, none⟩ = some (.slice Ao27 t333.length co27) := (blk_cell BK337.out 0).trans rfl; have hcz96_1 : w94.cell? ⟨gb337, 1, none⟩ = some (.int .i64 t336) := (blk_cell BK337.out 1).trans rfl; have hfz96_0 := blk_frozen BK337.out 0; have hfz96_1 := blk_frozen BK337.out 1) | (go_at_call 56; (with_reducible refine (bits_Put.calls kj50 _ _ t333 t336 a2 a3 t382 t385 _ ?side1 ?side2 A61.out).mono ?_); (case side1 => repeat (first | exact (Kd.R_reads' HO_338000.out).2.2 | (with_reducible refine Kd.C_alloc ?_ _) | (with_reducible refine Kd.C_drewN ?_ _) | (with_reducible refine Kd.C_drew ?_))); (case side2 => exact (Kd.R_reads' HO_338000.out).2.1); rintro e w97 ⟨v383, rfl, ho0, hb⟩; have n0_ := Aside0.mk (Kd.R_elder' (by (with_reducible repeat (first | apply Kd.R_alloc | apply Kd.R_drewN | apply Kd.R_drew)); exact HO_17.out) (Kd.R_base ho0) hb); have n1_ := Aside0.mk (Kd.R_elder' (by (with_reducible repeat (first | apply Kd.R_alloc | apply Kd.R_drewN | apply Kd.R_drew)); exact HO_18.out) (Kd.R_base ho0) hb); have n2_ := Aside0.mk (Kd.R_elder' (by (with_reducible repeat (first | apply Kd.R_alloc | apply Kd.R_drewN | apply Kd.R_drew)); exact HO_338000.out) (Kd.R_base ho0) hb); have n3_ := Aside0.mk (Kd.R_elder' (by (with_reducible repeat (first | apply Kd.R_alloc | apply Kd.R_drewN | apply Kd.R_drew)); exact HO_343000.out) (Kd.R_base ho0) hb); have n4_ := Aside0.mk (Kd.R_lower (Kd.R_new' (Kd.R_new' (Kd.R_new' (Kd.R_new' ho0 (Kd.R_lt (by (with_reducible repeat (first | apply Kd.R_alloc | apply Kd.R_drewN | apply Kd.R_drew)); exact HO_17.out))) (Kd.R_lt (by (with_reducible repeat (first | apply Kd.R_alloc | apply Kd.R_drewN | apply Kd.R_drew)); exact HO_18.out))) (Kd.R_lt (by (with_reducible repeat (first | apply Kd.R_alloc | apply Kd.R_drewN | apply Kd.R_drew)); exact HO_338000.out))) (Kd.R_lt (by (with_reducible repeat (first | apply Kd.R_alloc | apply Kd.R_drewN | apply Kd.R_drew)); exact HO_343000.out))) (below_size (by repeat (first | (with_reducible first | exact HB.out | apply below_alloc | apply pw_below_drewN | apply below_drew1 | refine below_set ?_ GE337.out | refine below_set ?_ GE342.out) | exact HB.out)))); have n5_ := Aside0.mk (blk_below (g := gb337) (o := .cells #[.slice Ao27 t333.length co27, .int .i64 t336] 86 (0, 0)) (by (with_reducible repeat (first | refine blk_drewN ?_ _ | refine blk_drew ?_ | refine blk_alloc ?_ _)); exact BK337.out) hb); have n6_ := Aside0.mk (blk_below (g := gb342) (o := .cells #[.slice Ao31 t338.length co31, .int .i64 t341] 86 (0, 0)) (by (with_reducible repeat (first | refine blk_drewN ?_ _ | refine blk_drew ?_ | refine blk_alloc ?_ _)); exact BK342.out) hb); have n7_ := Aside0.mk (below_step (by repeat (first | (with_reducible first | exact HB.out | apply below_alloc | apply pw_below_drewN | apply below_drew1 | refine below_set ?_ GE337.out | refine below_set ?_ GE342.out) | exact HB.out)) hb); clear HO_17; clear HO_18; clear HO_338000; clear HO_343000; clear BK337; clear BK342; clear HB; have HO_17 := n0_; have HO_18 := n1_; have HO_338000 := n2_; have HO_343000 := n3_; have HO384 := n4_; have BK337 := n5_; have BK342 := n6_; have HB := n7_; clear n0_ n1_ n2_ n3_ n4_ n5_ n6_ n7_; (try clear hb); (try clear hb2); (try clear hk); (try clear hi); (try clear ho0); obtain ⟨Ao98, co98, eo98⟩ := Kd.R_slice HO384.out; subst eo98; obtain ⟨Ao99, co99, eo99⟩ := Kd.R_slice HO_18.out; subst eo99) | (go_at_call 55; (with_reducible refine (gaiterlaw00_Is.calls kj50 _ _ t382 t385 _ _ x18_50 t386 _ ?side1 ?side2 ?side3 ?side4 A62.out).mono ?_); (case side1 => repeat (first | exact (Kd.R_reads' HO384.out).2.2 | (with_reducible refine Kd.C_alloc ?_ _) | (with_reducible refine Kd.C_drewN ?_ _) | (with_reducible refine Kd.C_drew ?_))); (case side2 => exact (Kd.R_reads' HO384.out).2.1); (case side3 => repeat (first | exact (Kd.R_reads' HO_18.out).2.2 | (with_reducible refine Kd.C_alloc ?_ _) | (with_reducible refine Kd.C_drewN ?_ _) | (with_reducible refine Kd.C_drew ?_))); (case side4 => exact (Kd.R_reads' HO_18.out).2.1); rintro e w100 ⟨rfl, hb⟩; have n0_ := Aside0.mk (Kd.R_below (by (with_reducible repeat (first | apply Kd.R_alloc | apply Kd.R_drewN | apply Kd.R_drew)); exact HO_17.out) hb); have n1_ := Aside0.mk (Kd.R_below (by (with_reducible repeat (first | apply Kd.R_alloc | apply Kd.R_drewN | apply Kd.R_drew)); exact HO_18.out) hb); have n2_ := Aside0.mk (Kd.R_below (by (with_reducible repeat (first | apply Kd.R_alloc | apply Kd.R_drewN | apply Kd.R_drew)); exact HO_338000.out) hb); have n3_ := Aside0.mk (Kd.R_below (by (with_reducible repeat (first | apply Kd.R_alloc | apply Kd.R_drewN | apply Kd.R_drew)); exact HO_343000.out) hb); have n4_ := Aside0.mk (Kd.R_below (by (with_reducible repeat (first | apply Kd.R_alloc | apply Kd.R_drewN | apply Kd.R_drew)); exact HO384.out) hb); have n5_ := Aside0.mk (blk_below (g := gb337) (o := .cells #[.slice Ao27 t333.length co27, .int .i64 t336] 86 (0, 0)) (by (with_reducible repeat (first | refine blk_drewN ?_ _ | refine blk_drew ?_ | refine blk_alloc ?_ _)); exact BK337.out) hb); have n6_ := Aside0.mk (blk_below (g := gb342) (o := .cells #[.slice Ao31 t338.length co31, .int .i64 t341] 86 (0, 0)) (by (with_reducible repeat (first | refine blk_drewN ?_ _ | refine blk_drew ?_ | refine blk_alloc ?_ _)); exact BK342.out) hb); have n7_ := Aside0.mk (below_step (by repeat (first | (with_reducible first | exact HB.out | apply below_alloc | apply pw_below_drewN | apply below_drew1 | refine below_set ?_ GE337.out | refine below_set ?_ GE342.out) | exact HB.out)) hb); clear HO_17; clear HO_18; clear HO_338000; clear HO_343000; clear HO384; clear BK337; clear BK342; clear HB; have HO_17 := n0_; have HO_18 := n1_; have HO_338000 := n2_; have HO_343000 := n3_; have HO384 := n4_; have BK337 := n5_; have BK342 := n6_; have HB := n7_; clear n0_ n1_ n2_ n3_ n4_ n5_ n6_ n7_; (try clear hb); (try clear hb2); (try clear hk); (try clear hi); have hcz101_0 : w100.cell? ⟨gb337, 0, none⟩ = some (.slice Ao27 t333.length co27) := (blk_cell BK337.out 0).trans rfl; have hcz101_1 : w100.cell? ⟨gb337, 1, none⟩ = some (.int .i64 t336) := (blk_cell BK337.out 1).trans rfl; have hfz101_0 := blk_frozen BK337.out 0; have hfz101_1 := blk_frozen BK337.out 1; have hcz102_0 : w100.cell? ⟨gb342, 0, none⟩ = some (.slice Ao31 t338.length co31) := (blk_cell BK342.out 0).trans rfl; have hcz102_1 : w100.cell? ⟨gb342, 1, none⟩ = some (.int .i64 t341) := (blk_cell BK342.out 1).trans rfl; have hfz102_0 := blk_frozen BK342.out 0; have hfz102_1 := blk_frozen BK342.out 1) | (go_at_call 57; (with_reducible refine (bits_Join.calls kj50 _ _ t333 t336 _ _ t338 t341 t387 t390 _ ?side1 ?side2 ?side3 ?side4 A64.out).mono ?_); (case side1 => repeat (first | exact (Kd.R_reads' HO_338000.out).2.2 | (with_reducible refine Kd.C_alloc ?_ _) | (with_reducible refine Kd.C_drewN ?_ _) | (with_reducible refine Kd.C_drew ?_))); (case side2 => exact (Kd.R_reads' HO_338000.out).2.1); (case side3 => repeat (first | exact (Kd.R_reads' HO_343000.out).2.2 | (with_reducible refine Kd.C_alloc ?_ _) | (with_reducible refine Kd.C_drewN ?_ _) | (with_reducible refine Kd.C_drew ?_))); (case side4 => exact (Kd.R_reads' HO_343000.out).2.1); rintro e w103 ⟨v388, rfl, ho0, hb⟩; have n0_ := Aside0.mk (Kd.R_elder' (by (with_reducible repeat (first | apply Kd.R_alloc | apply Kd.R_drewN | apply Kd.R_drew)); exact HO_17.out) (Kd.R_base ho0) hb); have n1_ := Aside0.mk (Kd.R_elder' (by (with_reducible repeat (first | apply Kd.R_alloc | apply Kd.R_drewN | apply Kd.R_drew)); exact HO_18.out) (Kd.R_base ho0) hb); have n2_ := Aside0.mk (Kd.R_elder' (by (with_reducible repeat (first | apply Kd.R_alloc | apply Kd.R_drewN | apply Kd.R_drew)); exact HO_338000.out) (Kd.R_base ho0) hb); have n3_ := Aside0.mk (Kd.R_elder' (by (with_reducible repeat (first | apply Kd.R_alloc | apply Kd.R_drewN | apply Kd.R_drew)); exact HO_343000.out) (Kd.R_base ho0) hb); have n4_ := Aside0.mk (Kd.R_elder' (by (with_reducible repeat (first | apply Kd.R_alloc | apply Kd.R_drewN | apply Kd.R_drew)); exact HO384.out) (Kd.R_base ho0) hb); have n5_ := Aside0.mk (Kd.R_lower (Kd.R_new' (Kd.R_new' (Kd.R_new' (Kd.R_new' (Kd.R_new' ho0 (Kd.R_lt (by (with_reducible repeat (first | apply Kd.R_alloc | apply Kd.R_drewN | apply Kd.R_drew)); exact HO_17.out))) (Kd.R_lt (by (with_reducible repeat (first | apply Kd.R_alloc | apply Kd.R_drewN | apply Kd.R_drew)); exact HO_18.out))) (Kd.R_lt (by (with_reducible repeat (first | apply Kd.R_alloc | apply Kd.R_drewN | apply Kd.R_drew)); exact HO_338000.out))) (Kd.R_lt (by (with_reducible repeat (first | apply Kd.R_alloc | apply Kd.R_drewN | apply Kd.R_drew)); exact HO_343000.out))) (Kd.R_lt (by (with_reducible repeat (first | apply Kd.R_alloc | apply Kd.R_drewN | apply Kd.R_drew)); exact HO384.out))) (below_size (by repeat (first | (with_reducible first | exact HB.out | apply below_alloc | apply pw_below_drewN | apply below_drew1 | refine below_set ?_ GE337.out | refine below_set ?_ GE342.out) | exact HB.out)))); have n6_ := Aside0.mk (blk_below (g := gb337) (o := .cells #[.slice Ao27 t333.length co27, .int .i64 t336] 86 (0, 0)) (by (with_reducible repeat (first | refine blk_drewN ?_ _ | refine blk_drew ?_ | refine blk_alloc ?_ _)); exact BK337.out) hb); have n7_ := Aside0.mk (blk_below (g := gb342) (o := .cells #[.slice Ao31 t338.length co31, .int .i64 t341] 86 (0, 0)) (by (with_reducible repeat (first | refine blk_drewN ?_ _ | refine blk_drew ?_ | refine blk_alloc ?_ _)); exact BK342.out) hb); have n8_ := Aside0.mk (below_step (by repeat (first | (with_reducible first | exact HB.out | apply below_alloc | apply pw_below_drewN | apply below_drew1 | refine below_set ?_ GE337.out | refine below_set ?_ GE342.out) | exact HB.out)) hb); clear HO_17; clear HO_18; clear HO_338000; clear HO_343000; clear HO384; clear BK337; clear BK342; clear HB; have HO_17 := n0_; have HO_18 := n1_; have HO_338000 := n2_; have HO_343000 := n3_; have HO384 := n4_; have HO389 := n5_; have BK337 := n6_; have BK342 := n7_; have HB := n8_; clear n0_ n1_ n2_ n3_ n4_ n5_ n6_ n7_ n8_; (try clear hb); (try clear hb2); (try clear hk); (try clear hi); (try clear ho0); obtain ⟨Ao104, co104, eo104⟩ := Kd.R_slice HO389.out; subst eo104; obtain ⟨Ao105, co105, eo105⟩ := Kd.R_slice HO_17.out; subst eo105) | (go_at_call 55; (with_reducible refine (gaiterlaw00_Is.calls kj50 _ _ t387 t390 _ _ y363 t391 _ ?side1 ?side2 ?side3 ?side4 A65.out).mono ?_); (case side1 => repeat (first | exact (Kd.R_reads' HO389.out).2.2 | (with_reducible refine Kd.C_alloc ?_ _) | (with_reducible refine Kd.C_drewN ?_ _) | (with_reducible refine Kd.C_drew ?_))); (case side2 => exact (Kd.R_reads' HO389.out).2.1); (case side3 => repeat (first | exact (Kd.R_reads' HO_17.out).2.2 | (with_reducible refine Kd.C_alloc ?_ _) | (with_reducible refine Kd.C_drewN ?_ _) | (with_reducible refine Kd.C_drew ?_))); (case side4 => exact (Kd.R_reads' HO_17.out).2.1); rintro e w106 ⟨rfl, hb⟩; have n0_ := Aside0.mk (Kd.R_below (by (with_reducible repeat (first | apply Kd.R_alloc | apply Kd.R_drewN | apply Kd.R_drew)); exact HO_17.out) hb); have n1_ := Aside0.mk (Kd.R_below (by (with_reducible repeat (first | apply Kd.R_alloc | apply Kd.R_drewN | apply Kd.R_drew)); exact HO_18.out) hb); have n2_ := Aside0.mk (Kd.R_below (by (with_reducible repeat (first | apply Kd.R_alloc | apply Kd.R_drewN | apply Kd.R_drew)); exact HO_338000.out) hb); have n3_ := Aside0.mk (Kd.R_below (by (with_reducible repeat (first | apply Kd.R_alloc | apply Kd.R_drewN | apply Kd.R_drew)); exact HO_343000.out) hb); have n4_ := Aside0.mk (Kd.R_below (by (with_reducible repeat (first | apply Kd.R_alloc | apply Kd.R_drewN | apply Kd.R_drew)); exact HO384.out) hb); have n5_ := Aside0.mk (Kd.R_below (by (with_reducible repeat (first | apply Kd.R_alloc | apply Kd.R_drewN | apply Kd.R_drew)); exact HO389.out) hb); have n6_ := Aside0.mk (blk_below (g := gb337) (o := .cells #[.slice Ao27 t333.length co27, .int .i64 t336] 86 (0, 0)) (by (with_reducible repeat (first | refine blk_drewN ?_ _ | refine blk_drew ?_ | refine blk_alloc ?_ _)); exact BK337.out) hb); have n7_ := Aside0.mk (blk_below (g := gb342) (o := .cells #[.slice Ao31 t338.length co31, .int .i64 t341] 86 (0, 0)) (by (with_reducible repeat (first | refine blk_drewN ?_ _ | refine blk_drew ?_ | refine blk_alloc ?_ _)); exact BK342.out) hb); have n8_ := Aside0.mk (below_step (by repeat (first | (with_reducible first | exact HB.out | apply below_alloc | apply pw_below_drewN | apply below_drew1 | refine below_set ?_ GE337.out | refine below_set ?_ GE342.out) | exact HB.out)) hb); clear HO_17; clear HO_18; clear HO_338000; clear HO_343000; clear HO384; clear HO389; clear BK337; clear BK342; clear HB; have HO_17 := n0_; have HO_18 := n1_; have HO_338000 := n2_; have HO_343000 := n3_; have HO384 := n4_; have HO389 := n5_; have BK337 := n6_; have BK342 := n7_; have HB := n8_; clear n0_ n1_ n2_ n3_ n4_ n5_ n6_ n7_ n8_; (try clear hb); (try clear hb2); (try clear hk); (try clear hi)))
                                    go_ret
                                    exact ⟨by first | rfl | (simp [errW_none, errW_some] <;> rfl) | (simp [*, errW_none, errW_some] <;> rfl), by repeat (first | (with_reducible first | exact HB.out | apply below_alloc | apply pw_below_drewN | apply below_drew1 | refine below_set ?_ GE337.out | refine below_set ?_ GE342.out) | exact HB.out)⟩
                                · rw [if_neg c63] at H
                                  have c63b0 : (t386 == 1) = false := beq_eq_false_iff_ne.mpr c63
                                  have c63b1 : (t386 != 1) = true := bne_iff_ne.mpr c63
                                  obtain rfl := Option.some.inj H
                                  go_wp2_with (first | ((with_reducible refine gate_callee (f := 50) rfl ?_); refine goesL_ (some 76) rfl rfl Try.func50 (by kernel_rfl) rfl #[.slice A4 l4.length c4, .int .i64 a5, .int .i64 a3] rfl (by (try simp only [List.map_toArray, List.map_cons, List.map_nil]); first | done | rfl | (simp only [List.length_drop, List.length_take]; rfl)) ?_; (with_reducible refine (bits_Take.calls kj50 _ _ l4 a5 a3 t378 t379 _ ?side1 ?side2 A58.out).mono ?_); (case side1 => repeat (first | exact (Kd.C_below HR4.out HB.out) | (with_reducible refine Kd.C_alloc ?_ _) | (with_reducible refine Kd.C_drewN ?_ _) | (with_reducible refine Kd.C_drew ?_))); (case side2 => exact HC4.out); rintro e w' ⟨rfl, ⟨nd, rfl⟩⟩; refine ⟨_, rfl, ?_⟩) | ((with_reducible refine gate_callee (f := 54) rfl ?_); refine goesL_ (some 83) rfl rfl Try.func54 (by kernel_rfl) rfl #[.slice A4 l4.length c4, .int .i64 a5, .int .i64 a3] rfl (by (try simp only [List.map_toArray, List.map_cons, List.map_nil]); first | done | rfl | (simp only [List.length_drop, List.length_take]; rfl)) ?_; (with_reducible refine (gaiterref01_Take.calls kj50 _ _ l4 a5 a3 t380 t381 _ ?side1 ?side2 A59.out).mono ?_); (case side1 => repeat (first | exact (Kd.C_below HR4.out (by repeat (first | (with_reducible first | exact HB.out | apply below_alloc | apply pw_below_drewN | apply below_drew1 | refine below_set ?_ GE337.out | refine below_set ?_ GE342.out) | exact HB.out))) | (with_reducible refine Kd.C_alloc ?_ _) | (with_reducible refine Kd.C_drewN ?_ _) | (with_reducible refine Kd.C_drew ?_))); (case side2 => exact HC4.out); rintro e w107 ⟨rfl, hb⟩; refine ⟨_, rfl, ?_⟩; have n0_ := Aside0.mk (Kd.R_below (by (with_reducible repeat (first | apply Kd.R_alloc | apply Kd.R_drewN | apply Kd.R_drew)); exact HO_17.out) hb); have n1_ := Aside0.mk (Kd.R_below (by (with_reducible repeat (first | apply Kd.R_alloc | apply Kd.R_drewN | apply Kd.R_drew)); exact HO_18.out) hb); have n2_ := Aside0.mk (Kd.R_below (by (with_reducible repeat (first | apply Kd.R_alloc | apply Kd.R_drewN | apply Kd.R_drew)); exact HO_338000.out) hb); have n3_ := Aside0.mk (Kd.R_below (by (with_reducible repeat (first | apply Kd.R_alloc | apply Kd.R_drewN | apply Kd.R_drew)); exact HO_343000.out) hb); have n4_ := Aside0.mk (blk_below (g := gb337) (o := .cells #[.slice Ao27 t333.length co27, .int .i64 t336] 86 (0, 0)) (by (with_reducible repeat (first | refine blk_drewN ?_ _ | refine blk_drew ?_ | refine blk_alloc ?_ _)); exact BK337.out) hb); have n5_ := Aside0.mk (blk_below (g := gb342) (o := .cells #[.slice Ao31 t338.length co31, .int .i64 t341] 86 (0, 0)) (by (with_reducible repeat (first | refine blk_drewN ?_ _ | refine blk_drew ?_ | refine blk_alloc ?_ _)); exact BK342.out) hb); have n6_ := Aside0.mk (below_step (by repeat (first | (with_reducible first | exact HB.out | apply below_alloc | apply pw_below_drewN | apply below_drew1 | refine below_set ?_ GE337.out | refine below_set ?_ GE342.out) | exact HB.out)) hb); clear HO_17; clear HO_18; clear HO_338000; clear HO_343000; clear BK337; clear BK342; clear HB; have HO_17 := n0_; have HO_18 := n1_; have HO_338000 := n2_; have HO_343000 := n3_; have BK337 := n4_; have BK342 := n5_; have HB := n6_; clear n0_ n1_ n2_ n3_ n4_ n5_ n6_; (try clear hb); (try clear hb2); (try clear hk); (try clear hi); have hnb108 := NB337_342.out; have hnc108 := NB342_337.out; have hcz109_0 : w107.cell? ⟨gb337, 0, none⟩ = some (.slice Ao27 t333.length co27) := (blk_cell BK337.out 0).trans rfl; have hcz109_1 : w107.cell? ⟨gb337, 1, none⟩ = some (.int .i64 t336) := (blk_cell BK337.out 1).trans rfl; have hfz109_0 := blk_frozen BK337.out 0; have hfz109_1 := blk_frozen BK337.out 1) | (go_at_call 56; (with_reducible refine (bits_Put.calls kj50 _ _ t333 t336 a2 a3 t382 t385 _ ?side1 ?side2 A61.out).mono ?_); (case side1 => repeat (first | exact (Kd.R_reads' HO_338000.out).2.2 | (with_reducible refine Kd.C_alloc ?_ _) | (with_reducible refine Kd.C_drewN ?_ _) | (with_reducible refine Kd.C_drew ?_))); (case side2 => exact (Kd.R_reads' HO_338000.out).2.1); rintro e w110 ⟨v383, rfl, ho0, hb⟩; have n0_ := Aside0.mk (Kd.R_elder' (by (with_reducible repeat (first | apply Kd.R_alloc | apply Kd.R_drewN | apply Kd.R_drew)); exact HO_17.out) (Kd.R_base ho0) hb); have n1_ := Aside0.mk (Kd.R_elder' (by (with_reducible repeat (first | apply Kd.R_alloc | apply Kd.R_drewN | apply Kd.R_drew)); exact HO_18.out) (Kd.R_base ho0) hb); have n2_ := Aside0.mk (Kd.R_elder' (by (with_reducible repeat (first | apply Kd.R_alloc | apply Kd.R_drewN | apply Kd.R_drew)); exact HO_338000.out) (Kd.R_base ho0) hb); have n3_ := Aside0.mk (Kd.R_elder' (by (with_reducible repeat (first | apply Kd.R_alloc | apply Kd.R_drewN | apply Kd.R_drew)); exact HO_343000.out) (Kd.R_base ho0) hb); have n4_ := Aside0.mk (Kd.R_lower (Kd.R_new' (Kd.R_new' (Kd.R_new' (Kd.R_new' ho0 (Kd.R_lt (by (with_reducible repeat (first | apply Kd.R_alloc | apply Kd.R_drewN | apply Kd.R_drew)); exact HO_17.out))) (Kd.R_lt (by (with_reducible repeat (first | apply Kd.R_alloc | apply Kd.R_drewN | apply Kd.R_drew)); exact HO_18.out))) (Kd.R_lt (by (with_reducible repeat (first | apply Kd.R_alloc | apply Kd.R_drewN | apply Kd.R_drew)); exact HO_338000.out))) (Kd.R_lt (by (with_reducible repeat (first | apply Kd.R_alloc | apply Kd.R_drewN | apply Kd.R_drew)); exact HO_343000.out))) (below_size (by repeat (first | (with_reducible first | exact HB.out | apply below_alloc | apply pw_below_drewN | apply below_drew1 | refine below_set ?_ GE337.out | refine below_set ?_ GE342.out) | exact HB.out)))); have n5_ := Aside0.mk (blk_below (g := gb337) (o := .cells #[.slice Ao27 t333.length co27, .int .i64 t336] 86 (0, 0)) (by (with_reducible repeat (first | refine blk_drewN ?_ _ | refine blk_drew ?_ | refine blk_alloc ?_ _)); exact BK337.out) hb); have n6_ := Aside0.mk (blk_below (g := gb342) (o := .cells #[.slice Ao31 t338.length co31, .int .i64 t341] 86 (0, 0)) (by (with_reducible repeat (first | refine blk_drewN ?_ _ | refine blk_drew ?_ | refine blk_alloc ?_ _)); exact BK342.out) hb); have n7_ := Aside0.mk (below_step (by repeat (first | (with_reducible first | exact HB.out | apply below_alloc | apply pw_below_drewN | apply below_drew1 | refine below_set ?_ GE337.out | refine below_set ?_ GE342.out) | exact HB.out)) hb); clear HO_17; clear HO_18; clear HO_338000; clear HO_343000; clear BK337; clear BK342; clear HB; have HO_17 := n0_; have HO_18 := n1_; have HO_338000 := n2_; have HO_343000 := n3_; have HO384 := n4_; have BK337 := n5_; have BK342 := n6_; have HB := n7_; clear n0_ n1_ n2_ n3_ n4_ n5_ n6_ n7_; (try clear hb); (try clear hb2); (try clear hk); (try clear hi); (try clear ho0); obtain ⟨Ao111, co111, eo111⟩ := Kd.R_slice HO384.out; subst eo111; obtain ⟨Ao112, co112, eo112⟩ := Kd.R_slice HO_18.out; subst eo112) | (go_at_call 55; (with_reducible refine (gaiterlaw00_Is.calls kj50 _ _ t382 t385 _ _ x18_50 t386 _ ?side1 ?side2 ?side3 ?side4 A62.out).mono ?_); (case side1 => repeat (first | exact (Kd.R_reads' HO384.out).2.2 | (with_reducible refine Kd.C_alloc ?_ _) | (with_reducible refine Kd.C_drewN ?_ _) | (with_reducible refine Kd.C_drew ?_))); (case side2 => exact (Kd.R_reads' HO384.out).2.1); (case side3 => repeat (first | exact (Kd.R_reads' HO_18.out).2.2 | (with_reducible refine Kd.C_alloc ?_ _) | (with_reducible refine Kd.C_drewN ?_ _) | (with_reducible refine Kd.C_drew ?_))); (case side4 => exact (Kd.R_reads' HO_18.out).2.1); rintro e w113 ⟨rfl, hb⟩; have n0_ := Aside0.mk (Kd.R_below (by (with_reducible repeat (first | apply Kd.R_alloc | apply Kd.R_drewN | apply Kd.R_drew)); exact HO_17.out) hb); have n1_ := Aside0.mk (Kd.R_below (by (with_reducible repeat (first | apply Kd.R_alloc | apply Kd.R_drewN | apply Kd.R_drew)); exact HO_18.out) hb); have n2_ := Aside0.mk (Kd.R_below (by (with_reducible repeat (first | apply Kd.R_alloc | apply Kd.R_drewN | apply Kd.R_drew)); exact HO_338000.out) hb); have n3_ := Aside0.mk (Kd.R_below (by (with_reducible repeat (first | apply Kd.R_alloc | apply Kd.R_drewN | apply Kd.R_drew)); exact HO_343000.out) hb); have n4_ := Aside0.mk (Kd.R_below (by (with_reducible repeat (first | apply Kd.R_alloc | apply Kd.R_drewN | apply Kd.R_drew)); exact HO384.out) hb); have n5_ := Aside0.mk (blk_below (g := gb337) (o := .cells #[.slice Ao27 t333.length co27, .int .i64 t336] 86 (0, 0)) (by (with_reducible repeat (first | refine blk_drewN ?_ _ | refine blk_drew ?_ | refine blk_alloc ?_ _)); exact BK337.out) hb); have n6_ := Aside0.mk (blk_below (g := gb342) (o := .cells #[.slice Ao31 t338.length co31, .int .i64 t341] 86 (0, 0)) (by (with_reducible repeat (first | refine blk_drewN ?_ _ | refine blk_drew ?_ | refine blk_alloc ?_ _)); exact BK342.out) hb); have n7_ := Aside0.mk (below_step (by repeat (first | (with_reducible first | exact HB.out | apply below_alloc | apply pw_below_drewN | apply below_drew1 | refine below_set ?_ GE337.out | refine below_set ?_ GE342.out) | exact HB.out)) hb); clear HO_17; clear HO_18; clear HO_338000; clear HO_343000; clear HO384; clear BK337; clear BK342; clear HB; have HO_17 := n0_; have HO_18 := n1_; have HO_338000 := n2_; have HO_343000 := n3_; have HO384 := n4_; have BK337 := n5_; have BK342 := n6_; have HB := n7_; clear n0_ n1_ n2_ n3_ n4_ n5_ n6_ n7_; (try clear hb); (try clear hb2); (try clear hk); (try clear hi)))
                                  go_ret
                                  exact ⟨by first | rfl | (simp [errW_none, errW_some] <;> rfl) | (simp [*, errW_none, errW_some] <;> rfl), by repeat (first | (with_reducible first | exact HB.out | apply below_alloc | apply pw_below_drewN | apply below_drew1 | refine below_set ?_ GE337.out | refine below_set ?_ GE342.out) | exact HB.out)⟩
                              · replace c60 := Bool.eq_false_iff.mpr c60
                                subst c60
                                have H1 : (some false) = some r := by rw [if_neg (show ¬ (false = true) by decide)] at H; exact H
                                clear H
                                have H := H1
                                clear H1
                                obtain rfl := Option.some.inj H
                                go_wp2_with (first | ((with_reducible refine gate_callee (f := 50) rfl ?_); refine goesL_ (some 76) rfl rfl Try.func50 (by kernel_rfl) rfl #[.slice A4 l4.length c4, .int .i64 a5, .int .i64 a3] rfl (by (try simp only [List.map_toArray, List.map_cons, List.map_nil]); first | done | rfl | (simp only [List.length_drop, List.length_take]; rfl)) ?_; (with_reducible refine (bits_Take.calls kj50 _ _ l4 a5 a3 t378 t379 _ ?side1 ?side2 A58.out).mono ?_); (case side1 => repeat (first | exact (Kd.C_below HR4.out HB.out) | (with_reducible refine Kd.C_alloc ?_ _) | (with_reducible refine Kd.C_drewN ?_ _) | (with_reducible refine Kd.C_drew ?_))); (case side2 => exact HC4.out); rintro e w' ⟨rfl, ⟨nd, rfl⟩⟩; refine ⟨_, rfl, ?_⟩) | ((with_reducible refine gate_callee (f := 54) rfl ?_); refine goesL_ (some 83) rfl rfl Try.func54 (by kernel_rfl) rfl #[.slice A4 l4.length c4, .int .i64 a5, .int .i64 a3] rfl (by (try simp only [List.map_toArray, List.map_cons, List.map_nil]); first | done | rfl | (simp only [List.length_drop, List.length_take]; rfl)) ?_; (with_reducible refine (gaiterref01_Take.calls kj50 _ _ l4 a5 a3 t380 t381 _ ?side1 ?side2 A59.out).mono ?_); (case side1 => repeat (first | exact (Kd.C_below HR4.out (by repeat (first | (with_reducible first | exact HB.out | apply below_alloc | apply pw_below_drewN | apply below_drew1 | refine below_set ?_ GE337.out | refine below_set ?_ GE342.out) | exact HB.out))) | (with_reducible refine Kd.C_alloc ?_ _) | (with_reducible refine Kd.C_drewN ?_ _) | (with_reducible refine Kd.C_drew ?_))); (case side2 => exact HC4.out); rintro e w114 ⟨rfl, hb⟩; refine ⟨_, rfl, ?_⟩; have n0_ := Aside0.mk (Kd.R_below (by (with_reducible repeat (first | apply Kd.R_alloc | apply Kd.R_drewN | apply Kd.R_drew)); exact HO_17.out) hb); have n1_ := Aside0.mk (Kd.R_below (by (with_reducible repeat (first | apply Kd.R_alloc | apply Kd.R_drewN | apply Kd.R_drew)); exact HO_18.out) hb); have n2_ := Aside0.mk (Kd.R_below (by (with_reducible repeat (first | apply Kd.R_alloc | apply Kd.R_drewN | apply Kd.R_drew)); exact HO_338000.out) hb); have n3_ := Aside0.mk (Kd.R_below (by (with_reducible repeat (first | apply Kd.R_alloc | apply Kd.R_drewN | apply Kd.R_drew)); exact HO_343000.out) hb); have n4_ := Aside0.mk (blk_below (g := gb337) (o := .cells #[.slice Ao27 t333.length co27, .int .i64 t336] 86 (0, 0)) (by (with_reducible repeat (first | refine blk_drewN ?_ _ | refine blk_drew ?_ | refine blk_alloc ?_ _)); exact BK337.out) hb); have n5_ := Aside0.mk (blk_below (g := gb342) (o := .cells #[.slice Ao31 t338.length co31, .int .i64 t341] 86 (0, 0)) (by (with_reducible repeat (first | refine blk_drewN ?_ _ | refine blk_drew ?_ | refine blk_alloc ?_ _)); exact BK342.out) hb); have n6_ := Aside0.mk (below_step (by repeat (first | (with_reducible first | exact HB.out | apply below_alloc | apply pw_below_drewN | apply below_drew1 | refine below_set ?_ GE337.out | refine below_set ?_ GE342.out) | exact HB.out)) hb); clear HO_17; clear HO_18; clear HO_338000; clear HO_343000; clear BK337; clear BK342; clear HB; have HO_17 := n0_; have HO_18 := n1_; have HO_338000 := n2_; have HO_343000 := n3_; have BK337 := n4_; have BK342 := n5_; have HB := n6_; clear n0_ n1_ n2_ n3_ n4_ n5_ n6_; (try clear hb); (try clear hb2); (try clear hk); (try clear hi)))
                                go_ret
                                exact ⟨by first | rfl | (simp [errW_none, errW_some] <;> rfl) | (simp [*, errW_none, errW_some] <;> rfl), by repeat (first | (with_reducible first | exact HB.out | apply below_alloc | apply pw_below_drewN | apply below_drew1 | refine below_set ?_ GE337.out | refine below_set ?_ GE342.out) | exact HB.out)⟩
                    · rw [if_neg c23] at H
                      exact absurd H (by simp)
                  · rw [if_neg c22] at H
                    exact absurd H (by simp)
                · rw [if_neg c21] at H
                  exact absurd H (by simp)
              · rw [if_neg c20] at H
                exact absurd H (by simp)
            · rw [if_neg c18] at H
              exact absurd H (by simp)
          · rw [if_neg c17] at H
            exact absurd H (by simp)
        · rw [if_neg c16] at H
          exact absurd H (by simp)

/-- THE ONE PURE STATEMENT of gaiterlaw01_BitsTells: yours. -/
def gaiterlaw01_BitsTells.Pure : Prop := ∀ (l0 : List Int) (l1 : List Int) (a2 : Int) (a3 : Int) (l4 : List Int) (a5 : Int), l0.length ≤ maxLen → l0.length * 1 ≤ 140737488351232 → (∀ x ∈ l0, (Lit.int .u8 x).wf = true) → l1.length ≤ maxLen → l1.length * 1 ≤ 140737488351232 → (∀ x ∈ l1, (Lit.int .u8 x).wf = true) → (Lit.int .u64 a2).wf = true → (Lit.int .i64 a3).wf = true → l4.length ≤ maxLen → l4.length * 1 ≤ 140737488351232 → (∀ x ∈ l4, (Lit.int .u8 x).wf = true) → (Lit.int .i64 a5).wf = true → ∃ k, gaiterlaw01_BitsTells.f k l0 l1 a2 a3 l4 a5 = some true
theorem gaiterlaw01_BitsTells.walk (P : gaiterlaw01_BitsTells.Pure) (a0 : Option Addr) (len0 cap0 : Nat) (z0 : List Int) (a1 : Option Addr) (len1 cap1 : Nat) (z1 : List Int) (a2 : Int) (a3 : Int) (a4 : Option Addr) (len4 cap4 : Nat) (z4 : List Int) (a5 : Int) (w : World) (w0 : (a0 = none ∧ len0 = 0 ∧ cap0 = 0 ∧ z0 = []) ∨ ∃ x, a0 = some x ∧ len0 ≤ cap0 ∧ cap0 ≤ maxLen ∧ z0.length = cap0 ∧ (∀ i, i < z0.length → w.cell? (x.add i) = some (.int .u8 (z0.getD i 0))) ∧ ∀ n ∈ z0, (Lit.int .u8 n).wf = true) (y0 : len0 * 1 ≤ 140737488351232) (w1 : (a1 = none ∧ len1 = 0 ∧ cap1 = 0 ∧ z1 = []) ∨ ∃ x, a1 = some x ∧ len1 ≤ cap1 ∧ cap1 ≤ maxLen ∧ z1.length = cap1 ∧ (∀ i, i < z1.length → w.cell? (x.add i) = some (.int .u8 (z1.getD i 0))) ∧ ∀ n ∈ z1, (Lit.int .u8 n).wf = true) (y1 : len1 * 1 ≤ 140737488351232) (w2 : (Lit.int .u64 a2).wf = true) (w3 : (Lit.int .i64 a3).wf = true) (w4 : (a4 = none ∧ len4 = 0 ∧ cap4 = 0 ∧ z4 = []) ∨ ∃ x, a4 = some x ∧ len4 ≤ cap4 ∧ cap4 ≤ maxLen ∧ z4.length = cap4 ∧ (∀ i, i < z4.length → w.cell? (x.add i) = some (.int .u8 (z4.getD i 0))) ∧ ∀ n ∈ z4, (Lit.int .u8 n).wf = true) (y4 : len4 * 1 ≤ 140737488351232) (w5 : (Lit.int .i64 a5).wf = true) :
    Calls Try.prog 13 #[.slice a0 len0 cap0, .slice a1 len1 cap1, .int .u64 a2, .int .i64 a3, .slice a4 len4 cap4, .int .i64 a5] w fun e w' => e = .returned (.bool true) ∧ Below w.heap.size w w' := by
  obtain ⟨l0, rfl, hr0, hm0, hw0, hc0⟩ := ReadsInt.ofRowC w0
  obtain ⟨l1, rfl, hr1, hm1, hw1, hc1⟩ := ReadsInt.ofRowC w1
  obtain ⟨l4, rfl, hr4, hm4, hw4, hc4⟩ := ReadsInt.ofRowC w4
  obtain ⟨k, h⟩ := P l0 l1 a2 a3 l4 a5 hm0 y0 hw0 hm1 y1 hw1 w2 w3 hm4 y4 hw4 w5
  refine (gaiterlaw01_BitsTells.calls k _ _ l0 _ _ l1 a2 a3 _ _ l4 a5 true w (Kd.C_of_reads (d := (0 : Int)) (h1 := fun _ => rfl) hr0) hc0 (Kd.C_of_reads (d := (0 : Int)) (h1 := fun _ => rfl) hr1) hc1 (Kd.C_of_reads (d := (0 : Int)) (h1 := fun _ => rfl) hr4) hc4 h).mono ?_
  rintro e w' ⟨rfl, hd⟩
  exact ⟨rfl, hd⟩

end Go.Proofs.Ythlieaggokdppaa.All
