-- written by a program of the session out of the translation; Lean checks it
import Derived.Test.YthlieaggokdppaaAllx0
import Derived.Test.YthlieaggokdppaaAllx45
import Derived.Test.YthlieaggokdppaaAllx47
import Derived.Test.YthlieaggokdppaaAllx48
import Derived.Test.YthlieaggokdppaaAllx50
namespace Go.Proofs.Ythlieaggokdppaa.All
open Go.RowKit Go.Proofs.YthlieaggokdppaaW.PrintWords Go.Proofs.YthlieaggokdppaaW.PrintLast Go.Proofs.YthlieaggokdppaaW.PrintMore
attribute [local go_sem] max2_int min2_int max_two min_two max_three min_three max_four min_four   -- for this text's walks alone
set_option linter.unusedVariables false
set_option linter.unusedSimpArgs false

/-! ### gaiterlaw01_BitsBack: function 14 -/
mutual
def gaiterlaw01_BitsBack.j0 : Nat → List Int → List Int → Int → Int → Bool → Bool → Option (Bool)
  | 0, _, _, _, _, _, _ => none
  | k + 1, x0, x1, x2, x3, x9, x38 => if x38 = true then (some x9) else ((gaiterlaw00_Bits.f k x0).bind fun bt393 => ((gaiterlaw00_Bits.f k x1).bind fun bt398 => ((bits_Put.f k bt393.1 bt393.2 x2 x3).bind fun bt403 => ((bits_Take.f k bt403.1 bt393.2 x3).bind fun bt408 => (if x3 < 64 then (if 0 ≤ (IntKind.u64.wrap (x3)) then (if (shl .u64 1 (IntKind.u64.wrap (x3))) = 0 then (none) else (gaiterlaw01_BitsBack.j1 k x3 x9 bt408.1 bt408.2 (Int.tmod x2 (shl .u64 1 (IntKind.u64.wrap (x3)))) bt393.1 bt393.2 bt398.1 bt398.2 bt403.1 bt403.2)) else (none)) else (gaiterlaw01_BitsBack.j1 k x3 x9 bt408.1 bt408.2 x2 bt393.1 bt393.2 bt398.1 bt398.2 bt403.1 bt403.2))))))
def gaiterlaw01_BitsBack.j1 : Nat → Int → Bool → Int → Bool → Int → List Int → Int → List Int → Int → List Int → Int → Option (Bool)
  | 0, _, _, _, _, _, _, _, _, _, _, _ => none
  | k + 1, x3, x9, x13, x14, x15, x398000, x398001, x403000, x403001, x408000, x408001 => if x14 = true then (if x13 = x15 then (gaiterlaw01_BitsBack.j2 k x9 (x408001 != (wrap64 (x398001 + x3))) x403000 x403001 x408000 x408001) else (gaiterlaw01_BitsBack.j2 k x9 true x403000 x403001 x408000 x408001)) else (gaiterlaw01_BitsBack.j2 k x9 true x403000 x403001 x408000 x408001)
def gaiterlaw01_BitsBack.j2 : Nat → Bool → Bool → List Int → Int → List Int → Int → Option (Bool)
  | 0, _, _, _, _, _, _ => none
  | k + 1, x9, x80, x403000, x403001, x408000, x408001 => if x80 = true then (some false) else ((bits_Join.f k x408000 x408001 x403000 x403001).bind fun bt410 => (if bt410.2 = (wrap64 (x408001 + x403001)) then (gaiterlaw01_BitsBack.l0 k x9 0 x403000 x403001 x408000 x408001 bt410.1 bt410.2) else (some false)))
def gaiterlaw01_BitsBack.l0 : Nat → Bool → Int → List Int → Int → List Int → Int → List Int → Int → Option (Bool)
  | 0, _, _, _, _, _, _, _, _ => none
  | k + 1, x9, x17, x403000, x403001, x408000, x408001, x415000, x415001 => if x17 < x415001 then ((bits_Take.f k x415000 x17 1).bind fun bt415 => ((bits_Take.f k x408000 x17 1).bind fun bt417 => (if x17 ≥ x408001 then ((bits_Take.f k x403000 (wrap64 (x17 - x408001)) 1).bind fun bt419 => (if bt415.2 = true then (if bt419.2 = true then (if bt415.1 = bt419.1 then (gaiterlaw01_BitsBack.l0 k x9 (wrap64 (x17 + 1)) x403000 x403001 x408000 x408001 x415000 x415001) else (some false)) else (some false)) else (some false))) else (if bt415.2 = true then (if bt417.2 = true then (if bt415.1 = bt417.1 then (gaiterlaw01_BitsBack.l0 k x9 (wrap64 (x17 + 1)) x403000 x403001 x408000 x408001 x415000 x415001) else (some false)) else (some false)) else (some false))))) else (some x9)
end
def gaiterlaw01_BitsBack.f (k : Nat) (l0 : List Int) (l1 : List Int) (a2 : Int) (a3 : Int) : Option (Bool) := (gaiterlaw01_up.f k).bind fun t392 => (if (l0.length : Int) > 500 then (gaiterlaw01_BitsBack.j0 k l0 l1 a2 a3 t392 true) else (if (l1.length : Int) > 500 then (gaiterlaw01_BitsBack.j0 k l0 l1 a2 a3 t392 true) else (if a3 < 0 then (gaiterlaw01_BitsBack.j0 k l0 l1 a2 a3 t392 true) else (gaiterlaw01_BitsBack.j0 k l0 l1 a2 a3 t392 (decide (a3 > 64))))))
theorem gaiterlaw01_BitsBack.mono_l : ∀ k, (∀ y0 y1 y2 y3 y4 y5, LeO (gaiterlaw01_BitsBack.j0 k y0 y1 y2 y3 y4 y5) (gaiterlaw01_BitsBack.j0 (k + 1) y0 y1 y2 y3 y4 y5)) ∧ (∀ y0 y1 y2 y3 y4 y5 y6 y7 y8 y9 y10, LeO (gaiterlaw01_BitsBack.j1 k y0 y1 y2 y3 y4 y5 y6 y7 y8 y9 y10) (gaiterlaw01_BitsBack.j1 (k + 1) y0 y1 y2 y3 y4 y5 y6 y7 y8 y9 y10)) ∧ (∀ y0 y1 y2 y3 y4 y5, LeO (gaiterlaw01_BitsBack.j2 k y0 y1 y2 y3 y4 y5) (gaiterlaw01_BitsBack.j2 (k + 1) y0 y1 y2 y3 y4 y5)) ∧ (∀ y0 y1 y2 y3 y4 y5 y6 y7, LeO (gaiterlaw01_BitsBack.l0 k y0 y1 y2 y3 y4 y5 y6 y7) (gaiterlaw01_BitsBack.l0 (k + 1) y0 y1 y2 y3 y4 y5 y6 y7))
  | 0 => ⟨fun _ _ _ _ _ _ r h => by simp [gaiterlaw01_BitsBack.j0] at h, fun _ _ _ _ _ _ _ _ _ _ _ r h => by simp [gaiterlaw01_BitsBack.j1] at h, fun _ _ _ _ _ _ r h => by simp [gaiterlaw01_BitsBack.j2] at h, fun _ _ _ _ _ _ _ _ r h => by simp [gaiterlaw01_BitsBack.l0] at h⟩
  | k + 1 => by
    obtain ⟨ih0, ih1, ih2, ih3⟩ := gaiterlaw01_BitsBack.mono_l k
    refine ⟨?_, ?_, ?_, ?_⟩
    · intro y0 y1 y2 y3 y4 y5
      unfold gaiterlaw01_BitsBack.j0
      repeat' first
      | (with_reducible exact ih0 _ _ _ _ _ _)
      | (with_reducible exact ih1 _ _ _ _ _ _ _ _ _ _ _)
      | (with_reducible exact ih2 _ _ _ _ _ _)
      | (with_reducible exact ih3 _ _ _ _ _ _ _ _)
      | (with_reducible exact bits_Join.mono _ _ _ _ _)
      | (with_reducible exact bits_Put.mono _ _ _ _ _)
      | (with_reducible exact bits_Take.mono _ _ _ _)
      | (with_reducible exact gaiterlaw00_Bits.mono _ _)
      | (with_reducible exact gaiterlaw01_up.mono _)
      | (with_reducible exact LeO.refl _)
      | (with_reducible exact LeO.none _)
      | (with_reducible refine LeO.ite ?_ ?_)
      | (with_reducible refine LeO.bind ?_ (fun _ => ?_))
      | exact ih0 _ _ _ _ _ _
      | exact ih1 _ _ _ _ _ _ _ _ _ _ _
      | exact ih2 _ _ _ _ _ _
      | exact ih3 _ _ _ _ _ _ _ _
      | exact bits_Join.mono _ _ _ _ _
      | exact bits_Put.mono _ _ _ _ _
      | exact bits_Take.mono _ _ _ _
      | exact gaiterlaw00_Bits.mono _ _
      | exact gaiterlaw01_up.mono _
      | exact LeO.none _
      | refine LeO.ite ?_ ?_
      | refine LeO.bind ?_ (fun _ => ?_)
    · intro y0 y1 y2 y3 y4 y5 y6 y7 y8 y9 y10
      unfold gaiterlaw01_BitsBack.j1
      repeat' first
      | (with_reducible exact ih0 _ _ _ _ _ _)
      | (with_reducible exact ih1 _ _ _ _ _ _ _ _ _ _ _)
      | (with_reducible exact ih2 _ _ _ _ _ _)
      | (with_reducible exact ih3 _ _ _ _ _ _ _ _)
      | (with_reducible exact bits_Join.mono _ _ _ _ _)
      | (with_reducible exact bits_Put.mono _ _ _ _ _)
      | (with_reducible exact bits_Take.mono _ _ _ _)
      | (with_reducible exact gaiterlaw00_Bits.mono _ _)
      | (with_reducible exact gaiterlaw01_up.mono _)
      | (with_reducible exact LeO.refl _)
      | (with_reducible exact LeO.none _)
      | (with_reducible refine LeO.ite ?_ ?_)
      | (with_reducible refine LeO.bind ?_ (fun _ => ?_))
      | exact ih0 _ _ _ _ _ _
      | exact ih1 _ _ _ _ _ _ _ _ _ _ _
      | exact ih2 _ _ _ _ _ _
      | exact ih3 _ _ _ _ _ _ _ _
      | exact bits_Join.mono _ _ _ _ _
      | exact bits_Put.mono _ _ _ _ _
      | exact bits_Take.mono _ _ _ _
      | exact gaiterlaw00_Bits.mono _ _
      | exact gaiterlaw01_up.mono _
      | exact LeO.none _
      | refine LeO.ite ?_ ?_
      | refine LeO.bind ?_ (fun _ => ?_)
    · intro y0 y1 y2 y3 y4 y5
      unfold gaiterlaw01_BitsBack.j2
      repeat' first
      | (with_reducible exact ih0 _ _ _ _ _ _)
      | (with_reducible exact ih1 _ _ _ _ _ _ _ _ _ _ _)
      | (with_reducible exact ih2 _ _ _ _ _ _)
      | (with_reducible exact ih3 _ _ _ _ _ _ _ _)
      | (with_reducible exact bits_Join.mono _ _ _ _ _)
      | (with_reducible exact bits_Put.mono _ _ _ _ _)
      | (with_reducible exact bits_Take.mono _ _ _ _)
      | (with_reducible exact gaiterlaw00_Bits.mono _ _)
      | (with_reducible exact gaiterlaw01_up.mono _)
      | (with_reducible exact LeO.refl _)
      | (with_reducible exact LeO.none _)
      | (with_reducible refine LeO.ite ?_ ?_)
      | (with_reducible refine LeO.bind ?_ (fun _ => ?_))
      | exact ih0 _ _ _ _ _ _
      | exact ih1 _ _ _ _ _ _ _ _ _ _ _
      | exact ih2 _ _ _ _ _ _
      | exact ih3 _ _ _ _ _ _ _ _
      | exact bits_Join.mono _ _ _ _ _
      | exact bits_Put.mono _ _ _ _ _
      | exact bits_Take.mono _ _ _ _
      | exact gaiterlaw00_Bits.mono _ _
      | exact gaiterlaw01_up.mono _
      | exact LeO.none _
      | refine LeO.ite ?_ ?_
      | refine LeO.bind ?_ (fun _ => ?_)
    · intro y0 y1 y2 y3 y4 y5 y6 y7
      unfold gaiterlaw01_BitsBack.l0
      repeat' first
      | (with_reducible exact ih0 _ _ _ _ _ _)
      | (with_reducible exact ih1 _ _ _ _ _ _ _ _ _ _ _)
      | (with_reducible exact ih2 _ _ _ _ _ _)
      | (with_reducible exact ih3 _ _ _ _ _ _ _ _)
      | (with_reducible exact bits_Join.mono _ _ _ _ _)
      | (with_reducible exact bits_Put.mono _ _ _ _ _)
      | (with_reducible exact bits_Take.mono _ _ _ _)
      | (with_reducible exact gaiterlaw00_Bits.mono _ _)
      | (with_reducible exact gaiterlaw01_up.mono _)
      | (with_reducible exact LeO.refl _)
      | (with_reducible exact LeO.none _)
      | (with_reducible refine LeO.ite ?_ ?_)
      | (with_reducible refine LeO.bind ?_ (fun _ => ?_))
      | exact ih0 _ _ _ _ _ _
      | exact ih1 _ _ _ _ _ _ _ _ _ _ _
      | exact ih2 _ _ _ _ _ _
      | exact ih3 _ _ _ _ _ _ _ _
      | exact bits_Join.mono _ _ _ _ _
      | exact bits_Put.mono _ _ _ _ _
      | exact bits_Take.mono _ _ _ _
      | exact gaiterlaw00_Bits.mono _ _
      | exact gaiterlaw01_up.mono _
      | exact LeO.none _
      | refine LeO.ite ?_ ?_
      | refine LeO.bind ?_ (fun _ => ?_)
theorem gaiterlaw01_BitsBack.mono : ∀ a0 a1 a2 a3 k, LeO (gaiterlaw01_BitsBack.f k a0 a1 a2 a3) (gaiterlaw01_BitsBack.f (k + 1) a0 a1 a2 a3) := by
  intro a0 a1 a2 a3 k
  obtain ⟨ih0, ih1, ih2, ih3⟩ := gaiterlaw01_BitsBack.mono_l k
  unfold gaiterlaw01_BitsBack.f
  repeat' first
      | (with_reducible exact ih0 _ _ _ _ _ _)
      | (with_reducible exact ih1 _ _ _ _ _ _ _ _ _ _ _)
      | (with_reducible exact ih2 _ _ _ _ _ _)
      | (with_reducible exact ih3 _ _ _ _ _ _ _ _)
      | (with_reducible exact bits_Join.mono _ _ _ _ _)
      | (with_reducible exact bits_Put.mono _ _ _ _ _)
      | (with_reducible exact bits_Take.mono _ _ _ _)
      | (with_reducible exact gaiterlaw00_Bits.mono _ _)
      | (with_reducible exact gaiterlaw01_up.mono _)
      | (with_reducible exact LeO.refl _)
      | (with_reducible exact LeO.none _)
      | (with_reducible refine LeO.ite ?_ ?_)
      | (with_reducible refine LeO.bind ?_ (fun _ => ?_))
      | exact ih0 _ _ _ _ _ _
      | exact ih1 _ _ _ _ _ _ _ _ _ _ _
      | exact ih2 _ _ _ _ _ _
      | exact ih3 _ _ _ _ _ _ _ _
      | exact bits_Join.mono _ _ _ _ _
      | exact bits_Put.mono _ _ _ _ _
      | exact bits_Take.mono _ _ _ _
      | exact gaiterlaw00_Bits.mono _ _
      | exact gaiterlaw01_up.mono _
      | exact LeO.none _
      | refine LeO.ite ?_ ?_
      | refine LeO.bind ?_ (fun _ => ?_)
set_option maxHeartbeats 8000000 in
set_option maxRecDepth 100000 in
theorem gaiterlaw01_BitsBack.calls (k : Nat) (A0 : Option Addr) (c0 : Nat) (l0 : List Int) (A1 : Option Addr) (c1 : Nat) (l1 : List Int) (a2 : Int) (a3 : Int) (r : Bool) (w : World) (hr0 : Kd.C (Kd.int .u8) w A0 l0.length l0) (hc0 : l0.length ≤ c0) (hr1 : Kd.C (Kd.int .u8) w A1 l1.length l1) (hc1 : l1.length ≤ c1) (h : gaiterlaw01_BitsBack.f k l0 l1 a2 a3 = some r) :
    Calls Try.prog 14 #[.slice A0 l0.length c0, .slice A1 l1.length c1, .int .u64 a2, .int .i64 a3] w fun e w' => e = .returned (.bool r) ∧ Below w.heap.size w w' := by
  have hu86 := Try.underlying86
  have HR0 := Aside0.mk hr0
  have HC0 := Aside0.mk hc0
  clear hr0 hc0
  have HR1 := Aside0.mk hr1
  have HC1 := Aside0.mk hc1
  clear hr1 hc1
  have HB := Aside0.mk (Below.refl w.heap.size w)
  have H : ((gaiterlaw01_up.f k).bind fun t392 => (if (l0.length : Int) > 500 then (gaiterlaw01_BitsBack.j0 k l0 l1 a2 a3 t392 true) else (if (l1.length : Int) > 500 then (gaiterlaw01_BitsBack.j0 k l0 l1 a2 a3 t392 true) else (if a3 < 0 then (gaiterlaw01_BitsBack.j0 k l0 l1 a2 a3 t392 true) else (gaiterlaw01_BitsBack.j0 k l0 l1 a2 a3 t392 (decide (a3 > 64))))))) = some r := h
  clear h
  replace H := Option.bind_eq_some_iff.mp H
  obtain ⟨t392, A50, H⟩ := H
  replace H : (if (l0.length : Int) > 500 then (gaiterlaw01_BitsBack.j0 k l0 l1 a2 a3 t392 true) else (if (l1.length : Int) > 500 then (gaiterlaw01_BitsBack.j0 k l0 l1 a2 a3 t392 true) else (if a3 < 0 then (gaiterlaw01_BitsBack.j0 k l0 l1 a2 a3 t392 true) else (gaiterlaw01_BitsBack.j0 k l0 l1 a2 a3 t392 (decide (a3 > 64)))))) = some r := H
  have A5 := Aside0.mk A50
  clear A50
  have HC6 := Aside0.mk H
  clear H
  go_enter Try.func14, Try.ntmps14
  go_upto_region 2 with (first | ((with_reducible refine gate_callee (f := 51) rfl ?_); refine goesL_ (some 22) rfl rfl Try.func51 (by kernel_rfl) rfl #[] rfl (by (try simp only [List.map_toArray, List.map_cons, List.map_nil]); first | done | rfl | (simp only [List.length_drop, List.length_take]; rfl)) ?_; (with_reducible refine (gaiterlaw01_up.calls k  t392 _ A5.out).mono ?_); rintro e w7 ⟨rfl, hb⟩; refine ⟨_, rfl, ?_⟩; have n0_ := Aside0.mk (below_step (by repeat (first | (with_reducible first | exact HB.out | apply below_alloc | apply pw_below_drewN | apply below_drew1) | exact HB.out)) hb); clear HB; have HB := n0_; clear n0_; (try clear hb); (try clear hb2); (try clear hk); (try clear hi)))
  (try simp only [Act.put, List.setIfInBounds_toArray, List.set_cons_zero, List.set_cons_succ])
  go_cut [38] (fun v38 wc => ∃ (kq : Nat) (x38_5 : Bool), v38 = .bool x38_5 ∧ Aside0 (gaiterlaw01_BitsBack.j0 kq l0 l1 a2 a3 t392 x38_5 = some r) ∧ Aside0 (kq ≤ k) ∧ Aside0 (Below w.heap.size w wc))
  case first =>
    have H := HC6.out
    clear HC6
    by_cases c8 : (l0.length : Int) > 500
    · rw [if_pos c8] at H
      have c8b0 : decide (500 < (l0.length : Int)) = true := decide_eq_true c8
      have c8b1 : decide (500 < l0.length) = true := decide_eq_true (by omega)
      clear c8
      (first | rw [c8b0] | (simp only [i64_w, i32_w]; rw [c8b0]) | skip)
      have H' := Aside0.mk H
      clear H
      go_wp2
      go_meet
      case rel => exact ⟨_, (true), (by first | rfl | (simp; done) | (simp [*]; done)), H', ⟨by first | omega | exact Nat.le_refl _⟩, ⟨by repeat (first | (with_reducible first | exact HB.out | apply below_alloc | apply pw_below_drewN | apply below_drew1) | exact HB.out)⟩⟩
    · rw [if_neg c8] at H
      have c8b0 : decide (500 < (l0.length : Int)) = false := decide_eq_false c8
      have c8b1 : decide (500 < l0.length) = false := decide_eq_false (by omega)
      clear c8
      (first | rw [c8b0] | (simp only [i64_w, i32_w]; rw [c8b0]) | skip)
      by_cases c9 : (l1.length : Int) > 500
      · rw [if_pos c9] at H
        have c9b0 : decide (500 < (l1.length : Int)) = true := decide_eq_true c9
        have c9b1 : decide (500 < l1.length) = true := decide_eq_true (by omega)
        clear c9
        have H' := Aside0.mk H
        clear H
        go_wp2
        go_meet
        case rel => exact ⟨_, (true), (by first | rfl | (simp; done) | (simp [*]; done)), H', ⟨by first | omega | exact Nat.le_refl _⟩, ⟨by repeat (first | (with_reducible first | exact HB.out | apply below_alloc | apply pw_below_drewN | apply below_drew1) | exact HB.out)⟩⟩
      · rw [if_neg c9] at H
        have c9b0 : decide (500 < (l1.length : Int)) = false := decide_eq_false c9
        have c9b1 : decide (500 < l1.length) = false := decide_eq_false (by omega)
        clear c9
        by_cases c10 : a3 < 0
        · rw [if_pos c10] at H
          have c10b0 : decide (a3 < 0) = true := decide_eq_true c10
          clear c10
          have H' := Aside0.mk H
          clear H
          go_wp2
          go_meet
          case rel => exact ⟨_, (true), (by first | rfl | (simp; done) | (simp [*]; done)), H', ⟨by first | omega | exact Nat.le_refl _⟩, ⟨by repeat (first | (with_reducible first | exact HB.out | apply below_alloc | apply pw_below_drewN | apply below_drew1) | exact HB.out)⟩⟩
        · rw [if_neg c10] at H
          have c10b0 : decide (a3 < 0) = false := decide_eq_false c10
          clear c10
          have H' := Aside0.mk H
          clear H
          go_wp2
          go_meet
          case rel => exact ⟨_, (decide (a3 > 64)), (by first | rfl | (simp; done) | (simp [*]; done)), H', ⟨by first | omega | exact Nat.le_refl _⟩, ⟨by repeat (first | (with_reducible first | exact HB.out | apply below_alloc | apply pw_below_drewN | apply below_drew1) | exact HB.out)⟩⟩
  case rest =>
    clear HC6
    try clear c1
    try clear p2
    try clear c5
    try clear c8
    try clear c8b0
    try clear c8b1
    try clear c9
    try clear c9b0
    try clear c9b1
    try clear c10
    try clear c10b0
    obtain ⟨kq, x38_5, rfl, HA, HJ5, HB⟩ := hcut
    cases kq with
    | zero => exact absurd HA.out (by simp [gaiterlaw01_BitsBack.j0])
    | succ kj5 =>
      have H := HA.out
      clear HA
      simp only [gaiterlaw01_BitsBack.j0] at H
      by_cases c11 : x38_5 = true
      · subst c11
        have H1 : (some t392) = some r := by rw [if_pos rfl] at H; exact H
        clear H
        have H := H1
        clear H1
        obtain rfl := Option.some.inj H
        go_wp2
        go_ret
        exact ⟨by first | rfl | (simp [errW_none, errW_some] <;> rfl) | (simp [*, errW_none, errW_some] <;> rfl), by repeat (first | (with_reducible first | exact HB.out | apply below_alloc | apply pw_below_drewN | apply below_drew1) | exact HB.out)⟩
      · replace c11 := Bool.eq_false_iff.mpr c11
        subst c11
        have H1 : ((gaiterlaw00_Bits.f kj5 l0).bind fun bt393 => ((gaiterlaw00_Bits.f kj5 l1).bind fun bt398 => ((bits_Put.f kj5 bt393.1 bt393.2 a2 a3).bind fun bt403 => ((bits_Take.f kj5 bt403.1 bt393.2 a3).bind fun bt408 => (if a3 < 64 then (if 0 ≤ (IntKind.u64.wrap (a3)) then (if (shl .u64 1 (IntKind.u64.wrap (a3))) = 0 then (none) else (gaiterlaw01_BitsBack.j1 kj5 a3 t392 bt408.1 bt408.2 (Int.tmod a2 (shl .u64 1 (IntKind.u64.wrap (a3)))) bt393.1 bt393.2 bt398.1 bt398.2 bt403.1 bt403.2)) else (none)) else (gaiterlaw01_BitsBack.j1 kj5 a3 t392 bt408.1 bt408.2 a2 bt393.1 bt393.2 bt398.1 bt398.2 bt403.1 bt403.2)))))) = some r := by rw [if_neg (show ¬ (false = true) by decide)] at H; exact H
        clear H
        have H := H1
        clear H1
        replace H := Option.bind_eq_some_iff.mp H
        obtain ⟨⟨t393, t396⟩, A120, H⟩ := H
        replace H : ((gaiterlaw00_Bits.f kj5 l1).bind fun bt398 => ((bits_Put.f kj5 t393 t396 a2 a3).bind fun bt403 => ((bits_Take.f kj5 bt403.1 t396 a3).bind fun bt408 => (if a3 < 64 then (if 0 ≤ (IntKind.u64.wrap (a3)) then (if (shl .u64 1 (IntKind.u64.wrap (a3))) = 0 then (none) else (gaiterlaw01_BitsBack.j1 kj5 a3 t392 bt408.1 bt408.2 (Int.tmod a2 (shl .u64 1 (IntKind.u64.wrap (a3)))) t393 t396 bt398.1 bt398.2 bt403.1 bt403.2)) else (none)) else (gaiterlaw01_BitsBack.j1 kj5 a3 t392 bt408.1 bt408.2 a2 t393 t396 bt398.1 bt398.2 bt403.1 bt403.2))))) = some r := H
        have A12 := Aside0.mk A120
        clear A120
        replace H := Option.bind_eq_some_iff.mp H
        obtain ⟨⟨t398, t401⟩, A130, H⟩ := H
        replace H : ((bits_Put.f kj5 t393 t396 a2 a3).bind fun bt403 => ((bits_Take.f kj5 bt403.1 t396 a3).bind fun bt408 => (if a3 < 64 then (if 0 ≤ (IntKind.u64.wrap (a3)) then (if (shl .u64 1 (IntKind.u64.wrap (a3))) = 0 then (none) else (gaiterlaw01_BitsBack.j1 kj5 a3 t392 bt408.1 bt408.2 (Int.tmod a2 (shl .u64 1 (IntKind.u64.wrap (a3)))) t393 t396 t398 t401 bt403.1 bt403.2)) else (none)) else (gaiterlaw01_BitsBack.j1 kj5 a3 t392 bt408.1 bt408.2 a2 t393 t396 t398 t401 bt403.1 bt403.2)))) = some r := H
        have A13 := Aside0.mk A130
        clear A130
        replace H := Option.bind_eq_some_iff.mp H
        obtain ⟨⟨t403, t406⟩, A140, H⟩ := H
        replace H : ((bits_Take.f kj5 t403 t396 a3).bind fun bt408 => (if a3 < 64 then (if 0 ≤ (IntKind.u64.wrap (a3)) then (if (shl .u64 1 (IntKind.u64.wrap (a3))) = 0 then (none) else (gaiterlaw01_BitsBack.j1 kj5 a3 t392 bt408.1 bt408.2 (Int.tmod a2 (shl .u64 1 (IntKind.u64.wrap (a3)))) t393 t396 t398 t401 t403 t406)) else (none)) else (gaiterlaw01_BitsBack.j1 kj5 a3 t392 bt408.1 bt408.2 a2 t393 t396 t398 t401 t403 t406))) = some r := H
        have A14 := Aside0.mk A140
        clear A140
        replace H := Option.bind_eq_some_iff.mp H
        obtain ⟨⟨t408, t409⟩, A150, H⟩ := H
        replace H : (if a3 < 64 then (if 0 ≤ (IntKind.u64.wrap (a3)) then (if (shl .u64 1 (IntKind.u64.wrap (a3))) = 0 then (none) else (gaiterlaw01_BitsBack.j1 kj5 a3 t392 t408 t409 (Int.tmod a2 (shl .u64 1 (IntKind.u64.wrap (a3)))) t393 t396 t398 t401 t403 t406)) else (none)) else (gaiterlaw01_BitsBack.j1 kj5 a3 t392 t408 t409 a2 t393 t396 t398 t401 t403 t406)) = some r := H
        have A15 := Aside0.mk A150
        clear A150
        have HC16 := Aside0.mk H
        clear H
        go_upto_if 59 with (first | ((with_reducible refine gate_callee (f := 52) rfl ?_); refine goesL_ (some 41) rfl rfl Try.func52 (by kernel_rfl) rfl #[.slice A0 l0.length c0] rfl (by (try simp only [List.map_toArray, List.map_cons, List.map_nil]); first | done | rfl | (simp only [List.length_drop, List.length_take]; rfl)) ?_; (with_reducible refine (gaiterlaw00_Bits.calls kj5 _ _ l0 t393 t396 _ ?side1 ?side2 A12.out).mono ?_); (case side1 => repeat (first | exact (Kd.C_below HR0.out HB.out) | (with_reducible refine Kd.C_alloc ?_ _) | (with_reducible refine Kd.C_drewN ?_ _) | (with_reducible refine Kd.C_drew ?_))); (case side2 => exact HC0.out); rintro e w17 ⟨v394, rfl, ho0, hb⟩; refine ⟨_, rfl, ?_⟩; have n0_ := Aside0.mk (Kd.R_lower ho0 (below_size (by repeat (first | (with_reducible first | exact HB.out | apply below_alloc | apply pw_below_drewN | apply below_drew1) | exact HB.out)))); have n1_ := Aside0.mk (below_step (by repeat (first | (with_reducible first | exact HB.out | apply below_alloc | apply pw_below_drewN | apply below_drew1) | exact HB.out)) hb); clear HB; have HO395 := n0_; have HB := n1_; clear n0_ n1_; (try clear hb); (try clear hb2); (try clear hk); (try clear hi); (try clear ho0)) | ((with_reducible refine gate_dst (N := 10) rfl ?_); (try (refine gate_guard (by rfl) ?_; dsimp only)); refine box_event ?hg (N := 10) ?hd (cs := #[.slice none 0 0, .int .i64 0]) (t := 86) ?hr ?_; (case hd => rfl); (case hg => rfl); (case hr => first | (go_simp; done) | (go_simp; rfl)); intro gb397 hg w18 hbox hb; have n0_ := Aside0.mk (Kd.R_below (by (with_reducible repeat (first | apply Kd.R_alloc | apply Kd.R_drewN | apply Kd.R_drew)); exact HO395.out) hb); have n1_ := Aside0.mk (below_step (by repeat (first | (with_reducible first | exact HB.out | apply below_alloc | apply pw_below_drewN | apply below_drew1) | exact HB.out)) hb); have n2_ := Aside0.mk (hbox); have n3_ := Aside0.mk ((by rw [hg]; exact (below_size (by repeat (first | (with_reducible first | exact HB.out | apply below_alloc | apply pw_below_drewN | apply below_drew1) | exact HB.out))) : w.heap.size ≤ gb397)); have n4_ := Aside0.mk ((by rw [hg]; exact (below_size (by repeat (first | (with_reducible first | exact HB.out | apply below_alloc | apply pw_below_drewN | apply below_drew1) | exact HB.out))) : w.heap.size ≤ gb397)); clear HO395; clear HB; have HO395 := n0_; have HB := n1_; have BK397 := n2_; have GW397 := n3_; have GE397 := n4_; clear n0_ n1_ n2_ n3_ n4_; clear hb hbox hg; obtain ⟨Ao19, co19, eo19⟩ := Kd.R_slice HO395.out; subst eo19; have hcz20_0 : w18.cell? ⟨gb397, 0, none⟩ = some (.slice none 0 0) := (blk_cell BK397.out 0).trans rfl; have hcz20_1 : w18.cell? ⟨gb397, 1, none⟩ = some (.int .i64 0) := (blk_cell BK397.out 1).trans rfl; have hfz20_0 := blk_frozen BK397.out 0; have hfz20_1 := blk_frozen BK397.out 1) | ((with_reducible refine gate_callee (f := 52) rfl ?_); refine goesL_ (some 43) rfl rfl Try.func52 (by kernel_rfl) rfl #[.slice A1 l1.length c1] rfl (by (try simp only [List.map_toArray, List.map_cons, List.map_nil]); first | done | rfl | (simp only [List.length_drop, List.length_take]; rfl)) ?_; (with_reducible refine (gaiterlaw00_Bits.calls kj5 _ _ l1 t398 t401 _ ?side1 ?side2 A13.out).mono ?_); (case side1 => exact Kd.C_below HR1.out (by repeat (first | (with_reducible first | exact HB.out | apply below_alloc | apply pw_below_drewN | apply below_drew1 | refine below_set ?_ GE397.out) | exact HB.out))); (case side2 => exact HC1.out); rintro e w21 ⟨v399, rfl, ho0, hb⟩; refine ⟨_, rfl, ?_⟩; have n0_ := Aside0.mk (Kd.R_elder' (by (with_reducible repeat (first | apply Kd.R_alloc | apply Kd.R_drewN | apply Kd.R_drew)); exact (Kd.R_mono (Kd.R_far (p := ⟨gb397, 1, none⟩) (Kd.R_far (p := ⟨gb397, 0, none⟩) (Kd.R_types HO395.out BK397.out (by decide)) (fun _ hk => hk.2) (.slice Ao19 t393.length co19)) (fun _ hk => hk.2) (.int .i64 t396)) (fun _ h_ => h_.1))) (Kd.R_base ho0) hb); have n1_ := Aside0.mk (Kd.R_lower (Kd.R_new' ho0 (Kd.R_lt (by (with_reducible repeat (first | apply Kd.R_alloc | apply Kd.R_drewN | apply Kd.R_drew)); exact (Kd.R_mono (Kd.R_far (p := ⟨gb397, 1, none⟩) (Kd.R_far (p := ⟨gb397, 0, none⟩) (Kd.R_types HO395.out BK397.out (by decide)) (fun _ hk => hk.2) (.slice Ao19 t393.length co19)) (fun _ hk => hk.2) (.int .i64 t396)) (fun _ h_ => h_.1))))) (below_size (by repeat (first | (with_reducible first | exact HB.out | apply below_alloc | apply pw_below_drewN | apply below_drew1 | refine below_set ?_ GE397.out) | exact HB.out)))); have n2_ := Aside0.mk (blk_below (g := gb397) (o := .cells #[.slice Ao19 t393.length co19, .int .i64 t396] 86 (0, 0)) (by (with_reducible repeat (first | refine blk_drewN ?_ _ | refine blk_drew ?_ | refine blk_alloc ?_ _)); refine blk_put (cs := #[.slice Ao19 t393.length co19, .int .i64 0]) ?_ 1 _ rfl; (with_reducible repeat (first | refine blk_drewN ?_ _ | refine blk_drew ?_ | refine blk_alloc ?_ _)); refine blk_put (cs := #[.slice none 0 0, .int .i64 0]) ?_ 0 _ rfl; (with_reducible repeat (first | refine blk_drewN ?_ _ | refine blk_drew ?_ | refine blk_alloc ?_ _)); exact BK397.out) hb); have n3_ := Aside0.mk (below_step (by repeat (first | (with_reducible first | exact HB.out | apply below_alloc | apply pw_below_drewN | apply below_drew1 | refine below_set ?_ GE397.out) | exact HB.out)) hb); clear HO395; clear BK397; clear HB; have HO395 := n0_; have HO400 := n1_; have BK397 := n2_; have HB := n3_; clear n0_ n1_ n2_ n3_; (try clear hb); (try clear hb2); (try clear hk); (try clear hi); (try clear ho0)) | ((with_reducible refine gate_dst (N := 11) rfl ?_); (try (refine gate_guard (by rfl) ?_; dsimp only)); refine box_event ?hg (N := 11) ?hd (cs := #[.slice none 0 0, .int .i64 0]) (t := 86) ?hr ?_; (case hd => rfl); (case hg => rfl); (case hr => first | (go_simp; done) | (go_simp; rfl)); intro gb402 hg w22 hbox hb; have n0_ := Aside0.mk (Kd.R_below (by (with_reducible repeat (first | apply Kd.R_alloc | apply Kd.R_drewN | apply Kd.R_drew)); exact HO395.out) hb); have n1_ := Aside0.mk (Kd.R_below (by (with_reducible repeat (first | apply Kd.R_alloc | apply Kd.R_drewN | apply Kd.R_drew)); exact HO400.out) hb); have n2_ := Aside0.mk (blk_below (g := gb397) (o := .cells #[.slice Ao19 t393.length co19, .int .i64 t396] 86 (0, 0)) (by (with_reducible repeat (first | refine blk_drewN ?_ _ | refine blk_drew ?_ | refine blk_alloc ?_ _)); exact BK397.out) hb); have n3_ := Aside0.mk (below_step (by repeat (first | (with_reducible first | exact HB.out | apply below_alloc | apply pw_below_drewN | apply below_drew1 | refine below_set ?_ GE397.out) | exact HB.out)) hb); have n4_ := Aside0.mk (hbox); have n5_ := Aside0.mk ((by rw [hg]; exact (below_size (by repeat (first | (with_reducible first | exact HB.out | apply below_alloc | apply pw_below_drewN | apply below_drew1 | refine below_set ?_ GE397.out) | exact HB.out))) : w.heap.size ≤ gb402)); have n6_ := Aside0.mk ((by rw [hg]; exact (below_size (by repeat (first | (with_reducible first | exact HB.out | apply below_alloc | apply pw_below_drewN | apply below_drew1 | refine below_set ?_ GE397.out) | exact HB.out))) : w.heap.size ≤ gb402)); have n7_ := Aside0.mk ((by rw [hg]; exact Nat.ne_of_lt (blk_lt (g := gb397) (o := .cells #[.slice Ao19 t393.length co19, .int .i64 t396] 86 (0, 0)) (by (with_reducible repeat (first | refine blk_drewN ?_ _ | refine blk_drew ?_ | refine blk_alloc ?_ _)); exact BK397.out)) : gb397 ≠ gb402)); have n8_ := Aside0.mk ((by rw [hg]; exact Nat.ne_of_gt (blk_lt (g := gb397) (o := .cells #[.slice Ao19 t393.length co19, .int .i64 t396] 86 (0, 0)) (by (with_reducible repeat (first | refine blk_drewN ?_ _ | refine blk_drew ?_ | refine blk_alloc ?_ _)); exact BK397.out)) : gb402 ≠ gb397)); clear HO395; clear HO400; clear BK397; clear HB; have HO395 := n0_; have HO400 := n1_; have BK397 := n2_; have HB := n3_; have BK402 := n4_; have GW402 := n5_; have GE402 := n6_; have NB397_402 := n7_; have NB402_397 := n8_; clear n0_ n1_ n2_ n3_ n4_ n5_ n6_ n7_ n8_; clear hb hbox hg; obtain ⟨Ao23, co23, eo23⟩ := Kd.R_slice HO400.out; subst eo23; have hnb24 := NB402_397.out; have hnc24 := NB397_402.out; have hcz25_0 : w22.cell? ⟨gb402, 0, none⟩ = some (.slice none 0 0) := (blk_cell BK402.out 0).trans rfl; have hcz25_1 : w22.cell? ⟨gb402, 1, none⟩ = some (.int .i64 0) := (blk_cell BK402.out 1).trans rfl; have hfz25_0 := blk_frozen BK402.out 0; have hfz25_1 := blk_frozen BK402.out 1; have hcz26_0 : w22.cell? ⟨gb397, 0, none⟩ = some (.slice Ao19 t393.length co19) := (blk_cell BK397.out 0).trans rfl; have hcz26_1 : w22.cell? ⟨gb397, 1, none⟩ = some (.int .i64 t396) := (blk_cell BK397.out 1).trans rfl; have hfz26_0 := blk_frozen BK397.out 0; have hfz26_1 := blk_frozen BK397.out 1) | ((with_reducible refine gate_callee (f := 56) rfl ?_); refine goesL_ (some 47) rfl rfl Try.func56 (by kernel_rfl) rfl #[.agg #[.slice Ao19 t393.length co19, .int .i64 t396], .int .u64 a2, .int .i64 a3] rfl (by (try simp only [List.map_toArray, List.map_cons, List.map_nil]); first | done | rfl | (simp only [List.length_drop, List.length_take]; rfl)) ?_; (with_reducible refine (bits_Put.calls kj5 _ _ t393 t396 a2 a3 t403 t406 _ ?side1 ?side2 A14.out).mono ?_); (case side1 => refine (Kd.R_reads' (e := 5) (base := w.heap.size) (ok := fun k_ => (True ∧ some k_ ≠ (.slice Ao23 t398.length co23 : Value).ownBlock)) (n := t393.length) (c := co19) ?_).2.2; exact (by (with_reducible repeat (first | apply Kd.R_alloc | apply Kd.R_drewN | apply Kd.R_drew)); exact (Kd.R_mono (Kd.R_far (p := ⟨gb402, 1, none⟩) (Kd.R_far (p := ⟨gb402, 0, none⟩) (Kd.R_types HO395.out BK402.out (by decide)) (fun _ hk => hk.2) (.slice Ao23 t398.length co23)) (fun _ hk => hk.2) (.int .i64 t401)) (fun _ h_ => h_.1)))); (case side2 => exact (Kd.R_reads' HO395.out).2.1); rintro e w27 ⟨v404, rfl, ho0, hb⟩; refine ⟨_, rfl, ?_⟩; have n0_ := Aside0.mk (Kd.R_elder' (by (with_reducible repeat (first | apply Kd.R_alloc | apply Kd.R_drewN | apply Kd.R_drew)); exact (Kd.R_mono (Kd.R_far (p := ⟨gb402, 1, none⟩) (Kd.R_far (p := ⟨gb402, 0, none⟩) (Kd.R_types HO395.out BK402.out (by decide)) (fun _ hk => hk.2) (.slice Ao23 t398.length co23)) (fun _ hk => hk.2) (.int .i64 t401)) (fun _ h_ => h_.1))) (Kd.R_base ho0) hb); have n1_ := Aside0.mk (Kd.R_elder' (by (with_reducible repeat (first | apply Kd.R_alloc | apply Kd.R_drewN | apply Kd.R_drew)); exact (Kd.R_mono (Kd.R_far (p := ⟨gb402, 1, none⟩) (Kd.R_far (p := ⟨gb402, 0, none⟩) (Kd.R_types HO400.out BK402.out (by decide)) (fun _ hk => hk.2) (.slice Ao23 t398.length co23)) (fun _ hk => hk.2) (.int .i64 t401)) (fun _ h_ => h_.1))) (Kd.R_base ho0) hb); have n2_ := Aside0.mk (Kd.R_lower (Kd.R_new' (Kd.R_new' ho0 (Kd.R_lt (by (with_reducible repeat (first | apply Kd.R_alloc | apply Kd.R_drewN | apply Kd.R_drew)); exact (Kd.R_mono (Kd.R_far (p := ⟨gb402, 1, none⟩) (Kd.R_far (p := ⟨gb402, 0, none⟩) (Kd.R_types HO395.out BK402.out (by decide)) (fun _ hk => hk.2) (.slice Ao23 t398.length co23)) (fun _ hk => hk.2) (.int .i64 t401)) (fun _ h_ => h_.1))))) (Kd.R_lt (by (with_reducible repeat (first | apply Kd.R_alloc | apply Kd.R_drewN | apply Kd.R_drew)); exact (Kd.R_mono (Kd.R_far (p := ⟨gb402, 1, none⟩) (Kd.R_far (p := ⟨gb402, 0, none⟩) (Kd.R_types HO400.out BK402.out (by decide)) (fun _ hk => hk.2) (.slice Ao23 t398.length co23)) (fun _ hk => hk.2) (.int .i64 t401)) (fun _ h_ => h_.1))))) (below_size (by repeat (first | (with_reducible first | exact HB.out | apply below_alloc | apply pw_below_drewN | apply below_drew1 | refine below_set ?_ GE397.out | refine below_set ?_ GE402.out) | exact HB.out)))); have n3_ := Aside0.mk (blk_below (g := gb397) (o := .cells #[.slice Ao19 t393.length co19, .int .i64 t396] 86 (0, 0)) (by (with_reducible repeat (first | refine blk_drewN ?_ _ | refine blk_drew ?_ | refine blk_alloc ?_ _)); refine blk_far ?_ NB397_402.out _; (with_reducible repeat (first | refine blk_drewN ?_ _ | refine blk_drew ?_ | refine blk_alloc ?_ _)); refine blk_far ?_ NB397_402.out _; (with_reducible repeat (first | refine blk_drewN ?_ _ | refine blk_drew ?_ | refine blk_alloc ?_ _)); exact BK397.out) hb); have n4_ := Aside0.mk (blk_below (g := gb402) (o := .cells #[.slice Ao23 t398.length co23, .int .i64 t401] 86 (0, 0)) (by (with_reducible repeat (first | refine blk_drewN ?_ _ | refine blk_drew ?_ | refine blk_alloc ?_ _)); refine blk_put (cs := #[.slice Ao23 t398.length co23, .int .i64 0]) ?_ 1 _ rfl; (with_reducible repeat (first | refine blk_drewN ?_ _ | refine blk_drew ?_ | refine blk_alloc ?_ _)); refine blk_put (cs := #[.slice none 0 0, .int .i64 0]) ?_ 0 _ rfl; (with_reducible repeat (first | refine blk_drewN ?_ _ | refine blk_drew ?_ | refine blk_alloc ?_ _)); exact BK402.out) hb); have n5_ := Aside0.mk (below_step (by repeat (first | (with_reducible first | exact HB.out | apply below_alloc | apply pw_below_drewN | apply below_drew1 | refine below_set ?_ GE397.out | refine below_set ?_ GE402.out) | exact HB.out)) hb); clear HO395; clear HO400; clear BK397; clear BK402; clear HB; have HO395 := n0_; have HO400 := n1_; have HO405 := n2_; have BK397 := n3_; have BK402 := n4_; have HB := n5_; clear n0_ n1_ n2_ n3_ n4_ n5_; (try clear hb); (try clear hb2); (try clear hk); (try clear hi); (try clear ho0)) | ((with_reducible refine gate_dst (N := 12) rfl ?_); (try (refine gate_guard (by rfl) ?_; dsimp only)); refine box_event ?hg (N := 12) ?hd (cs := #[.slice none 0 0, .int .i64 0]) (t := 86) ?hr ?_; (case hd => rfl); (case hg => rfl); (case hr => first | (go_simp; done) | (go_simp; rfl)); intro gb407 hg w28 hbox hb; have n0_ := Aside0.mk (Kd.R_below (by (with_reducible repeat (first | apply Kd.R_alloc | apply Kd.R_drewN | apply Kd.R_drew)); exact HO395.out) hb); have n1_ := Aside0.mk (Kd.R_below (by (with_reducible repeat (first | apply Kd.R_alloc | apply Kd.R_drewN | apply Kd.R_drew)); exact HO400.out) hb); have n2_ := Aside0.mk (Kd.R_below (by (with_reducible repeat (first | apply Kd.R_alloc | apply Kd.R_drewN | apply Kd.R_drew)); exact HO405.out) hb); have n3_ := Aside0.mk (blk_below (g := gb397) (o := .cells #[.slice Ao19 t393.length co19, .int .i64 t396] 86 (0, 0)) (by (with_reducible repeat (first | refine blk_drewN ?_ _ | refine blk_drew ?_ | refine blk_alloc ?_ _)); exact BK397.out) hb); have n4_ := Aside0.mk (blk_below (g := gb402) (o := .cells #[.slice Ao23 t398.length co23, .int .i64 t401] 86 (0, 0)) (by (with_reducible repeat (first | refine blk_drewN ?_ _ | refine blk_drew ?_ | refine blk_alloc ?_ _)); exact BK402.out) hb); have n5_ := Aside0.mk (below_step (by repeat (first | (with_reducible first | exact HB.out | apply below_alloc | apply pw_below_drewN | apply below_drew1 | refine below_set ?_ GE397.out | refine below_set ?_ GE402.out) | exact HB.out)) hb); have n6_ := Aside0.mk (hbox); have n7_ := Aside0.mk ((by rw [hg]; exact (below_size (by repeat (first | (with_reducible first | exact HB.out | apply below_alloc | apply pw_below_drewN | apply below_drew1 | refine below_set ?_ GE397.out | refine below_set ?_ GE402.out) | exact HB.out))) : w.heap.size ≤ gb407)); have n8_ := Aside0.mk ((by rw [hg]; exact (below_size (by repeat (first | (with_reducible first | exact HB.out | apply below_alloc | apply pw_below_drewN | apply below_drew1 | refine below_set ?_ GE397.out | refine below_set ?_ GE402.out) | exact HB.out))) : w.heap.size ≤ gb407)); have n9_ := Aside0.mk ((by rw [hg]; exact Nat.ne_of_lt (blk_lt (g := gb397) (o := .cells #[.slice Ao19 t393.length co19, .int .i64 t396] 86 (0, 0)) (by (with_reducible repeat (first | refine blk_drewN ?_ _ | refine blk_drew ?_ | refine blk_alloc ?_ _)); exact BK397.out)) : gb397 ≠ gb407)); have n10_ := Aside0.mk ((by rw [hg]; exact Nat.ne_of_gt (blk_lt (g := gb397) (o := .cells #[.slice Ao19 t393.length co19, .int .i64 t396] 86 (0, 0)) (by (with_reducible repeat (first | refine blk_drewN ?_ _ | refine blk_drew ?_ | refine blk_alloc ?_ _)); exact BK397.out)) : gb407 ≠ gb397)); have n11_ := Aside0.mk ((by rw [hg]; exact Nat.ne_of_lt (blk_lt (g := gb402) (o := .cells #[.slice Ao23 t398.length co23, .int .i64 t401] 86 (0, 0)) (by (with_reducible repeat (first | refine blk_drewN ?_ _ | refine blk_drew ?_ | refine blk_alloc ?_ _)); exact BK402.out)) : gb402 ≠ gb407)); have n12_ := Aside0.mk ((by rw [hg]; exact Nat.ne_of_gt (blk_lt (g := gb402) (o := .cells #[.slice Ao23 t398.length co23, .int .i64 t401] 86 (0, 0)) (by (with_reducible repeat (first | refine blk_drewN ?_ _ | refine blk_drew ?_ | refine blk_alloc ?_ _)); exact BK402.out)) : gb407 ≠ gb402)); clear HO395; clear HO400; clear HO405; clear BK397; clear BK402; clear HB; have HO395 := n0_; have HO400 := n1_; have HO405 := n2_; have BK397 := n3_; have BK402 := n4_; have HB := n5_; have BK407 := n6_; have GW407 := n7_; have GE407 := n8_; have NB397_407 := n9_; have NB407_397 := n10_; have NB402_407 := n11_; have NB407_402 := n12_; clear n0_ n1_ n2_ n3_ n4_ n5_ n6_ n7_ n8_ n9_ n10_ n11_ n12_; clear hb hbox hg; obtain ⟨Ao29, co29, eo29⟩ := Kd.R_slice HO405.out; subst eo29; have hnb30 := NB407_397.out; have hnc30 := NB397_407.out; have hnb31 := NB407_402.out; have hnc31 := NB402_407.out; have hcz32_0 : w28.cell? ⟨gb407, 0, none⟩ = some (.slice none 0 0) := (blk_cell BK407.out 0).trans rfl; have hcz32_1 : w28.cell? ⟨gb407, 1, none⟩ = some (.int .i64 0) := (blk_cell BK407.out 1).trans rfl; have hfz32_0 := blk_frozen BK407.out 0; have hfz32_1 := blk_frozen BK407.out 1; have hcz33_0 : w28.cell? ⟨gb397, 0, none⟩ = some (.slice Ao19 t393.length co19) := (blk_cell BK397.out 0).trans rfl; have hcz33_1 : w28.cell? ⟨gb397, 1, none⟩ = some (.int .i64 t396) := (blk_cell BK397.out 1).trans rfl; have hfz33_0 := blk_frozen BK397.out 0; have hfz33_1 := blk_frozen BK397.out 1) | ((with_reducible refine gate_callee (f := 50) rfl ?_); refine goesL_ (some 54) rfl rfl Try.func50 (by kernel_rfl) rfl #[.slice Ao29 t403.length co29, .int .i64 t396, .int .i64 a3] rfl (by (try simp only [List.map_toArray, List.map_cons, List.map_nil]); first | done | rfl | (simp only [List.length_drop, List.length_take]; rfl)) ?_; (with_reducible refine (bits_Take.calls kj5 _ _ t403 t396 a3 t408 t409 _ ?side1 ?side2 A15.out).mono ?_); (case side1 => refine (Kd.R_reads' (e := 5) (base := w.heap.size) (ok := fun k_ => ((True ∧ some k_ ≠ (.slice Ao19 t393.length co19 : Value).ownBlock) ∧ some k_ ≠ (.slice Ao23 t398.length co23 : Value).ownBlock)) (n := t403.length) (c := co29) ?_).2.2; exact (by (with_reducible repeat (first | apply Kd.R_alloc | apply Kd.R_drewN | apply Kd.R_drew)); exact (Kd.R_mono (Kd.R_far (p := ⟨gb407, 1, none⟩) (Kd.R_far (p := ⟨gb407, 0, none⟩) (Kd.R_types HO405.out BK407.out (by decide)) (fun _ hk => hk.2) (.slice Ao29 t403.length co29)) (fun _ hk => hk.2) (.int .i64 t406)) (fun _ h_ => h_.1)))); (case side2 => exact (Kd.R_reads' HO405.out).2.1); rintro e w' ⟨rfl, ⟨nd, rfl⟩⟩; refine ⟨_, rfl, ?_⟩))
        (try simp only [Act.put, List.setIfInBounds_toArray, List.set_cons_zero, List.set_cons_succ])
        go_cut [15] (fun v15 wc => ∃ (kq : Nat) (x15_15 : Int), v15 = .int .u64 x15_15 ∧ Aside0 (gaiterlaw01_BitsBack.j1 kq a3 t392 t408 t409 x15_15 t393 t396 t398 t401 t403 t406 = some r) ∧ Aside0 (kq ≤ kj5) ∧ Aside0 (Kd.R (Kd.int .u8) 5 wc w.heap.size (fun k_ => some k_ ≠ ((.slice Ao23 t398.length co23) : Value).ownBlock ∧ some k_ ≠ ((.slice Ao29 t403.length co29) : Value).ownBlock) (.slice Ao19 t393.length co19) t393) ∧ Aside0 (Kd.R (Kd.int .u8) 5 wc w.heap.size (fun k_ => some k_ ≠ ((.slice Ao19 t393.length co19) : Value).ownBlock ∧ some k_ ≠ ((.slice Ao29 t403.length co29) : Value).ownBlock) (.slice Ao23 t398.length co23) t398) ∧ Aside0 (Kd.R (Kd.int .u8) 5 wc w.heap.size (fun k_ => some k_ ≠ ((.slice Ao19 t393.length co19) : Value).ownBlock ∧ some k_ ≠ ((.slice Ao23 t398.length co23) : Value).ownBlock) (.slice Ao29 t403.length co29) t403) ∧ Aside0 (wc.heap[gb397]? = some (.cells #[(.slice Ao19 t393.length co19), .int .i64 t396] 86 (0, 0))) ∧ Aside0 (wc.heap[gb402]? = some (.cells #[(.slice Ao23 t398.length co23), .int .i64 t401] 86 (0, 0))) ∧ Aside0 (wc.heap[gb407]? = some (.cells #[(.slice Ao29 t403.length co29), .int .i64 t406] 86 (0, 0))) ∧ Aside0 (Below w.heap.size w wc))
        case first =>
          have H := HC16.out
          clear HC16
          by_cases c34 : a3 < 64
          · rw [if_pos c34] at H
            have c34b0 : decide (a3 < 64) = true := decide_eq_true c34
            clear c34
            (first | rw [c34b0] | (simp only [i64_w, i32_w]; rw [c34b0]) | skip)
            obtain ⟨ji35, hji35⟩ : ∃ j_ : Int, (IntKind.u64.wrap (a3)) = j_ := ⟨_, rfl⟩
            replace H : (if 0 ≤ (ji35) then (if (shl .u64 1 (ji35)) = 0 then (none) else (gaiterlaw01_BitsBack.j1 kj5 a3 t392 t408 t409 (Int.tmod a2 (shl .u64 1 (ji35))) t393 t396 t398 t401 t403 t406)) else (none)) = some r := by first | (rw [hji35] at H; exact H) | (simp only [hji35] at H ⊢; exact H)
            by_cases c36 : 0 ≤ (ji35)
            · rw [if_pos c36] at H
              have c36b0 := eq_true c36
              have c36b1 : decide (0 ≤ (ji35)) = true := decide_eq_true c36
              clear c36
              obtain ⟨ji37, hji37⟩ : ∃ j_ : Int, (shl .u64 1 (ji35)) = j_ := ⟨_, rfl⟩
              replace H : (if (ji37) = 0 then (none) else (gaiterlaw01_BitsBack.j1 kj5 a3 t392 t408 t409 (Int.tmod a2 (ji37)) t393 t396 t398 t401 t403 t406)) = some r := by first | (rw [hji37] at H; exact H) | (simp only [hji37] at H ⊢; exact H)
              have hji37_ : (IntKind.u64.wrap (1 * 2 ^ min (ji35).toNat 64)) = ji37 := hji37
              have hji37z : (ji35) ≤ 64 → (IntKind.u64.wrap (1 * 2 ^ (ji35).toNat)) = ji37 := shl_small hji37
              have hji37u : (IntKind.u64.wrap (2 ^ min (ji35).toNat 64)) = ji37 := by have h_ := hji37_; rw [Int.one_mul] at h_; exact h_
              have hji37v : (ji35) ≤ 64 → (IntKind.u64.wrap (2 ^ (ji35).toNat)) = ji37 := fun hle_ => by have h_ := hji37z hle_; rw [Int.one_mul] at h_; exact h_
              by_cases c38 : (ji37) = 0
              · rw [if_pos c38] at H
                exact absurd H (by simp)
              · rw [if_neg c38] at H
                have c38b0 : ((ji37) == 0) = false := beq_eq_false_iff_ne.mpr c38
                have c38b1 : ((ji37) != 0) = true := bne_iff_ne.mpr c38
                have H' := Aside0.mk H
                clear H
                go_wp2
                go_meet
                case rel => exact ⟨_, (Int.tmod a2 (ji37)), (by first | rfl | (simp; done) | (simp only [← hji37] <;> (first | rfl | simp)) | (simp [*]; done)), H', ⟨by have := HJ5.out; first | omega | exact Nat.le_refl _⟩, ⟨by (with_reducible repeat (first | apply Kd.R_alloc | apply Kd.R_drewN | apply Kd.R_drew)); exact Kd.R_mono (Kd.R_far (p := ⟨gb407, 1, none⟩) (Kd.R_far (p := ⟨gb407, 0, none⟩) (Kd.R_types HO395.out BK407.out (by decide)) (fun _ hk => hk.2) (.slice Ao29 t403.length co29)) (fun _ hk => hk.2) (.int .i64 t406)) (fun _ hk => ⟨hk.1.1.2, hk.1.2⟩)⟩, ⟨by (with_reducible repeat (first | apply Kd.R_alloc | apply Kd.R_drewN | apply Kd.R_drew)); exact Kd.R_mono (Kd.R_far (p := ⟨gb407, 1, none⟩) (Kd.R_far (p := ⟨gb407, 0, none⟩) (Kd.R_types HO400.out BK407.out (by decide)) (fun _ hk => hk.2) (.slice Ao29 t403.length co29)) (fun _ hk => hk.2) (.int .i64 t406)) (fun _ hk => ⟨hk.1.1.2, hk.1.2⟩)⟩, ⟨by (with_reducible repeat (first | apply Kd.R_alloc | apply Kd.R_drewN | apply Kd.R_drew)); exact Kd.R_mono (Kd.R_far (p := ⟨gb407, 1, none⟩) (Kd.R_far (p := ⟨gb407, 0, none⟩) (Kd.R_types HO405.out BK407.out (by decide)) (fun _ hk => hk.2) (.slice Ao29 t403.length co29)) (fun _ hk => hk.2) (.int .i64 t406)) (fun _ hk => ⟨hk.1.1.2, hk.1.2⟩)⟩, ⟨by (with_reducible repeat (first | refine blk_drewN ?_ _ | refine blk_drew ?_ | refine blk_alloc ?_ _)); refine blk_far ?_ NB397_407.out _; (with_reducible repeat (first | refine blk_drewN ?_ _ | refine blk_drew ?_ | refine blk_alloc ?_ _)); refine blk_far ?_ NB397_407.out _; (with_reducible repeat (first | refine blk_drewN ?_ _ | refine blk_drew ?_ | refine blk_alloc ?_ _)); exact BK397.out⟩, ⟨by (with_reducible repeat (first | refine blk_drewN ?_ _ | refine blk_drew ?_ | refine blk_alloc ?_ _)); refine blk_far ?_ NB402_407.out _; (with_reducible repeat (first | refine blk_drewN ?_ _ | refine blk_drew ?_ | refine blk_alloc ?_ _)); refine blk_far ?_ NB402_407.out _; (with_reducible repeat (first | refine blk_drewN ?_ _ | refine blk_drew ?_ | refine blk_alloc ?_ _)); exact BK402.out⟩, ⟨by (with_reducible repeat (first | refine blk_drewN ?_ _ | refine blk_drew ?_ | refine blk_alloc ?_ _)); refine blk_put (cs := #[.slice Ao29 t403.length co29, .int .i64 0]) ?_ 1 _ rfl; (with_reducible repeat (first | refine blk_drewN ?_ _ | refine blk_drew ?_ | refine blk_alloc ?_ _)); refine blk_put (cs := #[.slice none 0 0, .int .i64 0]) ?_ 0 _ rfl; (with_reducible repeat (first | refine blk_drewN ?_ _ | refine blk_drew ?_ | refine blk_alloc ?_ _)); exact BK407.out⟩, ⟨by repeat (first | (with_reducible first | exact HB.out | apply below_alloc | apply pw_below_drewN | apply below_drew1 | refine below_set ?_ GE397.out | refine below_set ?_ GE402.out | refine below_set ?_ GE407.out) | exact HB.out)⟩⟩
            · rw [if_neg c36] at H
              exact absurd H (by simp)
          · rw [if_neg c34] at H
            have c34b0 : decide (a3 < 64) = false := decide_eq_false c34
            clear c34
            (first | rw [c34b0] | (simp only [i64_w, i32_w]; rw [c34b0]) | skip)
            have H' := Aside0.mk H
            clear H
            go_wp2
            go_meet
            case rel => exact ⟨_, (a2), (by first | rfl | (simp; done) | (simp [*]; done)), H', ⟨by have := HJ5.out; first | omega | exact Nat.le_refl _⟩, ⟨by (with_reducible repeat (first | apply Kd.R_alloc | apply Kd.R_drewN | apply Kd.R_drew)); exact Kd.R_mono (Kd.R_far (p := ⟨gb407, 1, none⟩) (Kd.R_far (p := ⟨gb407, 0, none⟩) (Kd.R_types HO395.out BK407.out (by decide)) (fun _ hk => hk.2) (.slice Ao29 t403.length co29)) (fun _ hk => hk.2) (.int .i64 t406)) (fun _ hk => ⟨hk.1.1.2, hk.1.2⟩)⟩, ⟨by (with_reducible repeat (first | apply Kd.R_alloc | apply Kd.R_drewN | apply Kd.R_drew)); exact Kd.R_mono (Kd.R_far (p := ⟨gb407, 1, none⟩) (Kd.R_far (p := ⟨gb407, 0, none⟩) (Kd.R_types HO400.out BK407.out (by decide)) (fun _ hk => hk.2) (.slice Ao29 t403.length co29)) (fun _ hk => hk.2) (.int .i64 t406)) (fun _ hk => ⟨hk.1.1.2, hk.1.2⟩)⟩, ⟨by (with_reducible repeat (first | apply Kd.R_alloc | apply Kd.R_drewN | apply Kd.R_drew)); exact Kd.R_mono (Kd.R_far (p := ⟨gb407, 1, none⟩) (Kd.R_far (p := ⟨gb407, 0, none⟩) (Kd.R_types HO405.out BK407.out (by decide)) (fun _ hk => hk.2) (.slice Ao29 t403.length co29)) (fun _ hk => hk.2) (.int .i64 t406)) (fun _ hk => ⟨hk.1.1.2, hk.1.2⟩)⟩, ⟨by (with_reducible repeat (first | refine blk_drewN ?_ _ | refine blk_drew ?_ | refine blk_alloc ?_ _)); refine blk_far ?_ NB397_407.out _; (with_reducible repeat (first | refine blk_drewN ?_ _ | refine blk_drew ?_ | refine blk_alloc ?_ _)); refine blk_far ?_ NB397_407.out _; (with_reducible repeat (first | refine blk_drewN ?_ _ | refine blk_drew ?_ | refine blk_alloc ?_ _)); exact BK397.out⟩, ⟨by (with_reducible repeat (first | refine blk_drewN ?_ _ | refine blk_drew ?_ | refine blk_alloc ?_ _)); refine blk_far ?_ NB402_407.out _; (with_reducible repeat (first | refine blk_drewN ?_ _ | refine blk_drew ?_ | refine blk_alloc ?_ _)); refine blk_far ?_ NB402_407.out _; (with_reducible repeat (first | refine blk_drewN ?_ _ | refine blk_drew ?_ | refine blk_alloc ?_ _)); exact BK402.out⟩, ⟨by (with_reducible repeat (first | refine blk_drewN ?_ _ | refine blk_drew ?_ | refine blk_alloc ?_ _)); refine blk_put (cs := #[.slice Ao29 t403.length co29, .int .i64 0]) ?_ 1 _ rfl; (with_reducible repeat (first | refine blk_drewN ?_ _ | refine blk_drew ?_ | refine blk_alloc ?_ _)); refine blk_put (cs := #[.slice none 0 0, .int .i64 0]) ?_ 0 _ rfl; (with_reducible repeat (first | refine blk_drewN ?_ _ | refine blk_drew ?_ | refine blk_alloc ?_ _)); exact BK407.out⟩, ⟨by repeat (first | (with_reducible first | exact HB.out | apply below_alloc | apply pw_below_drewN | apply below_drew1 | refine below_set ?_ GE397.out | refine below_set ?_ GE402.out | refine below_set ?_ GE407.out) | exact HB.out)⟩⟩
        case rest =>
          clear HC16
          try clear c1
          try clear c2
          try clear p2
          try clear c3
          try clear c5
          try clear c8
          try clear c8b0
          try clear c8b1
          try clear c9
          try clear c9b0
          try clear c9b1
          try clear c10
          try clear c10b0
          try clear c11
          try clear c14
          try clear c24
          try clear c30
          try clear c31
          try clear c34
          try clear c34b0
          try clear c36
          try clear c36b0
          try clear c36b1
          try clear c38
          try clear c38b0
          try clear c38b1
          try clear hcz20_0
          try clear hcz20_1
          try clear hcz25_0
          try clear hcz25_1
          try clear hcz26_0
          try clear hcz26_1
          try clear hcz32_0
          try clear hcz32_1
          try clear hcz33_0
          try clear hcz33_1
          try clear hfz20_0
          try clear hfz20_1
          try clear hfz25_0
          try clear hfz25_1
          try clear hfz26_0
          try clear hfz26_1
          try clear hfz32_0
          try clear hfz32_1
          try clear hfz33_0
          try clear hfz33_1
          try clear p2
          obtain ⟨kq, x15_15, rfl, HA, HJ15, HO_398000, HO_403000, HO_408000, BK397, BK402, BK407, HB⟩ := hcut
          cases kq with
          | zero => exact absurd HA.out (by simp [gaiterlaw01_BitsBack.j1])
          | succ kj15 =>
            have H := HA.out
            clear HA
            simp only [gaiterlaw01_BitsBack.j1] at H
            have HC39 := Aside0.mk H
            clear H
            go_upto_region 11 with (fail)
            go_cut [80] (fun v80 wc => ∃ (kq : Nat) (x80_38 : Bool), v80 = .bool x80_38 ∧ Aside0 (gaiterlaw01_BitsBack.j2 kq t392 x80_38 t398 t401 t403 t406 = some r) ∧ Aside0 (kq ≤ kj15) ∧ Aside0 (Kd.R (Kd.int .u8) 5 wc w.heap.size (fun k_ => some k_ ≠ ((.slice Ao23 t398.length co23) : Value).ownBlock ∧ some k_ ≠ ((.slice Ao29 t403.length co29) : Value).ownBlock) (.slice Ao19 t393.length co19) t393) ∧ Aside0 (Kd.R (Kd.int .u8) 5 wc w.heap.size (fun k_ => some k_ ≠ ((.slice Ao19 t393.length co19) : Value).ownBlock ∧ some k_ ≠ ((.slice Ao29 t403.length co29) : Value).ownBlock) (.slice Ao23 t398.length co23) t398) ∧ Aside0 (Kd.R (Kd.int .u8) 5 wc w.heap.size (fun k_ => some k_ ≠ ((.slice Ao19 t393.length co19) : Value).ownBlock ∧ some k_ ≠ ((.slice Ao23 t398.length co23) : Value).ownBlock) (.slice Ao29 t403.length co29) t403) ∧ Aside0 (wc.heap[gb397]? = some (.cells #[(.slice Ao19 t393.length co19), .int .i64 t396] 86 (0, 0))) ∧ Aside0 (wc.heap[gb402]? = some (.cells #[(.slice Ao23 t398.length co23), .int .i64 t401] 86 (0, 0))) ∧ Aside0 (wc.heap[gb407]? = some (.cells #[(.slice Ao29 t403.length co29), .int .i64 t406] 86 (0, 0))) ∧ Aside0 (Below w.heap.size w wc))
            case first =>
              have H := HC39.out
              clear HC39
              by_cases c40 : t409 = true
              · subst c40
                have H1 : (if t408 = x15_15 then (gaiterlaw01_BitsBack.j2 kj15 t392 (t406 != (wrap64 (t396 + a3))) t398 t401 t403 t406) else (gaiterlaw01_BitsBack.j2 kj15 t392 true t398 t401 t403 t406)) = some r := by rw [if_pos rfl] at H; exact H
                clear H
                have H := H1
                clear H1
                by_cases c41 : t408 = x15_15
                · rw [if_pos c41] at H
                  have c41b0 : (t408 == x15_15) = true := beq_iff_eq.mpr c41
                  have c41b1 : (t408 != x15_15) = false := bne_eq_false_iff_eq.mpr c41
                  clear c41
                  (first | rw [c41b0] | (simp only [i64_w, i32_w]; rw [c41b0]) | skip)
                  have H' := Aside0.mk H
                  clear H
                  have hnb42 := NB407_397.out
                  have hnc42 := NB397_407.out
                  have hnb43 := NB407_402.out
                  have hnc43 := NB402_407.out
                  have hcz44_0 : wc.cell? ⟨gb407, 0, none⟩ = some (.slice Ao29 t403.length co29) := (blk_cell BK407.out 0).trans rfl
                  have hcz44_1 : wc.cell? ⟨gb407, 1, none⟩ = some (.int .i64 t406) := (blk_cell BK407.out 1).trans rfl
                  have hfz44_0 := blk_frozen BK407.out 0
                  have hfz44_1 := blk_frozen BK407.out 1
                  have hnb45 := NB397_402.out
                  have hnc45 := NB402_397.out
                  have hcz46_0 : wc.cell? ⟨gb397, 0, none⟩ = some (.slice Ao19 t393.length co19) := (blk_cell BK397.out 0).trans rfl
                  have hcz46_1 : wc.cell? ⟨gb397, 1, none⟩ = some (.int .i64 t396) := (blk_cell BK397.out 1).trans rfl
                  have hfz46_0 := blk_frozen BK397.out 0
                  have hfz46_1 := blk_frozen BK397.out 1
                  go_wp2
                  go_meet
                  case rel => exact ⟨_, ((t406 != (wrap64 (t396 + a3)))), (by first | rfl | (simp; done) | (simp [*]; done)), H', ⟨by have := HJ5.out; have := HJ15.out; first | omega | exact Nat.le_refl _⟩, ⟨by (with_reducible repeat (first | apply Kd.R_alloc | apply Kd.R_drewN | apply Kd.R_drew)); exact HO_398000.out⟩, ⟨by (with_reducible repeat (first | apply Kd.R_alloc | apply Kd.R_drewN | apply Kd.R_drew)); exact HO_403000.out⟩, ⟨by (with_reducible repeat (first | apply Kd.R_alloc | apply Kd.R_drewN | apply Kd.R_drew)); exact HO_408000.out⟩, ⟨by (with_reducible repeat (first | refine blk_drewN ?_ _ | refine blk_drew ?_ | refine blk_alloc ?_ _)); exact BK397.out⟩, ⟨by (with_reducible repeat (first | refine blk_drewN ?_ _ | refine blk_drew ?_ | refine blk_alloc ?_ _)); exact BK402.out⟩, ⟨by (with_reducible repeat (first | refine blk_drewN ?_ _ | refine blk_drew ?_ | refine blk_alloc ?_ _)); exact BK407.out⟩, ⟨by repeat (first | (with_reducible first | exact HB.out | apply below_alloc | apply pw_below_drewN | apply below_drew1 | refine below_set ?_ GE397.out | refine below_set ?_ GE402.out | refine below_set ?_ GE407.out) | exact HB.out)⟩⟩
                · rw [if_neg c41] at H
                  have c41b0 : (t408 == x15_15) = false := beq_eq_false_iff_ne.mpr c41
                  have c41b1 : (t408 != x15_15) = true := bne_iff_ne.mpr c41
                  (first | rw [c41b0] | (simp only [i64_w, i32_w]; rw [c41b0]) | skip)
                  have H' := Aside0.mk H
                  clear H
                  go_wp2
                  go_meet
                  case rel => exact ⟨_, (true), (by first | rfl | (simp; done) | (simp [*]; done)), H', ⟨by have := HJ5.out; have := HJ15.out; first | omega | exact Nat.le_refl _⟩, ⟨by (with_reducible repeat (first | apply Kd.R_alloc | apply Kd.R_drewN | apply Kd.R_drew)); exact HO_398000.out⟩, ⟨by (with_reducible repeat (first | apply Kd.R_alloc | apply Kd.R_drewN | apply Kd.R_drew)); exact HO_403000.out⟩, ⟨by (with_reducible repeat (first | apply Kd.R_alloc | apply Kd.R_drewN | apply Kd.R_drew)); exact HO_408000.out⟩, ⟨by (with_reducible repeat (first | refine blk_drewN ?_ _ | refine blk_drew ?_ | refine blk_alloc ?_ _)); exact BK397.out⟩, ⟨by (with_reducible repeat (first | refine blk_drewN ?_ _ | refine blk_drew ?_ | refine blk_alloc ?_ _)); exact BK402.out⟩, ⟨by (with_reducible repeat (first | refine blk_drewN ?_ _ | refine blk_drew ?_ | refine blk_alloc ?_ _)); exact BK407.out⟩, ⟨by repeat (first | (with_reducible first | exact HB.out | apply below_alloc | apply pw_below_drewN | apply below_drew1 | refine below_set ?_ GE397.out | refine below_set ?_ GE402.out | refine below_set ?_ GE407.out) | exact HB.out)⟩⟩
              · replace c40 := Bool.eq_false_iff.mpr c40
                subst c40
                have H1 : (gaiterlaw01_BitsBack.j2 kj15 t392 true t398 t401 t403 t406) = some r := by rw [if_neg (show ¬ (false = true) by decide)] at H; exact H
                clear H
                have H := H1
                clear H1
                have H' := Aside0.mk H
                clear H
                go_wp2
                go_meet
                case rel => exact ⟨_, (true), (by first | rfl | (simp; done) | (simp [*]; done)), H', ⟨by have := HJ5.out; have := HJ15.out; first | omega | exact Nat.le_refl _⟩, ⟨by (with_reducible repeat (first | apply Kd.R_alloc | apply Kd.R_drewN | apply Kd.R_drew)); exact HO_398000.out⟩, ⟨by (with_reducible repeat (first | apply Kd.R_alloc | apply Kd.R_drewN | apply Kd.R_drew)); exact HO_403000.out⟩, ⟨by (with_reducible repeat (first | apply Kd.R_alloc | apply Kd.R_drewN | apply Kd.R_drew)); exact HO_408000.out⟩, ⟨by (with_reducible repeat (first | refine blk_drewN ?_ _ | refine blk_drew ?_ | refine blk_alloc ?_ _)); exact BK397.out⟩, ⟨by (with_reducible repeat (first | refine blk_drewN ?_ _ | refine blk_drew ?_ | refine blk_alloc ?_ _)); exact BK402.out⟩, ⟨by (with_reducible repeat (first | refine blk_drewN ?_ _ | refine blk_drew ?_ | refine blk_alloc ?_ _)); exact BK407.out⟩, ⟨by repeat (first | (with_reducible first | exact HB.out | apply below_alloc | apply pw_below_drewN | apply below_drew1 | refine below_set ?_ GE397.out | refine below_set ?_ GE402.out | refine below_set ?_ GE407.out) | exact HB.out)⟩⟩
            case rest =>
              clear HC39
              try clear c1
              try clear c2
              try clear p2
              try clear c3
              try clear c4
              try clear c5
              try clear p6
              try clear c8
              try clear c8b0
              try clear c8b1
              try clear c9
              try clear c9b0
              try clear c9b1
              try clear c10
              try clear c10b0
              try clear c11
              try clear c14
              try clear c24
              try clear c30
              try clear c31
              try clear c34
              try clear c34b0
              try clear c36
              try clear c36b0
              try clear c36b1
              try clear c38
              try clear c38b0
              try clear c38b1
              try clear c40
              try clear c41
              try clear c41b0
              try clear c41b1
              try clear c42
              try clear c43
              try clear c45
              try clear hcz20_0
              try clear hcz20_1
              try clear hcz25_0
              try clear hcz25_1
              try clear hcz26_0
              try clear hcz26_1
              try clear hcz32_0
              try clear hcz32_1
              try clear hcz33_0
              try clear hcz33_1
              try clear hcz44_0
              try clear hcz44_1
              try clear hcz46_0
              try clear hcz46_1
              try clear hfz20_0
              try clear hfz20_1
              try clear hfz25_0
              try clear hfz25_1
              try clear hfz26_0
              try clear hfz26_1
              try clear hfz32_0
              try clear hfz32_1
              try clear hfz33_0
              try clear hfz33_1
              try clear hfz44_0
              try clear hfz44_1
              try clear hfz46_0
              try clear hfz46_1
              try clear p2
              obtain ⟨kq, x80_38, rfl, HA, HJ38, HO_398000, HO_403000, HO_408000, BK397, BK402, BK407, HB⟩ := hcut
              cases kq with
              | zero => exact absurd HA.out (by simp [gaiterlaw01_BitsBack.j2])
              | succ kj38 =>
                have H := HA.out
                clear HA
                simp only [gaiterlaw01_BitsBack.j2] at H
                by_cases c47 : x80_38 = true
                · subst c47
                  have H1 : (some false) = some r := by rw [if_pos rfl] at H; exact H
                  clear H
                  have H := H1
                  clear H1
                  obtain rfl := Option.some.inj H
                  go_wp2
                  go_ret
                  exact ⟨by first | rfl | (simp [errW_none, errW_some] <;> rfl) | (simp [*, errW_none, errW_some] <;> rfl), by repeat (first | (with_reducible first | exact HB.out | apply below_alloc | apply pw_below_drewN | apply below_drew1 | refine below_set ?_ GE397.out | refine below_set ?_ GE402.out | refine below_set ?_ GE407.out) | exact HB.out)⟩
                · replace c47 := Bool.eq_false_iff.mpr c47
                  subst c47
                  have H1 : ((bits_Join.f kj38 t403 t406 t398 t401).bind fun bt410 => (if bt410.2 = (wrap64 (t406 + t401)) then (gaiterlaw01_BitsBack.l0 kj38 t392 0 t398 t401 t403 t406 bt410.1 bt410.2) else (some false))) = some r := by rw [if_neg (show ¬ (false = true) by decide)] at H; exact H
                  clear H
                  have H := H1
                  clear H1
                  replace H := Option.bind_eq_some_iff.mp H
                  obtain ⟨⟨t410, t413⟩, A480, H⟩ := H
                  replace H : (if t413 = (wrap64 (t406 + t401)) then (gaiterlaw01_BitsBack.l0 kj38 t392 0 t398 t401 t403 t406 t410 t413) else (some false)) = some r := H
                  have A48 := Aside0.mk A480
                  clear A480
                  by_cases c49 : t413 = (wrap64 (t406 + t401))
                  · rw [if_pos c49] at H
                    have c49b0 : (t413 == (wrap64 (t406 + t401))) = true := beq_iff_eq.mpr c49
                    have c49b1 : (t413 != (wrap64 (t406 + t401))) = false := bne_eq_false_iff_eq.mpr c49
                    clear c49
                    have H' := Aside0.mk H
                    clear H
                    have hnb50 := NB407_397.out
                    have hnc50 := NB397_407.out
                    have hnb51 := NB407_402.out
                    have hnc51 := NB402_407.out
                    have hcz52_0 : wc.cell? ⟨gb407, 0, none⟩ = some (.slice Ao29 t403.length co29) := (blk_cell BK407.out 0).trans rfl
                    have hcz52_1 : wc.cell? ⟨gb407, 1, none⟩ = some (.int .i64 t406) := (blk_cell BK407.out 1).trans rfl
                    have hfz52_0 := blk_frozen BK407.out 0
                    have hfz52_1 := blk_frozen BK407.out 1
                    have hnb53 := NB402_397.out
                    have hnc53 := NB397_402.out
                    have hcz54_0 : wc.cell? ⟨gb402, 0, none⟩ = some (.slice Ao23 t398.length co23) := (blk_cell BK402.out 0).trans rfl
                    have hcz54_1 : wc.cell? ⟨gb402, 1, none⟩ = some (.int .i64 t401) := (blk_cell BK402.out 1).trans rfl
                    have hfz54_0 := blk_frozen BK402.out 0
                    have hfz54_1 := blk_frozen BK402.out 1
                    go_wp2_with (first | ((with_reducible refine gate_callee (f := 57) rfl ?_); refine goesL_ (some 83) rfl rfl Try.func57 (by kernel_rfl) rfl #[.agg #[.slice Ao29 t403.length co29, .int .i64 t406], .agg #[.slice Ao23 t398.length co23, .int .i64 t401]] rfl (by (try simp only [List.map_toArray, List.map_cons, List.map_nil]); first | done | rfl | (simp only [List.length_drop, List.length_take]; rfl)) ?_; (with_reducible refine (bits_Join.calls kj38 _ _ t403 t406 _ _ t398 t401 t410 t413 _ ?side1 ?side2 ?side3 ?side4 A48.out).mono ?_); (case side1 => repeat (first | exact (Kd.R_reads' HO_408000.out).2.2 | (with_reducible refine Kd.C_alloc ?_ _) | (with_reducible refine Kd.C_drewN ?_ _) | (with_reducible refine Kd.C_drew ?_))); (case side2 => exact (Kd.R_reads' HO_408000.out).2.1); (case side3 => repeat (first | exact (Kd.R_reads' HO_403000.out).2.2 | (with_reducible refine Kd.C_alloc ?_ _) | (with_reducible refine Kd.C_drewN ?_ _) | (with_reducible refine Kd.C_drew ?_))); (case side4 => exact (Kd.R_reads' HO_403000.out).2.1); rintro e w55 ⟨v411, rfl, ho0, hb⟩; refine ⟨_, rfl, ?_⟩; have n0_ := Aside0.mk (Kd.R_elder' (by (with_reducible repeat (first | apply Kd.R_alloc | apply Kd.R_drewN | apply Kd.R_drew)); exact HO_398000.out) (Kd.R_base ho0) hb); have n1_ := Aside0.mk (Kd.R_elder' (by (with_reducible repeat (first | apply Kd.R_alloc | apply Kd.R_drewN | apply Kd.R_drew)); exact HO_403000.out) (Kd.R_base ho0) hb); have n2_ := Aside0.mk (Kd.R_elder' (by (with_reducible repeat (first | apply Kd.R_alloc | apply Kd.R_drewN | apply Kd.R_drew)); exact HO_408000.out) (Kd.R_base ho0) hb); have n3_ := Aside0.mk (Kd.R_lower (Kd.R_new' (Kd.R_new' (Kd.R_new' ho0 (Kd.R_lt (by (with_reducible repeat (first | apply Kd.R_alloc | apply Kd.R_drewN | apply Kd.R_drew)); exact HO_398000.out))) (Kd.R_lt (by (with_reducible repeat (first | apply Kd.R_alloc | apply Kd.R_drewN | apply Kd.R_drew)); exact HO_403000.out))) (Kd.R_lt (by (with_reducible repeat (first | apply Kd.R_alloc | apply Kd.R_drewN | apply Kd.R_drew)); exact HO_408000.out))) (below_size (by repeat (first | (with_reducible first | exact HB.out | apply below_alloc | apply pw_below_drewN | apply below_drew1 | refine below_set ?_ GE397.out | refine below_set ?_ GE402.out | refine below_set ?_ GE407.out) | exact HB.out)))); have n4_ := Aside0.mk (blk_below (g := gb397) (o := .cells #[.slice Ao19 t393.length co19, .int .i64 t396] 86 (0, 0)) (by (with_reducible repeat (first | refine blk_drewN ?_ _ | refine blk_drew ?_ | refine blk_alloc ?_ _)); exact BK397.out) hb); have n5_ := Aside0.mk (blk_below (g := gb402) (o := .cells #[.slice Ao23 t398.length co23, .int .i64 t401] 86 (0, 0)) (by (with_reducible repeat (first | refine blk_drewN ?_ _ | refine blk_drew ?_ | refine blk_alloc ?_ _)); exact BK402.out) hb); have n6_ := Aside0.mk (blk_below (g := gb407) (o := .cells #[.slice Ao29 t403.length co29, .int .i64 t406] 86 (0, 0)) (by (with_reducible repeat (first | refine blk_drewN ?_ _ | refine blk_drew ?_ | refine blk_alloc ?_ _)); exact BK407.out) hb); have n7_ := Aside0.mk (below_step (by repeat (first | (with_reducible first | exact HB.out | apply below_alloc | apply pw_below_drewN | apply below_drew1 | refine below_set ?_ GE397.out | refine below_set ?_ GE402.out | refine below_set ?_ GE407.out) | exact HB.out)) hb); clear HO_398000; clear HO_403000; clear HO_408000; clear BK397; clear BK402; clear BK407; clear HB; have HO_398000 := n0_; have HO_403000 := n1_; have HO_408000 := n2_; have HO412 := n3_; have BK397 := n4_; have BK402 := n5_; have BK407 := n6_; have HB := n7_; clear n0_ n1_ n2_ n3_ n4_ n5_ n6_ n7_; (try clear hb); (try clear hb2); (try clear hk); (try clear hi); (try clear ho0)) | ((with_reducible refine gate_dst (N := 16) rfl ?_); (try (refine gate_guard (by rfl) ?_; dsimp only)); refine box_event ?hg (N := 16) ?hd (cs := #[.slice none 0 0, .int .i64 0]) (t := 86) ?hr ?_; (case hd => rfl); (case hg => rfl); (case hr => first | (go_simp; done) | (go_simp; rfl)); intro gb414 hg w56 hbox hb; have n0_ := Aside0.mk (Kd.R_below (by (with_reducible repeat (first | apply Kd.R_alloc | apply Kd.R_drewN | apply Kd.R_drew)); exact HO_398000.out) hb); have n1_ := Aside0.mk (Kd.R_below (by (with_reducible repeat (first | apply Kd.R_alloc | apply Kd.R_drewN | apply Kd.R_drew)); exact HO_403000.out) hb); have n2_ := Aside0.mk (Kd.R_below (by (with_reducible repeat (first | apply Kd.R_alloc | apply Kd.R_drewN | apply Kd.R_drew)); exact HO_408000.out) hb); have n3_ := Aside0.mk (Kd.R_below (by (with_reducible repeat (first | apply Kd.R_alloc | apply Kd.R_drewN | apply Kd.R_drew)); exact HO412.out) hb); have n4_ := Aside0.mk (blk_below (g := gb397) (o := .cells #[.slice Ao19 t393.length co19, .int .i64 t396] 86 (0, 0)) (by (with_reducible repeat (first | refine blk_drewN ?_ _ | refine blk_drew ?_ | refine blk_alloc ?_ _)); exact BK397.out) hb); have n5_ := Aside0.mk (blk_below (g := gb402) (o := .cells #[.slice Ao23 t398.length co23, .int .i64 t401] 86 (0, 0)) (by (with_reducible repeat (first | refine blk_drewN ?_ _ | refine blk_drew ?_ | refine blk_alloc ?_ _)); exact BK402.out) hb); have n6_ := Aside0.mk (blk_below (g := gb407) (o := .cells #[.slice Ao29 t403.length co29, .int .i64 t406] 86 (0, 0)) (by (with_reducible repeat (first | refine blk_drewN ?_ _ | refine blk_drew ?_ | refine blk_alloc ?_ _)); exact BK407.out) hb); have n7_ := Aside0.mk (below_step (by repeat (first | (with_reducible first | exact HB.out | apply below_alloc | apply pw_below_drewN | apply below_drew1 | refine below_set ?_ GE397.out | refine below_set ?_ GE402.out | refine below_set ?_ GE407.out) | exact HB.out)) hb); have n8_ := Aside0.mk (hbox); have n9_ := Aside0.mk ((by rw [hg]; exact (below_size (by repeat (first | (with_reducible first | exact HB.out | apply below_alloc | apply pw_below_drewN | apply below_drew1 | refine below_set ?_ GE397.out | refine below_set ?_ GE402.out | refine below_set ?_ GE407.out) | exact HB.out))) : w.heap.size ≤ gb414)); have n10_ := Aside0.mk ((by rw [hg]; exact (below_size (by repeat (first | (with_reducible first | exact HB.out | apply below_alloc | apply pw_below_drewN | apply below_drew1 | refine below_set ?_ GE397.out | refine below_set ?_ GE402.out | refine below_set ?_ GE407.out) | exact HB.out))) : w.heap.size ≤ gb414)); have n11_ := Aside0.mk ((by rw [hg]; exact Nat.ne_of_lt (blk_lt (g := gb397) (o := .cells #[.slice Ao19 t393.length co19, .int .i64 t396] 86 (0, 0)) (by (with_reducible repeat (first | refine blk_drewN ?_ _ | refine blk_drew ?_ | refine blk_alloc ?_ _)); exact BK397.out)) : gb397 ≠ gb414)); have n12_ := Aside0.mk ((by rw [hg]; exact Nat.ne_of_gt (blk_lt (g := gb397) (o := .cells #[.slice Ao19 t393.length co19, .int .i64 t396] 86 (0, 0)) (by (with_reducible repeat (first | refine blk_drewN ?_ _ | refine blk_drew ?_ | refine blk_alloc ?_ _)); exact BK397.out)) : gb414 ≠ gb397)); have n13_ := Aside0.mk ((by rw [hg]; exact Nat.ne_of_lt (blk_lt (g := gb402) (o := .cells #[.slice Ao23 t398.length co23, .int .i64 t401] 86 (0, 0)) (by (with_reducible repeat (first | refine blk_drewN ?_ _ | refine blk_drew ?_ | refine blk_alloc ?_ _)); exact BK402.out)) : gb402 ≠ gb414)); have n14_ := Aside0.mk ((by rw [hg]; exact Nat.ne_of_gt (blk_lt (g := gb402) (o := .cells #[.slice Ao23 t398.length co23, .int .i64 t401] 86 (0, 0)) (by (with_reducible repeat (first | refine blk_drewN ?_ _ | refine blk_drew ?_ | refine blk_alloc ?_ _)); exact BK402.out)) : gb414 ≠ gb402)); have n15_ := Aside0.mk ((by rw [hg]; exact Nat.ne_of_lt (blk_lt (g := gb407) (o := .cells #[.slice Ao29 t403.length co29, .int .i64 t406] 86 (0, 0)) (by (with_reducible repeat (first | refine blk_drewN ?_ _ | refine blk_drew ?_ | refine blk_alloc ?_ _)); exact BK407.out)) : gb407 ≠ gb414)); have n16_ := Aside0.mk ((by rw [hg]; exact Nat.ne_of_gt (blk_lt (g := gb407) (o := .cells #[.slice Ao29 t403.length co29, .int .i64 t406] 86 (0, 0)) (by (with_reducible repeat (first | refine blk_drewN ?_ _ | refine blk_drew ?_ | refine blk_alloc ?_ _)); exact BK407.out)) : gb414 ≠ gb407)); clear HO_398000; clear HO_403000; clear HO_408000; clear HO412; clear BK397; clear BK402; clear BK407; clear HB; have HO_398000 := n0_; have HO_403000 := n1_; have HO_408000 := n2_; have HO412 := n3_; have BK397 := n4_; have BK402 := n5_; have BK407 := n6_; have HB := n7_; have BK414 := n8_; have GW414 := n9_; have GE414 := n10_; have NB397_414 := n11_; have NB414_397 := n12_; have NB402_414 := n13_; have NB414_402 := n14_; have NB407_414 := n15_; have NB414_407 := n16_; clear n0_ n1_ n2_ n3_ n4_ n5_ n6_ n7_ n8_ n9_ n10_ n11_ n12_ n13_ n14_ n15_ n16_; clear hb hbox hg; obtain ⟨Ao57, co57, eo57⟩ := Kd.R_slice HO412.out; subst eo57; have hnb58 := NB414_397.out; have hnc58 := NB397_414.out; have hnb59 := NB414_402.out; have hnc59 := NB402_414.out; have hnb60 := NB414_407.out; have hnc60 := NB407_414.out; have hcz61_0 : w56.cell? ⟨gb414, 0, none⟩ = some (.slice none 0 0) := (blk_cell BK414.out 0).trans rfl; have hcz61_1 : w56.cell? ⟨gb414, 1, none⟩ = some (.int .i64 0) := (blk_cell BK414.out 1).trans rfl; have hfz61_0 := blk_frozen BK414.out 0; have hfz61_1 := blk_frozen BK414.out 1; have hcz62_0 : w56.cell? ⟨gb407, 0, none⟩ = some (.slice Ao29 t403.length co29) := (blk_cell BK407.out 0).trans rfl; have hcz62_1 : w56.cell? ⟨gb407, 1, none⟩ = some (.int .i64 t406) := (blk_cell BK407.out 1).trans rfl; have hfz62_0 := blk_frozen BK407.out 0; have hfz62_1 := blk_frozen BK407.out 1; have hcz63_0 : w56.cell? ⟨gb402, 0, none⟩ = some (.slice Ao23 t398.length co23) := (blk_cell BK402.out 0).trans rfl; have hcz63_1 : w56.cell? ⟨gb402, 1, none⟩ = some (.int .i64 t401) := (blk_cell BK402.out 1).trans rfl; have hfz63_0 := blk_frozen BK402.out 0; have hfz63_1 := blk_frozen BK402.out 1))
                    go_loopg [17] kj38 (fun kq v17 w' => ∃ (x17_4 : Int), v17 = .int .i64 x17_4 ∧ Aside0 (gaiterlaw01_BitsBack.l0 kq t392 x17_4 t398 t401 t403 t406 t410 t413 = some r) ∧ Aside0 (kq ≤ kj38) ∧ Aside0 (Kd.R (Kd.int .u8) 5 w' w.heap.size (fun k_ => some k_ ≠ ((.slice Ao23 t398.length co23) : Value).ownBlock ∧ some k_ ≠ ((.slice Ao29 t403.length co29) : Value).ownBlock ∧ some k_ ≠ ((.slice Ao57 t410.length co57) : Value).ownBlock) (.slice Ao19 t393.length co19) t393) ∧ Aside0 (Kd.R (Kd.int .u8) 5 w' w.heap.size (fun k_ => some k_ ≠ ((.slice Ao19 t393.length co19) : Value).ownBlock ∧ some k_ ≠ ((.slice Ao29 t403.length co29) : Value).ownBlock ∧ some k_ ≠ ((.slice Ao57 t410.length co57) : Value).ownBlock) (.slice Ao23 t398.length co23) t398) ∧ Aside0 (Kd.R (Kd.int .u8) 5 w' w.heap.size (fun k_ => some k_ ≠ ((.slice Ao19 t393.length co19) : Value).ownBlock ∧ some k_ ≠ ((.slice Ao23 t398.length co23) : Value).ownBlock ∧ some k_ ≠ ((.slice Ao57 t410.length co57) : Value).ownBlock) (.slice Ao29 t403.length co29) t403) ∧ Aside0 (Kd.R (Kd.int .u8) 5 w' w.heap.size (fun k_ => some k_ ≠ ((.slice Ao19 t393.length co19) : Value).ownBlock ∧ some k_ ≠ ((.slice Ao23 t398.length co23) : Value).ownBlock ∧ some k_ ≠ ((.slice Ao29 t403.length co29) : Value).ownBlock) (.slice Ao57 t410.length co57) t410) ∧ Aside0 (w'.heap[gb397]? = some (.cells #[(.slice Ao19 t393.length co19), .int .i64 t396] 86 (0, 0))) ∧ Aside0 (w'.heap[gb402]? = some (.cells #[(.slice Ao23 t398.length co23), .int .i64 t401] 86 (0, 0))) ∧ Aside0 (w'.heap[gb407]? = some (.cells #[(.slice Ao29 t403.length co29), .int .i64 t406] 86 (0, 0))) ∧ Aside0 (w'.heap[gb414]? = some (.cells #[(.slice Ao57 t410.length co57), .int .i64 t413] 86 (0, 0))) ∧ Aside0 (Below w.heap.size w w'))
                    case atStart => exact ⟨(0), (by first | rfl | (simp; done) | (simp [*]; done)), H', ⟨Nat.le_refl _⟩, ⟨by (with_reducible repeat (first | apply Kd.R_alloc | apply Kd.R_drewN | apply Kd.R_drew)); exact Kd.R_mono (Kd.R_far (p := ⟨gb414, 1, none⟩) (Kd.R_far (p := ⟨gb414, 0, none⟩) (Kd.R_types HO_398000.out BK414.out (by decide)) (fun _ hk => hk.2) (.slice Ao57 t410.length co57)) (fun _ hk => hk.2) (.int .i64 t413)) (fun _ hk => ⟨hk.1.1.1, ⟨hk.1.1.2, hk.1.2⟩⟩)⟩, ⟨by (with_reducible repeat (first | apply Kd.R_alloc | apply Kd.R_drewN | apply Kd.R_drew)); exact Kd.R_mono (Kd.R_far (p := ⟨gb414, 1, none⟩) (Kd.R_far (p := ⟨gb414, 0, none⟩) (Kd.R_types HO_403000.out BK414.out (by decide)) (fun _ hk => hk.2) (.slice Ao57 t410.length co57)) (fun _ hk => hk.2) (.int .i64 t413)) (fun _ hk => ⟨hk.1.1.1, ⟨hk.1.1.2, hk.1.2⟩⟩)⟩, ⟨by (with_reducible repeat (first | apply Kd.R_alloc | apply Kd.R_drewN | apply Kd.R_drew)); exact Kd.R_mono (Kd.R_far (p := ⟨gb414, 1, none⟩) (Kd.R_far (p := ⟨gb414, 0, none⟩) (Kd.R_types HO_408000.out BK414.out (by decide)) (fun _ hk => hk.2) (.slice Ao57 t410.length co57)) (fun _ hk => hk.2) (.int .i64 t413)) (fun _ hk => ⟨hk.1.1.1, ⟨hk.1.1.2, hk.1.2⟩⟩)⟩, ⟨by (with_reducible repeat (first | apply Kd.R_alloc | apply Kd.R_drewN | apply Kd.R_drew)); exact Kd.R_mono (Kd.R_far (p := ⟨gb414, 1, none⟩) (Kd.R_far (p := ⟨gb414, 0, none⟩) (Kd.R_types HO412.out BK414.out (by decide)) (fun _ hk => hk.2) (.slice Ao57 t410.length co57)) (fun _ hk => hk.2) (.int .i64 t413)) (fun _ hk => ⟨hk.1.1.1.2, ⟨hk.1.1.2, hk.1.2⟩⟩)⟩, ⟨by (with_reducible repeat (first | refine blk_drewN ?_ _ | refine blk_drew ?_ | refine blk_alloc ?_ _)); refine blk_far ?_ NB397_414.out _; (with_reducible repeat (first | refine blk_drewN ?_ _ | refine blk_drew ?_ | refine blk_alloc ?_ _)); refine blk_far ?_ NB397_414.out _; (with_reducible repeat (first | refine blk_drewN ?_ _ | refine blk_drew ?_ | refine blk_alloc ?_ _)); exact BK397.out⟩, ⟨by (with_reducible repeat (first | refine blk_drewN ?_ _ | refine blk_drew ?_ | refine blk_alloc ?_ _)); refine blk_far ?_ NB402_414.out _; (with_reducible repeat (first | refine blk_drewN ?_ _ | refine blk_drew ?_ | refine blk_alloc ?_ _)); refine blk_far ?_ NB402_414.out _; (with_reducible repeat (first | refine blk_drewN ?_ _ | refine blk_drew ?_ | refine blk_alloc ?_ _)); exact BK402.out⟩, ⟨by (with_reducible repeat (first | refine blk_drewN ?_ _ | refine blk_drew ?_ | refine blk_alloc ?_ _)); refine blk_far ?_ NB407_414.out _; (with_reducible repeat (first | refine blk_drewN ?_ _ | refine blk_drew ?_ | refine blk_alloc ?_ _)); refine blk_far ?_ NB407_414.out _; (with_reducible repeat (first | refine blk_drewN ?_ _ | refine blk_drew ?_ | refine blk_alloc ?_ _)); exact BK407.out⟩, ⟨by (with_reducible repeat (first | refine blk_drewN ?_ _ | refine blk_drew ?_ | refine blk_alloc ?_ _)); refine blk_put (cs := #[.slice Ao57 t410.length co57, .int .i64 0]) ?_ 1 _ rfl; (with_reducible repeat (first | refine blk_drewN ?_ _ | refine blk_drew ?_ | refine blk_alloc ?_ _)); refine blk_put (cs := #[.slice none 0 0, .int .i64 0]) ?_ 0 _ rfl; (with_reducible repeat (first | refine blk_drewN ?_ _ | refine blk_drew ?_ | refine blk_alloc ?_ _)); exact BK414.out⟩, ⟨by repeat (first | (with_reducible first | exact HB.out | apply below_alloc | apply pw_below_drewN | apply below_drew1 | refine below_set ?_ GE397.out | refine below_set ?_ GE402.out | refine below_set ?_ GE407.out | refine below_set ?_ GE414.out) | exact HB.out)⟩⟩
                    case round =>
                      clear H'
                      try clear c1
                      try clear c2
                      try clear p2
                      try clear c3
                      try clear c4
                      try clear c5
                      try clear c6
                      try clear p6
                      try clear c8
                      try clear c8b0
                      try clear c8b1
                      try clear c9
                      try clear c9b0
                      try clear c9b1
                      try clear c10
                      try clear c10b0
                      try clear c11
                      try clear c14
                      try clear c24
                      try clear c30
                      try clear c31
                      try clear c34
                      try clear c34b0
                      try clear c36
                      try clear c36b0
                      try clear c36b1
                      try clear c38
                      try clear c38b0
                      try clear c38b1
                      try clear c40
                      try clear c41
                      try clear c41b0
                      try clear c41b1
                      try clear c42
                      try clear c43
                      try clear c45
                      try clear c47
                      try clear c49
                      try clear c49b0
                      try clear c49b1
                      try clear c50
                      try clear c51
                      try clear c52
                      try clear c53
                      try clear c56
                      try clear c57
                      try clear c58
                      try clear c59
                      try clear c60
                      try clear hcz20_0
                      try clear hcz20_1
                      try clear hcz25_0
                      try clear hcz25_1
                      try clear hcz26_0
                      try clear hcz26_1
                      try clear hcz32_0
                      try clear hcz32_1
                      try clear hcz33_0
                      try clear hcz33_1
                      try clear hcz44_0
                      try clear hcz44_1
                      try clear hcz46_0
                      try clear hcz46_1
                      try clear hcz52_0
                      try clear hcz52_1
                      try clear hcz54_0
                      try clear hcz54_1
                      try clear hcz61_0
                      try clear hcz61_1
                      try clear hcz62_0
                      try clear hcz62_1
                      try clear hcz63_0
                      try clear hcz63_1
                      try clear hfz20_0
                      try clear hfz20_1
                      try clear hfz25_0
                      try clear hfz25_1
                      try clear hfz26_0
                      try clear hfz26_1
                      try clear hfz32_0
                      try clear hfz32_1
                      try clear hfz33_0
                      try clear hfz33_1
                      try clear hfz44_0
                      try clear hfz44_1
                      try clear hfz46_0
                      try clear hfz46_1
                      try clear hfz52_0
                      try clear hfz52_1
                      try clear hfz54_0
                      try clear hfz54_1
                      try clear hfz61_0
                      try clear hfz61_1
                      try clear hfz62_0
                      try clear hfz62_1
                      try clear hfz63_0
                      try clear hfz63_1
                      try clear p2
                      try clear p6
                      obtain ⟨x17_4, rfl, HA, HK4, HO_398000, HO_403000, HO_408000, HO_415000, BK397, BK402, BK407, BK414, HB⟩ := hrel
                      cases gk with
                      | zero => exact absurd HA.out (by simp [gaiterlaw01_BitsBack.l0])
                      | succ k4 =>
                        have H := HA.out
                        clear HA
                        simp only [gaiterlaw01_BitsBack.l0] at H
                        by_cases c64 : x17_4 < t413
                        · rw [if_pos c64] at H
                          have c64b0 : decide (x17_4 < t413) = true := decide_eq_true c64
                          clear c64
                          replace H := Option.bind_eq_some_iff.mp H
                          obtain ⟨⟨t415, t416⟩, A650, H⟩ := H
                          replace H : ((bits_Take.f k4 t403 x17_4 1).bind fun bt417 => (if x17_4 ≥ t406 then ((bits_Take.f k4 t398 (wrap64 (x17_4 - t406)) 1).bind fun bt419 => (if t416 = true then (if bt419.2 = true then (if t415 = bt419.1 then (gaiterlaw01_BitsBack.l0 k4 t392 (wrap64 (x17_4 + 1)) t398 t401 t403 t406 t410 t413) else (some false)) else (some false)) else (some false))) else (if t416 = true then (if bt417.2 = true then (if t415 = bt417.1 then (gaiterlaw01_BitsBack.l0 k4 t392 (wrap64 (x17_4 + 1)) t398 t401 t403 t406 t410 t413) else (some false)) else (some false)) else (some false)))) = some r := H
                          have A65 := Aside0.mk A650
                          clear A650
                          replace H := Option.bind_eq_some_iff.mp H
                          obtain ⟨⟨t417, t418⟩, A660, H⟩ := H
                          replace H : (if x17_4 ≥ t406 then ((bits_Take.f k4 t398 (wrap64 (x17_4 - t406)) 1).bind fun bt419 => (if t416 = true then (if bt419.2 = true then (if t415 = bt419.1 then (gaiterlaw01_BitsBack.l0 k4 t392 (wrap64 (x17_4 + 1)) t398 t401 t403 t406 t410 t413) else (some false)) else (some false)) else (some false))) else (if t416 = true then (if t418 = true then (if t415 = t417 then (gaiterlaw01_BitsBack.l0 k4 t392 (wrap64 (x17_4 + 1)) t398 t401 t403 t406 t410 t413) else (some false)) else (some false)) else (some false))) = some r := H
                          have A66 := Aside0.mk A660
                          clear A660
                          by_cases c67 : x17_4 ≥ t406
                          · rw [if_pos c67] at H
                            have c67b0 : decide (t406 ≤ x17_4) = true := decide_eq_true c67
                            clear c67
                            replace H := Option.bind_eq_some_iff.mp H
                            obtain ⟨⟨t419, t420⟩, A680, H⟩ := H
                            replace H : (if t416 = true then (if t420 = true then (if t415 = t419 then (gaiterlaw01_BitsBack.l0 k4 t392 (wrap64 (x17_4 + 1)) t398 t401 t403 t406 t410 t413) else (some false)) else (some false)) else (some false)) = some r := H
                            have A68 := Aside0.mk A680
                            clear A680
                            by_cases c69 : t416 = true
                            · subst c69
                              have H1 : (if t420 = true then (if t415 = t419 then (gaiterlaw01_BitsBack.l0 k4 t392 (wrap64 (x17_4 + 1)) t398 t401 t403 t406 t410 t413) else (some false)) else (some false)) = some r := by rw [if_pos rfl] at H; exact H
                              clear H
                              have H := H1
                              clear H1
                              by_cases c70 : t420 = true
                              · subst c70
                                have H1 : (if t415 = t419 then (gaiterlaw01_BitsBack.l0 k4 t392 (wrap64 (x17_4 + 1)) t398 t401 t403 t406 t410 t413) else (some false)) = some r := by rw [if_pos rfl] at H; exact H
                                clear H
                                have H := H1
                                clear H1
                                by_cases c71 : t415 = t419
                                · rw [if_pos c71] at H
                                  have c71b0 : (t415 == t419) = true := beq_iff_eq.mpr c71
                                  have c71b1 : (t415 != t419) = false := bne_eq_false_iff_eq.mpr c71
                                  clear c71
                                  have H' := Aside0.mk H
                                  clear H
                                  have hnb72 := NB414_397.out
                                  have hnc72 := NB397_414.out
                                  have hnb73 := NB414_402.out
                                  have hnc73 := NB402_414.out
                                  have hnb74 := NB414_407.out
                                  have hnc74 := NB407_414.out
                                  have hcz75_0 : wr.cell? ⟨gb414, 0, none⟩ = some (.slice Ao57 t410.length co57) := (blk_cell BK414.out 0).trans rfl
                                  have hcz75_1 : wr.cell? ⟨gb414, 1, none⟩ = some (.int .i64 t413) := (blk_cell BK414.out 1).trans rfl
                                  have hfz75_0 := blk_frozen BK414.out 0
                                  have hfz75_1 := blk_frozen BK414.out 1
                                  go_wp2_with (first | ((with_reducible refine gate_callee (f := 50) rfl ?_); refine goesL_ (some 102) rfl rfl Try.func50 (by kernel_rfl) rfl #[.slice Ao57 t410.length co57, .int .i64 x17_4, .int .i64 1] rfl (by (try simp only [List.map_toArray, List.map_cons, List.map_nil]); first | done | rfl | (simp only [List.length_drop, List.length_take]; rfl)) ?_; (with_reducible refine (bits_Take.calls k4 _ _ t410 x17_4 1 t415 true _ ?side1 ?side2 A65.out).mono ?_); (case side1 => repeat (first | exact (Kd.R_reads' HO_415000.out).2.2 | (with_reducible refine Kd.C_alloc ?_ _) | (with_reducible refine Kd.C_drewN ?_ _) | (with_reducible refine Kd.C_drew ?_))); (case side2 => exact (Kd.R_reads' HO_415000.out).2.1); rintro e w' ⟨rfl, ⟨nd, rfl⟩⟩; refine ⟨_, rfl, ?_⟩; have hnb76 := NB407_397.out; have hnc76 := NB397_407.out; have hnb77 := NB407_402.out; have hnc77 := NB402_407.out; have hcz78_0 : wr.cell? ⟨gb407, 0, none⟩ = some (.slice Ao29 t403.length co29) := (blk_cell BK407.out 0).trans rfl; have hcz78_1 : wr.cell? ⟨gb407, 1, none⟩ = some (.int .i64 t406) := (blk_cell BK407.out 1).trans rfl; have hfz78_0 := blk_frozen BK407.out 0; have hfz78_1 := blk_frozen BK407.out 1) | ((with_reducible refine gate_callee (f := 50) rfl ?_); refine goesL_ (some 109) rfl rfl Try.func50 (by kernel_rfl) rfl #[.slice Ao29 t403.length co29, .int .i64 x17_4, .int .i64 1] rfl (by (try simp only [List.map_toArray, List.map_cons, List.map_nil]); first | done | rfl | (simp only [List.length_drop, List.length_take]; rfl)) ?_; (with_reducible refine (bits_Take.calls k4 _ _ t403 x17_4 1 t417 t418 _ ?side1 ?side2 A66.out).mono ?_); (case side1 => repeat (first | exact (Kd.R_reads' HO_408000.out).2.2 | (with_reducible refine Kd.C_alloc ?_ _) | (with_reducible refine Kd.C_drewN ?_ _) | (with_reducible refine Kd.C_drew ?_))); (case side2 => exact (Kd.R_reads' HO_408000.out).2.1); rintro e w' ⟨rfl, ⟨nd, rfl⟩⟩; refine ⟨_, rfl, ?_⟩; have hnb79 := NB402_397.out; have hnc79 := NB397_402.out; have hcz80_0 : wr.cell? ⟨gb402, 0, none⟩ = some (.slice Ao23 t398.length co23) := (blk_cell BK402.out 0).trans rfl; have hcz80_1 : wr.cell? ⟨gb402, 1, none⟩ = some (.int .i64 t401) := (blk_cell BK402.out 1).trans rfl; have hfz80_0 := blk_frozen BK402.out 0; have hfz80_1 := blk_frozen BK402.out 1) | ((with_reducible refine gate_callee (f := 50) rfl ?_); refine goesL_ (some 123) rfl rfl Try.func50 (by kernel_rfl) rfl #[.slice Ao23 t398.length co23, .int .i64 (wrap64 (x17_4 - t406)), .int .i64 1] rfl (by (try simp only [List.map_toArray, List.map_cons, List.map_nil]); first | done | rfl | (simp only [List.length_drop, List.length_take]; rfl)) ?_; (with_reducible refine (bits_Take.calls k4 _ _ t398 (wrap64 (x17_4 - t406)) 1 t419 true _ ?side1 ?side2 A68.out).mono ?_); (case side1 => repeat (first | exact (Kd.R_reads' HO_403000.out).2.2 | (with_reducible refine Kd.C_alloc ?_ _) | (with_reducible refine Kd.C_drewN ?_ _) | (with_reducible refine Kd.C_drew ?_))); (case side2 => exact (Kd.R_reads' HO_403000.out).2.1); rintro e w' ⟨rfl, ⟨nd, rfl⟩⟩; refine ⟨_, rfl, ?_⟩))
                                  go_roundg k4
                                  case measure => have := HJ5.out; have := HJ15.out; have := HJ38.out; have := HK4.out; omega
                                  case rel => exact ⟨(wrap64 (x17_4 + 1)), (by first | rfl | (simp; done) | (simp [*]; done)), H', ⟨by have := HJ5.out; have := HJ15.out; have := HJ38.out; have := HK4.out; omega⟩, ⟨by (with_reducible repeat (first | apply Kd.R_alloc | apply Kd.R_drewN | apply Kd.R_drew)); exact HO_398000.out⟩, ⟨by (with_reducible repeat (first | apply Kd.R_alloc | apply Kd.R_drewN | apply Kd.R_drew)); exact HO_403000.out⟩, ⟨by (with_reducible repeat (first | apply Kd.R_alloc | apply Kd.R_drewN | apply Kd.R_drew)); exact HO_408000.out⟩, ⟨by (with_reducible repeat (first | apply Kd.R_alloc | apply Kd.R_drewN | apply Kd.R_drew)); exact HO_415000.out⟩, ⟨by (with_reducible repeat (first | refine blk_drewN ?_ _ | refine blk_drew ?_ | refine blk_alloc ?_ _)); exact BK397.out⟩, ⟨by (with_reducible repeat (first | refine blk_drewN ?_ _ | refine blk_drew ?_ | refine blk_alloc ?_ _)); exact BK402.out⟩, ⟨by (with_reducible repeat (first | refine blk_drewN ?_ _ | refine blk_drew ?_ | refine blk_alloc ?_ _)); exact BK407.out⟩, ⟨by (with_reducible repeat (first | refine blk_drewN ?_ _ | refine blk_drew ?_ | refine blk_alloc ?_ _)); exact BK414.out⟩, ⟨by repeat (first | (with_reducible first | exact HB.out | apply below_alloc | apply pw_below_drewN | apply below_drew1 | refine below_set ?_ GE397.out | refine below_set ?_ GE402.out | refine below_set ?_ GE407.out | refine below_set ?_ GE414.out) | exact HB.out)⟩⟩
                                · rw [if_neg c71] at H
                                  have c71b0 : (t415 == t419) = false := beq_eq_false_iff_ne.mpr c71
                                  have c71b1 : (t415 != t419) = true := bne_iff_ne.mpr c71
                                  obtain rfl := Option.some.inj H
                                  have hnb81 := NB414_397.out
                                  have hnc81 := NB397_414.out
                                  have hnb82 := NB414_402.out
                                  have hnc82 := NB402_414.out
                                  have hnb83 := NB414_407.out
                                  have hnc83 := NB407_414.out
                                  have hcz84_0 : wr.cell? ⟨gb414, 0, none⟩ = some (.slice Ao57 t410.length co57) := (blk_cell BK414.out 0).trans rfl
                                  have hcz84_1 : wr.cell? ⟨gb414, 1, none⟩ = some (.int .i64 t413) := (blk_cell BK414.out 1).trans rfl
                                  have hfz84_0 := blk_frozen BK414.out 0
                                  have hfz84_1 := blk_frozen BK414.out 1
                                  go_wp2_with (first | ((with_reducible refine gate_callee (f := 50) rfl ?_); refine goesL_ (some 102) rfl rfl Try.func50 (by kernel_rfl) rfl #[.slice Ao57 t410.length co57, .int .i64 x17_4, .int .i64 1] rfl (by (try simp only [List.map_toArray, List.map_cons, List.map_nil]); first | done | rfl | (simp only [List.length_drop, List.length_take]; rfl)) ?_; (with_reducible refine (bits_Take.calls k4 _ _ t410 x17_4 1 t415 true _ ?side1 ?side2 A65.out).mono ?_); (case side1 => repeat (first | exact (Kd.R_reads' HO_415000.out).2.2 | (with_reducible refine Kd.C_alloc ?_ _) | (with_reducible refine Kd.C_drewN ?_ _) | (with_reducible refine Kd.C_drew ?_))); (case side2 => exact (Kd.R_reads' HO_415000.out).2.1); rintro e w' ⟨rfl, ⟨nd, rfl⟩⟩; refine ⟨_, rfl, ?_⟩; have hnb85 := NB407_397.out; have hnc85 := NB397_407.out; have hnb86 := NB407_402.out; have hnc86 := NB402_407.out; have hcz87_0 : wr.cell? ⟨gb407, 0, none⟩ = some (.slice Ao29 t403.length co29) := (blk_cell BK407.out 0).trans rfl; have hcz87_1 : wr.cell? ⟨gb407, 1, none⟩ = some (.int .i64 t406) := (blk_cell BK407.out 1).trans rfl; have hfz87_0 := blk_frozen BK407.out 0; have hfz87_1 := blk_frozen BK407.out 1) | ((with_reducible refine gate_callee (f := 50) rfl ?_); refine goesL_ (some 109) rfl rfl Try.func50 (by kernel_rfl) rfl #[.slice Ao29 t403.length co29, .int .i64 x17_4, .int .i64 1] rfl (by (try simp only [List.map_toArray, List.map_cons, List.map_nil]); first | done | rfl | (simp only [List.length_drop, List.length_take]; rfl)) ?_; (with_reducible refine (bits_Take.calls k4 _ _ t403 x17_4 1 t417 t418 _ ?side1 ?side2 A66.out).mono ?_); (case side1 => repeat (first | exact (Kd.R_reads' HO_408000.out).2.2 | (with_reducible refine Kd.C_alloc ?_ _) | (with_reducible refine Kd.C_drewN ?_ _) | (with_reducible refine Kd.C_drew ?_))); (case side2 => exact (Kd.R_reads' HO_408000.out).2.1); rintro e w' ⟨rfl, ⟨nd, rfl⟩⟩; refine ⟨_, rfl, ?_⟩; have hnb88 := NB402_397.out; have hnc88 := NB397_402.out; have hcz89_0 : wr.cell? ⟨gb402, 0, none⟩ = some (.slice Ao23 t398.length co23) := (blk_cell BK402.out 0).trans rfl; have hcz89_1 : wr.cell? ⟨gb402, 1, none⟩ = some (.int .i64 t401) := (blk_cell BK402.out 1).trans rfl; have hfz89_0 := blk_frozen BK402.out 0; have hfz89_1 := blk_frozen BK402.out 1) | ((with_reducible refine gate_callee (f := 50) rfl ?_); refine goesL_ (some 123) rfl rfl Try.func50 (by kernel_rfl) rfl #[.slice Ao23 t398.length co23, .int .i64 (wrap64 (x17_4 - t406)), .int .i64 1] rfl (by (try simp only [List.map_toArray, List.map_cons, List.map_nil]); first | done | rfl | (simp only [List.length_drop, List.length_take]; rfl)) ?_; (with_reducible refine (bits_Take.calls k4 _ _ t398 (wrap64 (x17_4 - t406)) 1 t419 true _ ?side1 ?side2 A68.out).mono ?_); (case side1 => repeat (first | exact (Kd.R_reads' HO_403000.out).2.2 | (with_reducible refine Kd.C_alloc ?_ _) | (with_reducible refine Kd.C_drewN ?_ _) | (with_reducible refine Kd.C_drew ?_))); (case side2 => exact (Kd.R_reads' HO_403000.out).2.1); rintro e w' ⟨rfl, ⟨nd, rfl⟩⟩; refine ⟨_, rfl, ?_⟩))
                                  go_ret
                                  exact ⟨by first | rfl | (simp [errW_none, errW_some] <;> rfl) | (simp [*, errW_none, errW_some] <;> rfl), by repeat (first | (with_reducible first | exact HB.out | apply below_alloc | apply pw_below_drewN | apply below_drew1 | refine below_set ?_ GE397.out | refine below_set ?_ GE402.out | refine below_set ?_ GE407.out | refine below_set ?_ GE414.out) | exact HB.out)⟩
                              · replace c70 := Bool.eq_false_iff.mpr c70
                                subst c70
                                have H1 : (some false) = some r := by rw [if_neg (show ¬ (false = true) by decide)] at H; exact H
                                clear H
                                have H := H1
                                clear H1
                                obtain rfl := Option.some.inj H
                                have hnb90 := NB414_397.out
                                have hnc90 := NB397_414.out
                                have hnb91 := NB414_402.out
                                have hnc91 := NB402_414.out
                                have hnb92 := NB414_407.out
                                have hnc92 := NB407_414.out
                                have hcz93_0 : wr.cell? ⟨gb414, 0, none⟩ = some (.slice Ao57 t410.length co57) := (blk_cell BK414.out 0).trans rfl
                                have hcz93_1 : wr.cell? ⟨gb414, 1, none⟩ = some (.int .i64 t413) := (blk_cell BK414.out 1).trans rfl
                                have hfz93_0 := blk_frozen BK414.out 0
                                have hfz93_1 := blk_frozen BK414.out 1
                                go_wp2_with (first | ((with_reducible refine gate_callee (f := 50) rfl ?_); refine goesL_ (some 102) rfl rfl Try.func50 (by kernel_rfl) rfl #[.slice Ao57 t410.length co57, .int .i64 x17_4, .int .i64 1] rfl (by (try simp only [List.map_toArray, List.map_cons, List.map_nil]); first | done | rfl | (simp only [List.length_drop, List.length_take]; rfl)) ?_; (with_reducible refine (bits_Take.calls k4 _ _ t410 x17_4 1 t415 true _ ?side1 ?side2 A65.out).mono ?_); (case side1 => repeat (first | exact (Kd.R_reads' HO_415000.out).2.2 | (with_reducible refine Kd.C_alloc ?_ _) | (with_reducible refine Kd.C_drewN ?_ _) | (with_reducible refine Kd.C_drew ?_))); (case side2 => exact (Kd.R_reads' HO_415000.out).2.1); rintro e w' ⟨rfl, ⟨nd, rfl⟩⟩; refine ⟨_, rfl, ?_⟩; have hnb94 := NB407_397.out; have hnc94 := NB397_407.out; have hnb95 := NB407_402.out; have hnc95 := NB402_407.out; have hcz96_0 : wr.cell? ⟨gb407, 0, none⟩ = some (.slice Ao29 t403.length co29) := (blk_cell BK407.out 0).trans rfl; have hcz96_1 : wr.cell? ⟨gb407, 1, none⟩ = some (.int .i64 t406) := (blk_cell BK407.out 1).trans rfl; have hfz96_0 := blk_frozen BK407.out 0; have hfz96_1 := blk_frozen BK407.out 1) | ((with_reducible refine gate_callee (f := 50) rfl ?_); refine goesL_ (some 109) rfl rfl Try.func50 (by kernel_rfl) rfl #[.slice Ao29 t403.length co29, .int .i64 x17_4, .int .i64 1] rfl (by (try simp only [List.map_toArray, List.map_cons, List.map_nil]); first | done | rfl | (simp only [List.length_drop, List.length_take]; rfl)) ?_; (with_reducible refine (bits_Take.calls k4 _ _ t403 x17_4 1 t417 t418 _ ?side1 ?side2 A66.out).mono ?_); (case side1 => repeat (first | exact (Kd.R_reads' HO_408000.out).2.2 | (with_reducible refine Kd.C_alloc ?_ _) | (with_reducible refine Kd.C_drewN ?_ _) | (with_reducible refine Kd.C_drew ?_))); (case side2 => exact (Kd.R_reads' HO_408000.out).2.1); rintro e w' ⟨rfl, ⟨nd, rfl⟩⟩; refine ⟨_, rfl, ?_⟩; have hnb97 := NB402_397.out; have hnc97 := NB397_402.out; have hcz98_0 : wr.cell? ⟨gb402, 0, none⟩ = some (.slice Ao23 t398.length co23) := (blk_cell BK402.out 0).trans rfl; have hcz98_1 : wr.cell? ⟨gb402, 1, none⟩ = some (.int .i64 t401) := (blk_cell BK402.out 1).trans rfl; have hfz98_0 := blk_frozen BK402.out 0; have hfz98_1 := blk_frozen BK402.out 1) | ((with_reducible refine gate_callee (f := 50) rfl ?_); refine goesL_ (some 123) rfl rfl Try.func50 (by kernel_rfl) rfl #[.slice Ao23 t398.length co23, .int .i64 (wrap64 (x17_4 - t406)), .int .i64 1] rfl (by (try simp only [List.map_toArray, List.map_cons, List.map_nil]); first | done | rfl | (simp only [List.length_drop, List.length_take]; rfl)) ?_; (with_reducible refine (bits_Take.calls k4 _ _ t398 (wrap64 (x17_4 - t406)) 1 t419 false _ ?side1 ?side2 A68.out).mono ?_); (case side1 => repeat (first | exact (Kd.R_reads' HO_403000.out).2.2 | (with_reducible refine Kd.C_alloc ?_ _) | (with_reducible refine Kd.C_drewN ?_ _) | (with_reducible refine Kd.C_drew ?_))); (case side2 => exact (Kd.R_reads' HO_403000.out).2.1); rintro e w' ⟨rfl, ⟨nd, rfl⟩⟩; refine ⟨_, rfl, ?_⟩))
                                go_ret
                                exact ⟨by first | rfl | (simp [errW_none, errW_some] <;> rfl) | (simp [*, errW_none, errW_some] <;> rfl), by repeat (first | (with_reducible first | exact HB.out | apply below_alloc | apply pw_below_drewN | apply below_drew1 | refine below_set ?_ GE397.out | refine below_set ?_ GE402.out | refine below_set ?_ GE407.out | refine below_set ?_ GE414.out) | exact HB.out)⟩
                            · replace c69 := Bool.eq_false_iff.mpr c69
                              subst c69
                              have H1 : (some false) = some r := by rw [if_neg (show ¬ (false = true) by decide)] at H; exact H
                              clear H
                              have H := H1
                              clear H1
                              obtain rfl := Option.some.inj H
                              have hnb99 := NB414_397.out
                              have hnc99 := NB397_414.out
                              have hnb100 := NB414_402.out
                              have hnc100 := NB402_414.out
                              have hnb101 := NB414_407.out
                              have hnc101 := NB407_414.out
                              have hcz102_0 : wr.cell? ⟨gb414, 0, none⟩ = some (.slice Ao57 t410.length co57) := (blk_cell BK414.out 0).trans rfl
                              have hcz102_1 : wr.cell? ⟨gb414, 1, none⟩ = some (.int .i64 t413) := (blk_cell BK414.out 1).trans rfl
                              have hfz102_0 := blk_frozen BK414.out 0
                              have hfz102_1 := blk_frozen BK414.out 1
                              go_wp2_with (first | ((with_reducible refine gate_callee (f := 50) rfl ?_); refine goesL_ (some 102) rfl rfl Try.func50 (by kernel_rfl) rfl #[.slice Ao57 t410.length co57, .int .i64 x17_4, .int .i64 1] rfl (by (try simp only [List.map_toArray, List.map_cons, List.map_nil]); first | done | rfl | (simp only [List.length_drop, List.length_take]; rfl)) ?_; (with_reducible refine (bits_Take.calls k4 _ _ t410 x17_4 1 t415 false _ ?side1 ?side2 A65.out).mono ?_); (case side1 => repeat (first | exact (Kd.R_reads' HO_415000.out).2.2 | (with_reducible refine Kd.C_alloc ?_ _) | (with_reducible refine Kd.C_drewN ?_ _) | (with_reducible refine Kd.C_drew ?_))); (case side2 => exact (Kd.R_reads' HO_415000.out).2.1); rintro e w' ⟨rfl, ⟨nd, rfl⟩⟩; refine ⟨_, rfl, ?_⟩; have hnb103 := NB407_397.out; have hnc103 := NB397_407.out; have hnb104 := NB407_402.out; have hnc104 := NB402_407.out; have hcz105_0 : wr.cell? ⟨gb407, 0, none⟩ = some (.slice Ao29 t403.length co29) := (blk_cell BK407.out 0).trans rfl; have hcz105_1 : wr.cell? ⟨gb407, 1, none⟩ = some (.int .i64 t406) := (blk_cell BK407.out 1).trans rfl; have hfz105_0 := blk_frozen BK407.out 0; have hfz105_1 := blk_frozen BK407.out 1) | ((with_reducible refine gate_callee (f := 50) rfl ?_); refine goesL_ (some 109) rfl rfl Try.func50 (by kernel_rfl) rfl #[.slice Ao29 t403.length co29, .int .i64 x17_4, .int .i64 1] rfl (by (try simp only [List.map_toArray, List.map_cons, List.map_nil]); first | done | rfl | (simp only [List.length_drop, List.length_take]; rfl)) ?_; (with_reducible refine (bits_Take.calls k4 _ _ t403 x17_4 1 t417 t418 _ ?side1 ?side2 A66.out).mono ?_); (case side1 => repeat (first | exact (Kd.R_reads' HO_408000.out).2.2 | (with_reducible refine Kd.C_alloc ?_ _) | (with_reducible refine Kd.C_drewN ?_ _) | (with_reducible refine Kd.C_drew ?_))); (case side2 => exact (Kd.R_reads' HO_408000.out).2.1); rintro e w' ⟨rfl, ⟨nd, rfl⟩⟩; refine ⟨_, rfl, ?_⟩; have hnb106 := NB402_397.out; have hnc106 := NB397_402.out; have hcz107_0 : wr.cell? ⟨gb402, 0, none⟩ = some (.slice Ao23 t398.length co23) := (blk_cell BK402.out 0).trans rfl; have hcz107_1 : wr.cell? ⟨gb402, 1, none⟩ = some (.int .i64 t401) := (blk_cell BK402.out 1).trans rfl; have hfz107_0 := blk_frozen BK402.out 0; have hfz107_1 := blk_frozen BK402.out 1) | ((with_reducible refine gate_callee (f := 50) rfl ?_); refine goesL_ (some 123) rfl rfl Try.func50 (by kernel_rfl) rfl #[.slice Ao23 t398.length co23, .int .i64 (wrap64 (x17_4 - t406)), .int .i64 1] rfl (by (try simp only [List.map_toArray, List.map_cons, List.map_nil]); first | done | rfl | (simp only [List.length_drop, List.length_take]; rfl)) ?_; (with_reducible refine (bits_Take.calls k4 _ _ t398 (wrap64 (x17_4 - t406)) 1 t419 t420 _ ?side1 ?side2 A68.out).mono ?_); (case side1 => repeat (first | exact (Kd.R_reads' HO_403000.out).2.2 | (with_reducible refine Kd.C_alloc ?_ _) | (with_reducible refine Kd.C_drewN ?_ _) | (with_reducible refine Kd.C_drew ?_))); (case side2 => exact (Kd.R_reads' HO_403000.out).2.1); rintro e w' ⟨rfl, ⟨nd, rfl⟩⟩; refine ⟨_, rfl, ?_⟩))
                              go_ret
                              exact ⟨by first | rfl | (simp [errW_none, errW_some] <;> rfl) | (simp [*, errW_none, errW_some] <;> rfl), by repeat (first | (with_reducible first | exact HB.out | apply below_alloc | apply pw_below_drewN | apply below_drew1 | refine below_set ?_ GE397.out | refine below_set ?_ GE402.out | refine below_set ?_ GE407.out | refine below_set ?_ GE414.out) | exact HB.out)⟩
                          · rw [if_neg c67] at H
                            have c67b0 : decide (t406 ≤ x17_4) = false := decide_eq_false c67
                            clear c67
                            by_cases c108 : t416 = true
                            · subst c108
                              have H1 : (if t418 = true then (if t415 = t417 then (gaiterlaw01_BitsBack.l0 k4 t392 (wrap64 (x17_4 + 1)) t398 t401 t403 t406 t410 t413) else (some false)) else (some false)) = some r := by rw [if_pos rfl] at H; exact H
                              clear H
                              have H := H1
                              clear H1
                              by_cases c109 : t418 = true
                              · subst c109
                                have H1 : (if t415 = t417 then (gaiterlaw01_BitsBack.l0 k4 t392 (wrap64 (x17_4 + 1)) t398 t401 t403 t406 t410 t413) else (some false)) = some r := by rw [if_pos rfl] at H; exact H
                                clear H
                                have H := H1
                                clear H1
                                by_cases c110 : t415 = t417
                                · rw [if_pos c110] at H
                                  have c110b0 : (t415 == t417) = true := beq_iff_eq.mpr c110
                                  have c110b1 : (t415 != t417) = false := bne_eq_false_iff_eq.mpr c110
                                  clear c110
                                  have H' := Aside0.mk H
                                  clear H
                                  have hnb111 := NB414_397.out
                                  have hnc111 := NB397_414.out
                                  have hnb112 := NB414_402.out
                                  have hnc112 := NB402_414.out
                                  have hnb113 := NB414_407.out
                                  have hnc113 := NB407_414.out
                                  have hcz114_0 : wr.cell? ⟨gb414, 0, none⟩ = some (.slice Ao57 t410.length co57) := (blk_cell BK414.out 0).trans rfl
                                  have hcz114_1 : wr.cell? ⟨gb414, 1, none⟩ = some (.int .i64 t413) := (blk_cell BK414.out 1).trans rfl
                                  have hfz114_0 := blk_frozen BK414.out 0
                                  have hfz114_1 := blk_frozen BK414.out 1
                                  go_wp2_with (first | ((with_reducible refine gate_callee (f := 50) rfl ?_); refine goesL_ (some 102) rfl rfl Try.func50 (by kernel_rfl) rfl #[.slice Ao57 t410.length co57, .int .i64 x17_4, .int .i64 1] rfl (by (try simp only [List.map_toArray, List.map_cons, List.map_nil]); first | done | rfl | (simp only [List.length_drop, List.length_take]; rfl)) ?_; (with_reducible refine (bits_Take.calls k4 _ _ t410 x17_4 1 t415 true _ ?side1 ?side2 A65.out).mono ?_); (case side1 => repeat (first | exact (Kd.R_reads' HO_415000.out).2.2 | (with_reducible refine Kd.C_alloc ?_ _) | (with_reducible refine Kd.C_drewN ?_ _) | (with_reducible refine Kd.C_drew ?_))); (case side2 => exact (Kd.R_reads' HO_415000.out).2.1); rintro e w' ⟨rfl, ⟨nd, rfl⟩⟩; refine ⟨_, rfl, ?_⟩; have hnb115 := NB407_397.out; have hnc115 := NB397_407.out; have hnb116 := NB407_402.out; have hnc116 := NB402_407.out; have hcz117_0 : wr.cell? ⟨gb407, 0, none⟩ = some (.slice Ao29 t403.length co29) := (blk_cell BK407.out 0).trans rfl; have hcz117_1 : wr.cell? ⟨gb407, 1, none⟩ = some (.int .i64 t406) := (blk_cell BK407.out 1).trans rfl; have hfz117_0 := blk_frozen BK407.out 0; have hfz117_1 := blk_frozen BK407.out 1) | ((with_reducible refine gate_callee (f := 50) rfl ?_); refine goesL_ (some 109) rfl rfl Try.func50 (by kernel_rfl) rfl #[.slice Ao29 t403.length co29, .int .i64 x17_4, .int .i64 1] rfl (by (try simp only [List.map_toArray, List.map_cons, List.map_nil]); first | done | rfl | (simp only [List.length_drop, List.length_take]; rfl)) ?_; (with_reducible refine (bits_Take.calls k4 _ _ t403 x17_4 1 t417 true _ ?side1 ?side2 A66.out).mono ?_); (case side1 => repeat (first | exact (Kd.R_reads' HO_408000.out).2.2 | (with_reducible refine Kd.C_alloc ?_ _) | (with_reducible refine Kd.C_drewN ?_ _) | (with_reducible refine Kd.C_drew ?_))); (case side2 => exact (Kd.R_reads' HO_408000.out).2.1); rintro e w' ⟨rfl, ⟨nd, rfl⟩⟩; refine ⟨_, rfl, ?_⟩))
                                  go_roundg k4
                                  case measure => have := HJ5.out; have := HJ15.out; have := HJ38.out; have := HK4.out; omega
                                  case rel => exact ⟨(wrap64 (x17_4 + 1)), (by first | rfl | (simp; done) | (simp [*]; done)), H', ⟨by have := HJ5.out; have := HJ15.out; have := HJ38.out; have := HK4.out; omega⟩, ⟨by (with_reducible repeat (first | apply Kd.R_alloc | apply Kd.R_drewN | apply Kd.R_drew)); exact HO_398000.out⟩, ⟨by (with_reducible repeat (first | apply Kd.R_alloc | apply Kd.R_drewN | apply Kd.R_drew)); exact HO_403000.out⟩, ⟨by (with_reducible repeat (first | apply Kd.R_alloc | apply Kd.R_drewN | apply Kd.R_drew)); exact HO_408000.out⟩, ⟨by (with_reducible repeat (first | apply Kd.R_alloc | apply Kd.R_drewN | apply Kd.R_drew)); exact HO_415000.out⟩, ⟨by (with_reducible repeat (first | refine blk_drewN ?_ _ | refine blk_drew ?_ | refine blk_alloc ?_ _)); exact BK397.out⟩, ⟨by (with_reducible repeat (first | refine blk_drewN ?_ _ | refine blk_drew ?_ | refine blk_alloc ?_ _)); exact BK402.out⟩, ⟨by (with_reducible repeat (first | refine blk_drewN ?_ _ | refine blk_drew ?_ | refine blk_alloc ?_ _)); exact BK407.out⟩, ⟨by (with_reducible repeat (first | refine blk_drewN ?_ _ | refine blk_drew ?_ | refine blk_alloc ?_ _)); exact BK414.out⟩, ⟨by repeat (first | (with_reducible first | exact HB.out | apply below_alloc | apply pw_below_drewN | apply below_drew1 | refine below_set ?_ GE397.out | refine below_set ?_ GE402.out | refine below_set ?_ GE407.out | refine below_set ?_ GE414.out) | exact HB.out)⟩⟩
                                · rw [if_neg c110] at H
                                  have c110b0 : (t415 == t417) = false := beq_eq_false_iff_ne.mpr c110
                                  have c110b1 : (t415 != t417) = true := bne_iff_ne.mpr c110
                                  obtain rfl := Option.some.inj H
                                  have hnb118 := NB414_397.out
                                  have hnc118 := NB397_414.out
                                  have hnb119 := NB414_402.out
                                  have hnc119 := NB402_414.out
                                  have hnb120 := NB414_407.out
                                  have hnc120 := NB407_414.out
                                  have hcz121_0 : wr.cell? ⟨gb414, 0, none⟩ = some (.slice Ao57 t410.length co57) := (blk_cell BK414.out 0).trans rfl
                                  have hcz121_1 : wr.cell? ⟨gb414, 1, none⟩ = some (.int .i64 t413) := (blk_cell BK414.out 1).trans rfl
                                  have hfz121_0 := blk_frozen BK414.out 0
                                  have hfz121_1 := blk_frozen BK414.out 1
                                  go_wp2_with (first | ((with_reducible refine gate_callee (f := 50) rfl ?_); refine goesL_ (some 102) rfl rfl Try.func50 (by kernel_rfl) rfl #[.slice Ao57 t410.length co57, .int .i64 x17_4, .int .i64 1] rfl (by (try simp only [List.map_toArray, List.map_cons, List.map_nil]); first | done | rfl | (simp only [List.length_drop, List.length_take]; rfl)) ?_; (with_reducible refine (bits_Take.calls k4 _ _ t410 x17_4 1 t415 true _ ?side1 ?side2 A65.out).mono ?_); (case side1 => repeat (first | exact (Kd.R_reads' HO_415000.out).2.2 | (with_reducible refine Kd.C_alloc ?_ _) | (with_reducible refine Kd.C_drewN ?_ _) | (with_reducible refine Kd.C_drew ?_))); (case side2 => exact (Kd.R_reads' HO_415000.out).2.1); rintro e w' ⟨rfl, ⟨nd, rfl⟩⟩; refine ⟨_, rfl, ?_⟩; have hnb122 := NB407_397.out; have hnc122 := NB397_407.out; have hnb123 := NB407_402.out; have hnc123 := NB402_407.out; have hcz124_0 : wr.cell? ⟨gb407, 0, none⟩ = some (.slice Ao29 t403.length co29) := (blk_cell BK407.out 0).trans rfl; have hcz124_1 : wr.cell? ⟨gb407, 1, none⟩ = some (.int .i64 t406) := (blk_cell BK407.out 1).trans rfl; have hfz124_0 := blk_frozen BK407.out 0; have hfz124_1 := blk_frozen BK407.out 1) | ((with_reducible refine gate_callee (f := 50) rfl ?_); refine goesL_ (some 109) rfl rfl Try.func50 (by kernel_rfl) rfl #[.slice Ao29 t403.length co29, .int .i64 x17_4, .int .i64 1] rfl (by (try simp only [List.map_toArray, List.map_cons, List.map_nil]); first | done | rfl | (simp only [List.length_drop, List.length_take]; rfl)) ?_; (with_reducible refine (bits_Take.calls k4 _ _ t403 x17_4 1 t417 true _ ?side1 ?side2 A66.out).mono ?_); (case side1 => repeat (first | exact (Kd.R_reads' HO_408000.out).2.2 | (with_reducible refine Kd.C_alloc ?_ _) | (with_reducible refine Kd.C_drewN ?_ _) | (with_reducible refine Kd.C_drew ?_))); (case side2 => exact (Kd.R_reads' HO_408000.out).2.1); rintro e w' ⟨rfl, ⟨nd, rfl⟩⟩; refine ⟨_, rfl, ?_⟩))
                                  go_ret
                                  exact ⟨by first | rfl | (simp [errW_none, errW_some] <;> rfl) | (simp [*, errW_none, errW_some] <;> rfl), by repeat (first | (with_reducible first | exact HB.out | apply below_alloc | apply pw_below_drewN | apply below_drew1 | refine below_set ?_ GE397.out | refine below_set ?_ GE402.out | refine below_set ?_ GE407.out | refine below_set ?_ GE414.out) | exact HB.out)⟩
                              · replace c109 := Bool.eq_false_iff.mpr c109
                                subst c109
                                have H1 : (some false) = some r := by rw [if_neg (show ¬ (false = true) by decide)] at H; exact H
                                clear H
                                have H := H1
                                clear H1
                                obtain rfl := Option.some.inj H
                                have hnb125 := NB414_397.out
                                have hnc125 := NB397_414.out
                                have hnb126 := NB414_402.out
                                have hnc126 := NB402_414.out
                                have hnb127 := NB414_407.out
                                have hnc127 := NB407_414.out
                                have hcz128_0 : wr.cell? ⟨gb414, 0, none⟩ = some (.slice Ao57 t410.length co57) := (blk_cell BK414.out 0).trans rfl
                                have hcz128_1 : wr.cell? ⟨gb414, 1, none⟩ = some (.int .i64 t413) := (blk_cell BK414.out 1).trans rfl
                                have hfz128_0 := blk_frozen BK414.out 0
                                have hfz128_1 := blk_frozen BK414.out 1
                                go_wp2_with (first | ((with_reducible refine gate_callee (f := 50) rfl ?_); refine goesL_ (some 102) rfl rfl Try.func50 (by kernel_rfl) rfl #[.slice Ao57 t410.length co57, .int .i64 x17_4, .int .i64 1] rfl (by (try simp only [List.map_toArray, List.map_cons, List.map_nil]); first | done | rfl | (simp only [List.length_drop, List.length_take]; rfl)) ?_; (with_reducible refine (bits_Take.calls k4 _ _ t410 x17_4 1 t415 true _ ?side1 ?side2 A65.out).mono ?_); (case side1 => repeat (first | exact (Kd.R_reads' HO_415000.out).2.2 | (with_reducible refine Kd.C_alloc ?_ _) | (with_reducible refine Kd.C_drewN ?_ _) | (with_reducible refine Kd.C_drew ?_))); (case side2 => exact (Kd.R_reads' HO_415000.out).2.1); rintro e w' ⟨rfl, ⟨nd, rfl⟩⟩; refine ⟨_, rfl, ?_⟩; have hnb129 := NB407_397.out; have hnc129 := NB397_407.out; have hnb130 := NB407_402.out; have hnc130 := NB402_407.out; have hcz131_0 : wr.cell? ⟨gb407, 0, none⟩ = some (.slice Ao29 t403.length co29) := (blk_cell BK407.out 0).trans rfl; have hcz131_1 : wr.cell? ⟨gb407, 1, none⟩ = some (.int .i64 t406) := (blk_cell BK407.out 1).trans rfl; have hfz131_0 := blk_frozen BK407.out 0; have hfz131_1 := blk_frozen BK407.out 1) | ((with_reducible refine gate_callee (f := 50) rfl ?_); refine goesL_ (some 109) rfl rfl Try.func50 (by kernel_rfl) rfl #[.slice Ao29 t403.length co29, .int .i64 x17_4, .int .i64 1] rfl (by (try simp only [List.map_toArray, List.map_cons, List.map_nil]); first | done | rfl | (simp only [List.length_drop, List.length_take]; rfl)) ?_; (with_reducible refine (bits_Take.calls k4 _ _ t403 x17_4 1 t417 false _ ?side1 ?side2 A66.out).mono ?_); (case side1 => repeat (first | exact (Kd.R_reads' HO_408000.out).2.2 | (with_reducible refine Kd.C_alloc ?_ _) | (with_reducible refine Kd.C_drewN ?_ _) | (with_reducible refine Kd.C_drew ?_))); (case side2 => exact (Kd.R_reads' HO_408000.out).2.1); rintro e w' ⟨rfl, ⟨nd, rfl⟩⟩; refine ⟨_, rfl, ?_⟩))
                                go_ret
                                exact ⟨by first | rfl | (simp [errW_none, errW_some] <;> rfl) | (simp [*, errW_none, errW_some] <;> rfl), by repeat (first | (with_reducible first | exact HB.out | apply below_alloc | apply pw_below_drewN | apply below_drew1 | refine below_set ?_ GE397.out | refine below_set ?_ GE402.out | refine below_set ?_ GE407.out | refine below_set ?_ GE414.out) | exact HB.out)⟩
                            · replace c108 := Bool.eq_false_iff.mpr c108
                              subst c108
                              have H1 : (some false) = some r := by rw [if_neg (show ¬ (false = true) by decide)] at H; exact H
                              clear H
                              have H := H1
                              clear H1
                              obtain rfl := Option.some.inj H
                              have hnb132 := NB414_397.out
                              have hnc132 := NB397_414.out
                              have hnb133 := NB414_402.out
                              have hnc133 := NB402_414.out
                              have hnb134 := NB414_407.out
                              have hnc134 := NB407_414.out
                              have hcz135_0 : wr.cell? ⟨gb414, 0, none⟩ = some (.slice Ao57 t410.length co57) := (blk_cell BK414.out 0).trans rfl
                              have hcz135_1 : wr.cell? ⟨gb414, 1, none⟩ = some (.int .i64 t413) := (blk_cell BK414.out 1).trans rfl
                              have hfz135_0 := blk_frozen BK414.out 0
                              have hfz135_1 := blk_frozen BK414.out 1
                              go_wp2_with (first | ((with_reducible refine gate_callee (f := 50) rfl ?_); refine goesL_ (some 102) rfl rfl Try.func50 (by kernel_rfl) rfl #[.slice Ao57 t410.length co57, .int .i64 x17_4, .int .i64 1] rfl (by (try simp only [List.map_toArray, List.map_cons, List.map_nil]); first | done | rfl | (simp only [List.length_drop, List.length_take]; rfl)) ?_; (with_reducible refine (bits_Take.calls k4 _ _ t410 x17_4 1 t415 false _ ?side1 ?side2 A65.out).mono ?_); (case side1 => repeat (first | exact (Kd.R_reads' HO_415000.out).2.2 | (with_reducible refine Kd.C_alloc ?_ _) | (with_reducible refine Kd.C_drewN ?_ _) | (with_reducible refine Kd.C_drew ?_))); (case side2 => exact (Kd.R_reads' HO_415000.out).2.1); rintro e w' ⟨rfl, ⟨nd, rfl⟩⟩; refine ⟨_, rfl, ?_⟩; have hnb136 := NB407_397.out; have hnc136 := NB397_407.out; have hnb137 := NB407_402.out; have hnc137 := NB402_407.out; have hcz138_0 : wr.cell? ⟨gb407, 0, none⟩ = some (.slice Ao29 t403.length co29) := (blk_cell BK407.out 0).trans rfl; have hcz138_1 : wr.cell? ⟨gb407, 1, none⟩ = some (.int .i64 t406) := (blk_cell BK407.out 1).trans rfl; have hfz138_0 := blk_frozen BK407.out 0; have hfz138_1 := blk_frozen BK407.out 1) | ((with_reducible refine gate_callee (f := 50) rfl ?_); refine goesL_ (some 109) rfl rfl Try.func50 (by kernel_rfl) rfl #[.slice Ao29 t403.length co29, .int .i64 x17_4, .int .i64 1] rfl (by (try simp only [List.map_toArray, List.map_cons, List.map_nil]); first | done | rfl | (simp only [List.length_drop, List.length_take]; rfl)) ?_; (with_reducible refine (bits_Take.calls k4 _ _ t403 x17_4 1 t417 t418 _ ?side1 ?side2 A66.out).mono ?_); (case side1 => repeat (first | exact (Kd.R_reads' HO_408000.out).2.2 | (with_reducible refine Kd.C_alloc ?_ _) | (with_reducible refine Kd.C_drewN ?_ _) | (with_reducible refine Kd.C_drew ?_))); (case side2 => exact (Kd.R_reads' HO_408000.out).2.1); rintro e w' ⟨rfl, ⟨nd, rfl⟩⟩; refine ⟨_, rfl, ?_⟩))
                              go_ret
                              exact ⟨by first | rfl | (simp [errW_none, errW_some] <;> rfl) | (simp [*, errW_none, errW_some] <;> rfl), by repeat (first | (with_reducible first | exact HB.out | apply below_alloc | apply pw_below_drewN | apply below_drew1 | refine below_set ?_ GE397.out | refine below_set ?_ GE402.out | refine below_set ?_ GE407.out | refine below_set ?_ GE414.out) | exact HB.out)⟩
                        · rw [if_neg c64] at H
                          have c64b0 : decide (x17_4 < t413) = false := decide_eq_false c64
                          clear c64
                          obtain rfl := Option.some.inj H
                          have hnb139 := NB414_397.out
                          have hnc139 := NB397_414.out
                          have hnb140 := NB414_402.out
                          have hnc140 := NB402_414.out
                          have hnb141 := NB414_407.out
                          have hnc141 := NB407_414.out
                          have hcz142_0 : wr.cell? ⟨gb414, 0, none⟩ = some (.slice Ao57 t410.length co57) := (blk_cell BK414.out 0).trans rfl
                          have hcz142_1 : wr.cell? ⟨gb414, 1, none⟩ = some (.int .i64 t413) := (blk_cell BK414.out 1).trans rfl
                          have hfz142_0 := blk_frozen BK414.out 0
                          have hfz142_1 := blk_frozen BK414.out 1
                          go_wp2
                          go_ret
                          exact ⟨by first | rfl | (simp [errW_none, errW_some] <;> rfl) | (simp [*, errW_none, errW_some] <;> rfl), by repeat (first | (with_reducible first | exact HB.out | apply below_alloc | apply pw_below_drewN | apply below_drew1 | refine below_set ?_ GE397.out | refine below_set ?_ GE402.out | refine below_set ?_ GE407.out | refine below_set ?_ GE414.out) | exact HB.out)⟩
                  · rw [if_neg c49] at H
                    have c49b0 : (t413 == (wrap64 (t406 + t401))) = false := beq_eq_false_iff_ne.mpr c49
                    have c49b1 : (t413 != (wrap64 (t406 + t401))) = true := bne_iff_ne.mpr c49
                    obtain rfl := Option.some.inj H
                    have hnb143 := NB407_397.out
                    have hnc143 := NB397_407.out
                    have hnb144 := NB407_402.out
                    have hnc144 := NB402_407.out
                    have hcz145_0 : wc.cell? ⟨gb407, 0, none⟩ = some (.slice Ao29 t403.length co29) := (blk_cell BK407.out 0).trans rfl
                    have hcz145_1 : wc.cell? ⟨gb407, 1, none⟩ = some (.int .i64 t406) := (blk_cell BK407.out 1).trans rfl
                    have hfz145_0 := blk_frozen BK407.out 0
                    have hfz145_1 := blk_frozen BK407.out 1
                    have hnb146 := NB402_397.out
                    have hnc146 := NB397_402.out
                    have hcz147_0 : wc.cell? ⟨gb402, 0, none⟩ = some (.slice Ao23 t398.length co23) := (blk_cell BK402.out 0).trans rfl
                    have hcz147_1 : wc.cell? ⟨gb402, 1, none⟩ = some (.int .i64 t401) := (blk_cell BK402.out 1).trans rfl
                    have hfz147_0 := blk_frozen BK402.out 0
                    have hfz147_1 := blk_frozen BK402.out 1
                    go_wp2_with (first | ((with_reducible refine gate_callee (f := 57) rfl ?_); refine goesL_ (some 83) rfl rfl Try.func57 (by kernel_rfl) rfl #[.agg #[.slice Ao29 t403.length co29, .int .i64 t406], .agg #[.slice Ao23 t398.length co23, .int .i64 t401]] rfl (by (try simp only [List.map_toArray, List.map_cons, List.map_nil]); first | done | rfl | (simp only [List.length_drop, List.length_take]; rfl)) ?_; (with_reducible refine (bits_Join.calls kj38 _ _ t403 t406 _ _ t398 t401 t410 t413 _ ?side1 ?side2 ?side3 ?side4 A48.out).mono ?_); (case side1 => repeat (first | exact (Kd.R_reads' HO_408000.out).2.2 | (with_reducible refine Kd.C_alloc ?_ _) | (with_reducible refine Kd.C_drewN ?_ _) | (with_reducible refine Kd.C_drew ?_))); (case side2 => exact (Kd.R_reads' HO_408000.out).2.1); (case side3 => repeat (first | exact (Kd.R_reads' HO_403000.out).2.2 | (with_reducible refine Kd.C_alloc ?_ _) | (with_reducible refine Kd.C_drewN ?_ _) | (with_reducible refine Kd.C_drew ?_))); (case side4 => exact (Kd.R_reads' HO_403000.out).2.1); rintro e w148 ⟨v411, rfl, ho0, hb⟩; refine ⟨_, rfl, ?_⟩; have n0_ := Aside0.mk (Kd.R_elder' (by (with_reducible repeat (first | apply Kd.R_alloc | apply Kd.R_drewN | apply Kd.R_drew)); exact HO_398000.out) (Kd.R_base ho0) hb); have n1_ := Aside0.mk (Kd.R_elder' (by (with_reducible repeat (first | apply Kd.R_alloc | apply Kd.R_drewN | apply Kd.R_drew)); exact HO_403000.out) (Kd.R_base ho0) hb); have n2_ := Aside0.mk (Kd.R_elder' (by (with_reducible repeat (first | apply Kd.R_alloc | apply Kd.R_drewN | apply Kd.R_drew)); exact HO_408000.out) (Kd.R_base ho0) hb); have n3_ := Aside0.mk (Kd.R_lower (Kd.R_new' (Kd.R_new' (Kd.R_new' ho0 (Kd.R_lt (by (with_reducible repeat (first | apply Kd.R_alloc | apply Kd.R_drewN | apply Kd.R_drew)); exact HO_398000.out))) (Kd.R_lt (by (with_reducible repeat (first | apply Kd.R_alloc | apply Kd.R_drewN | apply Kd.R_drew)); exact HO_403000.out))) (Kd.R_lt (by (with_reducible repeat (first | apply Kd.R_alloc | apply Kd.R_drewN | apply Kd.R_drew)); exact HO_408000.out))) (below_size (by repeat (first | (with_reducible first | exact HB.out | apply below_alloc | apply pw_below_drewN | apply below_drew1 | refine below_set ?_ GE397.out | refine below_set ?_ GE402.out | refine below_set ?_ GE407.out) | exact HB.out)))); have n4_ := Aside0.mk (blk_below (g := gb397) (o := .cells #[.slice Ao19 t393.length co19, .int .i64 t396] 86 (0, 0)) (by (with_reducible repeat (first | refine blk_drewN ?_ _ | refine blk_drew ?_ | refine blk_alloc ?_ _)); exact BK397.out) hb); have n5_ := Aside0.mk (blk_below (g := gb402) (o := .cells #[.slice Ao23 t398.length co23, .int .i64 t401] 86 (0, 0)) (by (with_reducible repeat (first | refine blk_drewN ?_ _ | refine blk_drew ?_ | refine blk_alloc ?_ _)); exact BK402.out) hb); have n6_ := Aside0.mk (blk_below (g := gb407) (o := .cells #[.slice Ao29 t403.length co29, .int .i64 t406] 86 (0, 0)) (by (with_reducible repeat (first | refine blk_drewN ?_ _ | refine blk_drew ?_ | refine blk_alloc ?_ _)); exact BK407.out) hb); have n7_ := Aside0.mk (below_step (by repeat (first | (with_reducible first | exact HB.out | apply below_alloc | apply pw_below_drewN | apply below_drew1 | refine below_set ?_ GE397.out | refine below_set ?_ GE402.out | refine below_set ?_ GE407.out) | exact HB.out)) hb); clear HO_398000; clear HO_403000; clear HO_408000; clear BK397; clear BK402; clear BK407; clear HB; have HO_398000 := n0_; have HO_403000 := n1_; have HO_408000 := n2_; have HO412 := n3_; have BK397 := n4_; have BK402 := n5_; have BK407 := n6_; have HB := n7_; clear n0_ n1_ n2_ n3_ n4_ n5_ n6_ n7_; (try clear hb); (try clear hb2); (try clear hk); (try clear hi); (try clear ho0)) | ((with_reducible refine gate_dst (N := 16) rfl ?_); (try (refine gate_guard (by rfl) ?_; dsimp only)); refine box_event ?hg (N := 16) ?hd (cs := #[.slice none 0 0, .int .i64 0]) (t := 86) ?hr ?_; (case hd => rfl); (case hg => rfl); (case hr => first | (go_simp; done) | (go_simp; rfl)); intro gb414 hg w149 hbox hb; have n0_ := Aside0.mk (Kd.R_below (by (with_reducible repeat (first | apply Kd.R_alloc | apply Kd.R_drewN | apply Kd.R_drew)); exact HO_398000.out) hb); have n1_ := Aside0.mk (Kd.R_below (by (with_reducible repeat (first | apply Kd.R_alloc | apply Kd.R_drewN | apply Kd.R_drew)); exact HO_403000.out) hb); have n2_ := Aside0.mk (Kd.R_below (by (with_reducible repeat (first | apply Kd.R_alloc | apply Kd.R_drewN | apply Kd.R_drew)); exact HO_408000.out) hb); have n3_ := Aside0.mk (Kd.R_below (by (with_reducible repeat (first | apply Kd.R_alloc | apply Kd.R_drewN | apply Kd.R_drew)); exact HO412.out) hb); have n4_ := Aside0.mk (blk_below (g := gb397) (o := .cells #[.slice Ao19 t393.length co19, .int .i64 t396] 86 (0, 0)) (by (with_reducible repeat (first | refine blk_drewN ?_ _ | refine blk_drew ?_ | refine blk_alloc ?_ _)); exact BK397.out) hb); have n5_ := Aside0.mk (blk_below (g := gb402) (o := .cells #[.slice Ao23 t398.length co23, .int .i64 t401] 86 (0, 0)) (by (with_reducible repeat (first | refine blk_drewN ?_ _ | refine blk_drew ?_ | refine blk_alloc ?_ _)); exact BK402.out) hb); have n6_ := Aside0.mk (blk_below (g := gb407) (o := .cells #[.slice Ao29 t403.length co29, .int .i64 t406] 86 (0, 0)) (by (with_reducible repeat (first | refine blk_drewN ?_ _ | refine blk_drew ?_ | refine blk_alloc ?_ _)); exact BK407.out) hb); have n7_ := Aside0.mk (below_step (by repeat (first | (with_reducible first | exact HB.out | apply below_alloc | apply pw_below_drewN | apply below_drew1 | refine below_set ?_ GE397.out | refine below_set ?_ GE402.out | refine below_set ?_ GE407.out) | exact HB.out)) hb); have n8_ := Aside0.mk (hbox); have n9_ := Aside0.mk ((by rw [hg]; exact (below_size (by repeat (first | (with_reducible first | exact HB.out | apply below_alloc | apply pw_below_drewN | apply below_drew1 | refine below_set ?_ GE397.out | refine below_set ?_ GE402.out | refine below_set ?_ GE407.out) | exact HB.out))) : w.heap.size ≤ gb414)); have n10_ := Aside0.mk ((by rw [hg]; exact (below_size (by repeat (first | (with_reducible first | exact HB.out | apply below_alloc | apply pw_below_drewN | apply below_drew1 | refine below_set ?_ GE397.out | refine below_set ?_ GE402.out | refine below_set ?_ GE407.out) | exact HB.out))) : w.heap.size ≤ gb414)); have n11_ := Aside0.mk ((by rw [hg]; exact Nat.ne_of_lt (blk_lt (g := gb397) (o := .cells #[.slice Ao19 t393.length co19, .int .i64 t396] 86 (0, 0)) (by (with_reducible repeat (first | refine blk_drewN ?_ _ | refine blk_drew ?_ | refine blk_alloc ?_ _)); exact BK397.out)) : gb397 ≠ gb414)); have n12_ := Aside0.mk ((by rw [hg]; exact Nat.ne_of_gt (blk_lt (g := gb397) (o := .cells #[.slice Ao19 t393.length co19, .int .i64 t396] 86 (0, 0)) (by (with_reducible repeat (first | refine blk_drewN ?_ _ | refine blk_drew ?_ | refine blk_alloc ?_ _)); exact BK397.out)) : gb414 ≠ gb397)); have n13_ := Aside0.mk ((by rw [hg]; exact Nat.ne_of_lt (blk_lt (g := gb402) (o := .cells #[.slice Ao23 t398.length co23, .int .i64 t401] 86 (0, 0)) (by (with_reducible repeat (first | refine blk_drewN ?_ _ | refine blk_drew ?_ | refine blk_alloc ?_ _)); exact BK402.out)) : gb402 ≠ gb414)); have n14_ := Aside0.mk ((by rw [hg]; exact Nat.ne_of_gt (blk_lt (g := gb402) (o := .cells #[.slice Ao23 t398.length co23, .int .i64 t401] 86 (0, 0)) (by (with_reducible repeat (first | refine blk_drewN ?_ _ | refine blk_drew ?_ | refine blk_alloc ?_ _)); exact BK402.out)) : gb414 ≠ gb402)); have n15_ := Aside0.mk ((by rw [hg]; exact Nat.ne_of_lt (blk_lt (g := gb407) (o := .cells #[.slice Ao29 t403.length co29, .int .i64 t406] 86 (0, 0)) (by (with_reducible repeat (first | refine blk_drewN ?_ _ | refine blk_drew ?_ | refine blk_alloc ?_ _)); exact BK407.out)) : gb407 ≠ gb414)); have n16_ := Aside0.mk ((by rw [hg]; exact Nat.ne_of_gt (blk_lt (g := gb407) (o := .cells #[.slice Ao29 t403.length co29, .int .i64 t406] 86 (0, 0)) (by (with_reducible repeat (first | refine blk_drewN ?_ _ | refine blk_drew ?_ | refine blk_alloc ?_ _)); exact BK407.out)) : gb414 ≠ gb407)); clear HO_398000; clear HO_403000; clear HO_408000; clear HO412; clear BK397; clear BK402; clear BK407; clear HB; have HO_398000 := n0_; have HO_403000 := n1_; have HO_408000 := n2_; have HO412 := n3_; have BK397 := n4_; have BK402 := n5_; have BK407 := n6_; have HB := n7_; have BK414 := n8_; have GW414 := n9_; have GE414 := n10_; have NB397_414 := n11_; have NB414_397 := n12_; have NB402_414 := n13_; have NB414_402 := n14_; have NB407_414 := n15_; have NB414_407 := n16_; clear n0_ n1_ n2_ n3_ n4_ n5_ n6_ n7_ n8_ n9_ n10_ n11_ n12_ n13_ n14_ n15_ n16_; clear hb hbox hg; obtain ⟨Ao150, co150, eo150⟩ := Kd.R_slice HO412.out; subst eo150; have hnb151 := NB414_397.out; have hnc151 := NB397_414.out; have hnb152 := NB414_402.out; have hnc152 := NB402_414.out; have hnb153 := NB414_407.out; have hnc153 := NB407_414.out; have hcz154_0 : w149.cell? ⟨gb414, 0, none⟩ = some (.slice none 0 0) := (blk_cell BK414.out 0).trans rfl; have hcz154_1 : w149.cell? ⟨gb414, 1, none⟩ = some (.int .i64 0) := (blk_cell BK414.out 1).trans rfl; have hfz154_0 := blk_frozen BK414.out 0; have hfz154_1 := blk_frozen BK414.out 1; have hcz155_0 : w149.cell? ⟨gb407, 0, none⟩ = some (.slice Ao29 t403.length co29) := (blk_cell BK407.out 0).trans rfl; have hcz155_1 : w149.cell? ⟨gb407, 1, none⟩ = some (.int .i64 t406) := (blk_cell BK407.out 1).trans rfl; have hfz155_0 := blk_frozen BK407.out 0; have hfz155_1 := blk_frozen BK407.out 1; have hcz156_0 : w149.cell? ⟨gb402, 0, none⟩ = some (.slice Ao23 t398.length co23) := (blk_cell BK402.out 0).trans rfl; have hcz156_1 : w149.cell? ⟨gb402, 1, none⟩ = some (.int .i64 t401) := (blk_cell BK402.out 1).trans rfl; have hfz156_0 := blk_frozen BK402.out 0; have hfz156_1 := blk_frozen BK402.out 1))
                    go_ret
                    exact ⟨by first | rfl | (simp [errW_none, errW_some] <;> rfl) | (simp [*, errW_none, errW_some] <;> rfl), by repeat (first | (with_reducible first | exact HB.out | apply below_alloc | apply pw_below_drewN | apply below_drew1 | refine below_set ?_ GE397.out | refine below_set ?_ GE402.out | refine below_set ?_ GE407.out | refine below_set ?_ GE414.out) | exact HB.out)⟩

/-- THE ONE PURE STATEMENT of gaiterlaw01_BitsBack: yours. -/
def gaiterlaw01_BitsBack.Pure : Prop := ∀ (l0 : List Int) (l1 : List Int) (a2 : Int) (a3 : Int), l0.length ≤ maxLen → l0.length * 1 ≤ 140737488351232 → (∀ x ∈ l0, (Lit.int .u8 x).wf = true) → l1.length ≤ maxLen → l1.length * 1 ≤ 140737488351232 → (∀ x ∈ l1, (Lit.int .u8 x).wf = true) → (Lit.int .u64 a2).wf = true → (Lit.int .i64 a3).wf = true → ∃ k, gaiterlaw01_BitsBack.f k l0 l1 a2 a3 = some true
theorem gaiterlaw01_BitsBack.walk (P : gaiterlaw01_BitsBack.Pure) (a0 : Option Addr) (len0 cap0 : Nat) (z0 : List Int) (a1 : Option Addr) (len1 cap1 : Nat) (z1 : List Int) (a2 : Int) (a3 : Int) (w : World) (w0 : (a0 = none ∧ len0 = 0 ∧ cap0 = 0 ∧ z0 = []) ∨ ∃ x, a0 = some x ∧ len0 ≤ cap0 ∧ cap0 ≤ maxLen ∧ z0.length = cap0 ∧ (∀ i, i < z0.length → w.cell? (x.add i) = some (.int .u8 (z0.getD i 0))) ∧ ∀ n ∈ z0, (Lit.int .u8 n).wf = true) (y0 : len0 * 1 ≤ 140737488351232) (w1 : (a1 = none ∧ len1 = 0 ∧ cap1 = 0 ∧ z1 = []) ∨ ∃ x, a1 = some x ∧ len1 ≤ cap1 ∧ cap1 ≤ maxLen ∧ z1.length = cap1 ∧ (∀ i, i < z1.length → w.cell? (x.add i) = some (.int .u8 (z1.getD i 0))) ∧ ∀ n ∈ z1, (Lit.int .u8 n).wf = true) (y1 : len1 * 1 ≤ 140737488351232) (w2 : (Lit.int .u64 a2).wf = true) (w3 : (Lit.int .i64 a3).wf = true) :
    Calls Try.prog 14 #[.slice a0 len0 cap0, .slice a1 len1 cap1, .int .u64 a2, .int .i64 a3] w fun e w' => e = .returned (.bool true) ∧ Below w.heap.size w w' := by
  obtain ⟨l0, rfl, hr0, hm0, hw0, hc0⟩ := ReadsInt.ofRowC w0
  obtain ⟨l1, rfl, hr1, hm1, hw1, hc1⟩ := ReadsInt.ofRowC w1
  obtain ⟨k, h⟩ := P l0 l1 a2 a3 hm0 y0 hw0 hm1 y1 hw1 w2 w3
  refine (gaiterlaw01_BitsBack.calls k _ _ l0 _ _ l1 a2 a3 true w (Kd.C_of_reads (d := (0 : Int)) (h1 := fun _ => rfl) hr0) hc0 (Kd.C_of_reads (d := (0 : Int)) (h1 := fun _ => rfl) hr1) hc1 h).mono ?_
  rintro e w' ⟨rfl, hd⟩
  exact ⟨rfl, hd⟩

end Go.Proofs.Ythlieaggokdppaa.All
