-- declarations that this claim needs, copied by a program of the session
import Derived.Test.YtiahbcaoikoogabDoorKbAllx1
section
namespace Go.Proofs.YtiahbcaoikoogabDoor.All
open Go.RowKit Go.Proofs.YtiahbcaoikoogabDoorW.PrintWords Go.Proofs.YtiahbcaoikoogabDoorW.PrintLast Go.Proofs.YtiahbcaoikoogabDoorW.PrintMore
attribute [local go_sem] max2_int min2_int max_two min_two max_three min_three max_four min_four   
set_option linter.unusedVariables false
set_option linter.unusedSimpArgs false
attribute [local go_sem high] eqA48
def gaiterlaw00_Same.l0 : Nat → List (S48) → List (S48) → Int → Option (Int)
 | 0, _, _, _ => none
 | k + 1, x0, x1, x5 => if x5 < (x0.length : Int) then (if 0 ≤ x5 then (if x5 < (x1.length : Int) then (if (!(((rd_T48 x0 x5).f0) == ((rd_T48 x1 x5).f0)) || (!(((rd_T48 x0 x5).f1) == ((rd_T48 x1 x5).f1)))) = true then (some 0) else (gaiterlaw00_Same.l0 k x0 x1 (wrap64 (x5 + 1)))) else (none)) else (none)) else (some 1)
def gaiterlaw00_Same.f (k : Nat) (l0 : List (S48)) (l1 : List (S48)) : Option (Int) := if (l0.length : Int) = (l1.length : Int) then (gaiterlaw00_Same.l0 k l0 l1 0) else (some 0)
theorem gaiterlaw00_Same.mono_l : ∀ k, (∀ y0 y1 y2, LeO (gaiterlaw00_Same.l0 k y0 y1 y2) (gaiterlaw00_Same.l0 (k + 1) y0 y1 y2))
 | 0 => fun _ _ _ r h => by simp [gaiterlaw00_Same.l0] at h
 | k + 1 => by
  have ih0 := gaiterlaw00_Same.mono_l k
  ·intro y0 y1 y2
   unfold gaiterlaw00_Same.l0
   repeat' first
   | (with_reducible exact ih0 _ _ _)
   | (with_reducible exact LeO.refl _)
   | (with_reducible exact LeO.none _)
   | (with_reducible refine LeO.ite ?_ ?_)
   | (with_reducible refine LeO.bind ?_ (fun _ => ?_))
   | exact ih0 _ _ _
   | exact LeO.none _
   | refine LeO.ite ?_ ?_
   | refine LeO.bind ?_ (fun _ => ?_)
theorem gaiterlaw00_Same.mono : ∀ a0 a1 k, LeO (gaiterlaw00_Same.f k a0 a1) (gaiterlaw00_Same.f (k + 1) a0 a1) := by
 intro a0 a1 k
 have ih0 := gaiterlaw00_Same.mono_l k
 unfold gaiterlaw00_Same.f
 repeat' first
   | (with_reducible exact ih0 _ _ _)
   | (with_reducible exact LeO.refl _)
   | (with_reducible exact LeO.none _)
   | (with_reducible refine LeO.ite ?_ ?_)
   | (with_reducible refine LeO.bind ?_ (fun _ => ?_))
   | exact ih0 _ _ _
   | exact LeO.none _
   | refine LeO.ite ?_ ?_
   | refine LeO.bind ?_ (fun _ => ?_)
set_option maxHeartbeats 8000000 in
set_option maxRecDepth 100000 in
theorem gaiterlaw00_Same.calls (k : Nat) (A0 : Option Addr) (c0 : Nat) (l0 : List (S48)) (A1 : Option Addr) (c1 : Nat) (l1 : List (S48)) (r : Int) (w : World) (hr0 : Kd.C k48 w A0 l0.length l0) (hc0 : l0.length ≤ c0) (hr1 : Kd.C k48 w A1 l1.length l1) (hc1 : l1.length ≤ c1) (h : gaiterlaw00_Same.f k l0 l1 = some r) :
  Calls Tryd.prog 11 #[.slice A0 l0.length c0, .slice A1 l1.length c1] w fun e w' => e = .returned (.int .i64 r) ∧ Drawn0 w w' := by
 have hu48 := Tryd.underlying48; have HR0 := Aside0.mk hr0; have HC0 := Aside0.mk hc0; clear hr0 hc0; have HR1 := Aside0.mk hr1; have HC1 := Aside0.mk hc1; clear hr1 hc1; have H : (if (l0.length : Int) = (l1.length : Int) then (gaiterlaw00_Same.l0 k l0 l1 0) else (some 0)) = some r := h; clear h
 by_cases c3 : (l0.length : Int) = (l1.length : Int)
 ·rw [if_pos c3] at H; have c3b0 : ((l0.length : Int) == (l1.length : Int)) = true := beq_iff_eq.mpr c3; have c3b1 : ((l0.length : Int) != (l1.length : Int)) = false := bne_eq_false_iff_eq.mpr c3
  have c3b2 : (l0.length == l1.length) = true := by first | simpa using c3 | (simp at c3 ⊢; omega)
  clear c3; have H' := Aside0.mk H; clear H
  go_enter Tryd.func11, Tryd.ntmps11
  go_wp2
  repeat ((first | go_quiet (fail) | go_region); try go_wp2)
  go_loopg [5] k (fun kq v5 w' => ∃ (x5_1 : Int), v5 = .int .i64 x5_1 ∧ Aside0 (gaiterlaw00_Same.l0 kq l0 l1 x5_1 = some r) ∧ Aside0 (kq ≤ k) ∧ Drawn0 w w')
  case atStart => exact ⟨(0), (by first | rfl | (simp; done) | (simp [*]; done)), H', ⟨Nat.le_refl _⟩, by repeat (first | exact Drawn0.refl _ | apply Drawn0.step)⟩
  case round =>
   clear H'; (try clear c1); (try clear p2); (try clear c3); (try clear c3b0); (try clear c3b1); (try clear c3b2); obtain ⟨x5_1, rfl, HA, HK1, ⟨m1, rfl⟩⟩ := hrel
   cases gk with
   | zero => exact absurd HA.out (by simp [gaiterlaw00_Same.l0])
   | succ k1 =>
    have H := HA.out; clear HA; simp only [gaiterlaw00_Same.l0] at H
    by_cases c4 : x5_1 < (l0.length : Int)
    ·rw [if_pos c4] at H; have c4b0 : decide (x5_1 < (l0.length : Int)) = true := decide_eq_true c4; clear c4
     by_cases c5 : 0 ≤ x5_1
     ·rw [if_pos c5] at H; have c5b0 : decide (0 ≤ x5_1) = true := decide_eq_true c5; clear c5
      by_cases c6 : x5_1 < (l1.length : Int)
      ·rw [if_pos c6] at H; have c6b0 : decide (x5_1 < (l1.length : Int)) = true := decide_eq_true c6; clear c6
       by_cases c7 : (!(((rd_T48 l0 x5_1).f0) == ((rd_T48 l1 x5_1).f0)) || (!(((rd_T48 l0 x5_1).f1) == ((rd_T48 l1 x5_1).f1)))) = true
       ·rw [if_pos c7] at H; have c7b0 : (!(((rd_T48 l0 x5_1).f0) == ((rd_T48 l1 x5_1).f0)) || (!(((rd_T48 l0 x5_1).f1) == ((rd_T48 l1 x5_1).f1)))) = true := c7; clear c7; obtain rfl := Option.some.inj H; have p323 : 0 ≤ (x5_1 : Int) := of_decide_eq_true (by first | (with_reducible assumption) | assumption); have q323 : x5_1 < (l0.length : Int) := of_decide_eq_true (by first | (with_reducible assumption) | assumption); obtain ⟨ad323, e323, hx323_0, hx323_1⟩ := at_T48 HR0.out x5_1 p323 q323
        cases e323
        replace p323 := eq_true p323
        (try (have q323s := q323; simp only [List.length_drop, List.length_take] at q323s; replace q323s := eq_true q323s)); replace q323 := eq_true q323
        have p324 : 0 ≤ (x5_1 : Int) := of_decide_eq_true (by first | (with_reducible assumption) | assumption); have q324 : x5_1 < (l1.length : Int) := of_decide_eq_true (by first | (with_reducible assumption) | assumption); obtain ⟨ad324, e324, hx324_0, hx324_1⟩ := at_T48 HR1.out x5_1 p324 q324
        cases e324
        replace p324 := eq_true p324
        (try (have q324s := q324; simp only [List.length_drop, List.length_take] at q324s; replace q324s := eq_true q324s)); replace q324 := eq_true q324
        go_wp2
        repeat ((first | go_quiet (fail) | go_region); try go_wp2)
        go_ret
        exact ⟨by first | rfl | (simp; done) | (simp [*]; done), by repeat (first | exact Drawn0.refl _ | apply Drawn0.step)⟩
       ·rw [if_neg c7] at H
        have c7b0 : (!(((rd_T48 l0 x5_1).f0) == ((rd_T48 l1 x5_1).f0)) || (!(((rd_T48 l0 x5_1).f1) == ((rd_T48 l1 x5_1).f1)))) = false := by simpa using c7
        clear c7; have H' := Aside0.mk H; clear H; have p323 : 0 ≤ (x5_1 : Int) := of_decide_eq_true (by first | (with_reducible assumption) | assumption); have q323 : x5_1 < (l0.length : Int) := of_decide_eq_true (by first | (with_reducible assumption) | assumption); obtain ⟨ad323, e323, hx323_0, hx323_1⟩ := at_T48 HR0.out x5_1 p323 q323
        cases e323
        replace p323 := eq_true p323
        (try (have q323s := q323; simp only [List.length_drop, List.length_take] at q323s; replace q323s := eq_true q323s)); replace q323 := eq_true q323
        have p324 : 0 ≤ (x5_1 : Int) := of_decide_eq_true (by first | (with_reducible assumption) | assumption); have q324 : x5_1 < (l1.length : Int) := of_decide_eq_true (by first | (with_reducible assumption) | assumption); obtain ⟨ad324, e324, hx324_0, hx324_1⟩ := at_T48 HR1.out x5_1 p324 q324
        cases e324
        replace p324 := eq_true p324
        (try (have q324s := q324; simp only [List.length_drop, List.length_take] at q324s; replace q324s := eq_true q324s)); replace q324 := eq_true q324
        go_wp2
        repeat ((first | go_quiet (fail) | go_region); try go_wp2)
        go_roundg k1
        case measure => have := HK1.out; omega
        case rel => exact ⟨(wrap64 (x5_1 + 1)), (by first | rfl | (simp; done) | (simp [*]; done)), H', ⟨by have := HK1.out; omega⟩, by repeat (first | exact Drawn0.refl _ | apply Drawn0.step)⟩
      ·rw [if_neg c6] at H
       exact absurd H (by simp)
     ·rw [if_neg c5] at H
      exact absurd H (by simp)
    ·rw [if_neg c4] at H; have c4b0 : decide (x5_1 < (l0.length : Int)) = false := decide_eq_false c4; clear c4; obtain rfl := Option.some.inj H
     go_wp2
     repeat ((first | go_quiet (fail) | go_region); try go_wp2)
     go_ret
     exact ⟨by first | rfl | (simp; done) | (simp [*]; done), by repeat (first | exact Drawn0.refl _ | apply Drawn0.step)⟩
 ·rw [if_neg c3] at H; have c3b0 : ((l0.length : Int) == (l1.length : Int)) = false := beq_eq_false_iff_ne.mpr c3; have c3b1 : ((l0.length : Int) != (l1.length : Int)) = true := bne_iff_ne.mpr c3
  have c3b2 : (l0.length == l1.length) = false := by first | simpa using c3 | (simp at c3 ⊢; omega)
  obtain rfl := Option.some.inj H
  go_enter Tryd.func11, Tryd.ntmps11
  go_wp2
  repeat ((first | go_quiet (fail) | go_region); try go_wp2)
  go_ret
  exact ⟨by first | rfl | (simp; done) | (simp [*]; done), by repeat (first | exact Drawn0.refl _ | apply Drawn0.step)⟩
end Go.Proofs.YtiahbcaoikoogabDoor.All
end
section
namespace Go.Proofs.YtiahbcaoikoogabDoor.All
open Go.RowKit Go.Proofs.YtiahbcaoikoogabDoorW.PrintWords Go.Proofs.YtiahbcaoikoogabDoorW.PrintLast Go.Proofs.YtiahbcaoikoogabDoorW.PrintMore
attribute [local go_sem] max2_int min2_int max_two min_two max_three min_three max_four min_four   
set_option linter.unusedVariables false
set_option linter.unusedSimpArgs false
def gaiterlaw10_up.f (k : Nat)  : Option (Bool) := (slow_Decode.f k 1 ([] : List Int) 1).bind fun bt325 => ((slow_Decode.f k 2 (([0, 0, 0, 0, 0, 0, 0, 1, 0, 0, 0, 0, 0, 0, 0, 9] : List Int)) 1).bind fun bt332 => (if (bt325.1.length : Int) = 0 then ((gaiterlaw00_Code.f bt325.2).bind fun t336 => (if t336 = 2 then (if bt332.2.isNone = true then ((gaiterlaw00_Same.f k bt332.1 (([(⟨1, 9⟩ : S48)] : List (S48)))).bind fun t341 => (some (t341 == 1))) else (none)) else (none))) else (none)))
theorem gaiterlaw10_up.mono : ∀ k, LeO (gaiterlaw10_up.f k ) (gaiterlaw10_up.f (k + 1) ) := by
 intro  k
 unfold gaiterlaw10_up.f
 repeat' first
   | (with_reducible exact gaiterlaw00_Same.mono _ _ _)
   | (with_reducible exact slow_Decode.mono _ _ _ _)
   | (with_reducible exact LeO.refl _)
   | (with_reducible exact LeO.none _)
   | (with_reducible refine LeO.ite ?_ ?_)
   | (with_reducible refine LeO.bind ?_ (fun _ => ?_))
   | exact gaiterlaw00_Same.mono _ _ _
   | exact slow_Decode.mono _ _ _ _
   | exact LeO.none _
   | refine LeO.ite ?_ ?_
   | refine LeO.bind ?_ (fun _ => ?_)
set_option maxHeartbeats 8000000 in
set_option maxRecDepth 100000 in
theorem gaiterlaw10_up.calls (k : Nat)  (r : Bool) (w : World) (hT : TabOk w) (h : gaiterlaw10_up.f k  = some r) :
  Calls Tryd.prog 7 #[] w fun e w' => e = .returned (.bool r) ∧ Below w.heap.size w w' := by
 have hu48 := Tryd.underlying48; have hu27 := Tryd.underlying27; have hu54 := Tryd.underlying54; have HT := Aside0.mk hT; clear hT; have HB := Aside0.mk (Below.refl w.heap.size w); have H : ((slow_Decode.f k 1 ([] : List Int) 1).bind fun bt325 => ((slow_Decode.f k 2 (([0, 0, 0, 0, 0, 0, 0, 1, 0, 0, 0, 0, 0, 0, 0, 9] : List Int)) 1).bind fun bt332 => (if (bt325.1.length : Int) = 0 then ((gaiterlaw00_Code.f bt325.2).bind fun t336 => (if t336 = 2 then (if bt332.2.isNone = true then ((gaiterlaw00_Same.f k bt332.1 (([(⟨1, 9⟩ : S48)] : List (S48)))).bind fun t341 => (some (t341 == 1))) else (none)) else (none))) else (none)))) = some r := h; clear h; replace H := Option.bind_eq_some_iff.mp H; obtain ⟨⟨t325, t326⟩, A10, H⟩ := H; replace H : ((slow_Decode.f k 2 (([0, 0, 0, 0, 0, 0, 0, 1, 0, 0, 0, 0, 0, 0, 0, 9] : List Int)) 1).bind fun bt332 => (if (t325.length : Int) = 0 then ((gaiterlaw00_Code.f t326).bind fun t336 => (if t336 = 2 then (if bt332.2.isNone = true then ((gaiterlaw00_Same.f k bt332.1 (([(⟨1, 9⟩ : S48)] : List (S48)))).bind fun t341 => (some (t341 == 1))) else (none)) else (none))) else (none))) = some r := H; have A1 := Aside0.mk A10; clear A10; obtain ⟨y329, hy329⟩ : ∃ y_ : List Int, y_ = (([0, 0, 0, 0, 0, 0, 0, 1, 0, 0, 0, 0, 0, 0, 0, 9] : List Int)) := ⟨_, rfl⟩
 replace H : ((slow_Decode.f k 2 y329 1).bind fun bt332 => (if (t325.length : Int) = 0 then ((gaiterlaw00_Code.f t326).bind fun t336 => (if t336 = 2 then (if bt332.2.isNone = true then ((gaiterlaw00_Same.f k bt332.1 (([(⟨1, 9⟩ : S48)] : List (S48)))).bind fun t341 => (some (t341 == 1))) else (none)) else (none))) else (none))) = some r := by first | (rw [hy329]; with_reducible exact H) | (have H2_ := (Option.bind_some _ _).symm.trans H; rw [hy329]; with_reducible exact H2_) | (have H2_ := (Option.bind_some _ _).symm.trans H; with_reducible exact H2_) | with_reducible exact H | (rw [hy329]; exact H) | exact H
 have Ny329 := Aside0.mk hy329; clear hy329; replace H := Option.bind_eq_some_iff.mp H; obtain ⟨⟨t332, t333⟩, A20, H⟩ := H; replace H : (if (t325.length : Int) = 0 then ((gaiterlaw00_Code.f t326).bind fun t336 => (if t336 = 2 then (if t333.isNone = true then ((gaiterlaw00_Same.f k t332 (([(⟨1, 9⟩ : S48)] : List (S48)))).bind fun t341 => (some (t341 == 1))) else (none)) else (none))) else (none)) = some r := H; have A2 := Aside0.mk A20; clear A20
 by_cases c3 : (t325.length : Int) = 0
 ·rw [if_pos c3] at H; have c3b0 : ((t325.length : Int) == 0) = true := beq_iff_eq.mpr c3; have c3b1 : ((t325.length : Int) != 0) = false := bne_eq_false_iff_eq.mpr c3; clear c3; replace H := Option.bind_eq_some_iff.mp H; obtain ⟨t336, A40, H⟩ := H; replace H : (if t336 = 2 then (if t333.isNone = true then ((gaiterlaw00_Same.f k t332 (([(⟨1, 9⟩ : S48)] : List (S48)))).bind fun t341 => (some (t341 == 1))) else (none)) else (none)) = some r := H; have A4 := Aside0.mk A40; clear A40
  by_cases c5 : t336 = 2
  ·rw [if_pos c5] at H; have c5b0 : (t336 == 2) = true := beq_iff_eq.mpr c5; have c5b1 : (t336 != 2) = false := bne_eq_false_iff_eq.mpr c5; clear c5
   rcases t333 with _ | q337
   ·have H1 : ((gaiterlaw00_Same.f k t332 (([(⟨1, 9⟩ : S48)] : List (S48)))).bind fun t341 => (some (t341 == 1))) = some r := by rw [if_pos (show (none : Option Int).isNone = true by rfl)] at H; exact H
    clear H; have H := H1; clear H1
    try simp only [errW_none, errW_some]
    obtain ⟨y338, hy338⟩ : ∃ y_ : List (S48), y_ = (([(⟨1, 9⟩ : S48)] : List (S48))) := ⟨_, rfl⟩
    replace H : ((gaiterlaw00_Same.f k t332 y338).bind fun t341 => (some (t341 == 1))) = some r := by first | (rw [hy338]; with_reducible exact H) | (have H2_ := (Option.bind_some _ _).symm.trans H; rw [hy338]; with_reducible exact H2_) | (have H2_ := (Option.bind_some _ _).symm.trans H; with_reducible exact H2_) | with_reducible exact H | (rw [hy338]; exact H) | exact H
    have Ny338 := Aside0.mk hy338; clear hy338; replace H := Option.bind_eq_some_iff.mp H; obtain ⟨t341, A60, H⟩ := H; replace H : (some (t341 == 1)) = some r := H; have A6 := Aside0.mk A60; clear A60; obtain rfl := Option.some.inj H
    go_enter Tryd.func7, Tryd.ntmps7
    go_wp2_with (first | ((with_reducible refine gate_callee (f := 10) rfl ?_); refine goesL_ (some 6) rfl rfl Tryd.func10 (by kernel_rfl) rfl #[.int .i64 1, .slice none 0 0, .int .i64 1] rfl km ?_; (refine (slow_Decode.calls k 1 _ _ ([] : List Int) 1 t325 t326 _ ?side1 ?side2 ?side3 A1.out).mono ?_); (case side1 => exact TabOk.below HT.out (kl HB) (Nat.le_refl _)); (case side2 => exact Kd.C_nil _ _); (case side3 => exact Nat.le_refl _); rintro e w7 ⟨v327, rfl, ho0, hb⟩; refine ⟨_, rfl, ?_⟩; have HO328 := Aside0.mk (Kd.R_lower ho0 (below_size (kl HB))); replace HB := kH HB hb; (try clear hb); (try clear hb2); (try clear hk); (try clear hi); (try clear hgw); (try clear ho0); (try simp only [errW_none, errW_some])) | ((with_reducible refine gate_dst (N := 10) rfl ?_); (try (refine gate_guard (by rfl) ?_; dsimp only)); refine Kd.R_lit (Kd.int .u8) _ 5 ?hg (N := 10) ?hd (xs := ([0, 0, 0, 0, 0, 0, 0, 1, 0, 0, 0, 0, 0, 0, 0, 9] : List Int)) (inner := [.int .u8 0, .int .u8 0, .int .u8 0, .int .u8 0, .int .u8 0, .int .u8 0, .int .u8 0, .int .u8 1, .int .u8 0, .int .u8 0, .int .u8 0, .int .u8 0, .int .u8 0, .int .u8 0, .int .u8 0, .int .u8 9]) (ok := fun _ => True) (okp := fun _ => True) ?hr ?hp (fun _ hk => hk) trivial (Below.refl _ _) (Nat.le_refl _) (by simp) ?_; (case hd => rfl); (case hg => rfl); (case hr => first | (go_simp; done) | (go_simp; rfl)); (case hp => exact (Reps.one (show Kd.M (Kd.int .u8) _ _ _ 0 [.int .u8 0] from rfl) (Reps.one (show Kd.M (Kd.int .u8) _ _ _ 0 [.int .u8 0] from rfl) (Reps.one (show Kd.M (Kd.int .u8) _ _ _ 0 [.int .u8 0] from rfl) (Reps.one (show Kd.M (Kd.int .u8) _ _ _ 0 [.int .u8 0] from rfl) (Reps.one (show Kd.M (Kd.int .u8) _ _ _ 0 [.int .u8 0] from rfl) (Reps.one (show Kd.M (Kd.int .u8) _ _ _ 0 [.int .u8 0] from rfl) (Reps.one (show Kd.M (Kd.int .u8) _ _ _ 0 [.int .u8 0] from rfl) (Reps.one (show Kd.M (Kd.int .u8) _ _ _ 1 [.int .u8 1] from rfl) (Reps.one (show Kd.M (Kd.int .u8) _ _ _ 0 [.int .u8 0] from rfl) (Reps.one (show Kd.M (Kd.int .u8) _ _ _ 0 [.int .u8 0] from rfl) (Reps.one (show Kd.M (Kd.int .u8) _ _ _ 0 [.int .u8 0] from rfl) (Reps.one (show Kd.M (Kd.int .u8) _ _ _ 0 [.int .u8 0] from rfl) (Reps.one (show Kd.M (Kd.int .u8) _ _ _ 0 [.int .u8 0] from rfl) (Reps.one (show Kd.M (Kd.int .u8) _ _ _ 0 [.int .u8 0] from rfl) (Reps.one (show Kd.M (Kd.int .u8) _ _ _ 0 [.int .u8 0] from rfl) (Reps.one (show Kd.M (Kd.int .u8) _ _ _ 9 [.int .u8 9] from rfl) (Reps.none _ _)))))))))))))))))); intro v330 w8 ho9 hb hg_ hnew_; clear hg_ hnew_; (first | rw [← Ny329.out] at ho9 | (simp only [Int.reduceToNat] at ho9; rw [← Ny329.out] at ho9)); replace HO328 := Aside0.mk (Kd.R_below (kr HO328) hb); have HO331 := Aside0.mk (Kd.R_lower ho9 (below_size (kl HB))); replace HB := kH HB hb; clear hb ho9; obtain ⟨Ao10, co10, eo10⟩ := Kd.R_slice HO331.out; subst eo10) | ((with_reducible refine gate_callee (f := 10) rfl ?_); refine goesL_ (some 11) rfl rfl Tryd.func10 (by kernel_rfl) rfl #[.int .i64 2, .slice Ao10 y329.length co10, .int .i64 1] rfl km ?_; (with_reducible refine (slow_Decode.calls k 2 _ _ y329 1 t332 none _ ?side1 ?side2 ?side3 A2.out).mono ?_); (case side1 => exact TabOk.below HT.out (kl HB) (Nat.le_refl _)); (case side2 => repeat (first | exact (Kd.R_reads' HO331.out).2.2 | (with_reducible refine Kd.C_alloc ?_ _) | (with_reducible refine Kd.C_drewN ?_ _) | (with_reducible refine Kd.C_drew ?_))); (case side3 => exact (Kd.R_reads' HO331.out).2.1); rintro e w11 ⟨v334, rfl, ho0, hb⟩; refine ⟨_, rfl, ?_⟩; replace HO331 := Aside0.mk (Kd.R_below (kr HO331) hb); have HO335 := Aside0.mk (Kd.R_lower (Kd.R_new' ho0 (Kd.R_lt (kr HO328))) (below_size (kl HB))); replace HO328 := Aside0.mk (Kd.R_elder' (kr HO328) (Kd.R_base ho0) hb); replace HB := kH HB hb; (try clear hb); (try clear hb2); (try clear hk); (try clear hi); (try clear hgw); (try clear ho0); (try simp only [errW_none, errW_some]); obtain ⟨Ao12, co12, eo12⟩ := Kd.R_slice HO328.out; subst eo12; have CA4 := fun W => gaiterlaw00_Code.calls t326 t336 W A4.out; try simp only [errW_none, errW_some] at CA4) | (go_at_call 12; (with_reducible refine (CA4 _).mono ?_); rintro e w' ⟨rfl, ⟨nd, rfl⟩⟩) | ((with_reducible refine gate_dst (N := 29) rfl ?_); (try (refine gate_guard (by rfl) ?_; dsimp only)); refine Kd.R_lit k48 _ 48 ?hg (N := 29) ?hd (xs := ([(⟨1, 9⟩ : S48)] : List (S48))) (inner := [.int .i64 1, .int .u64 9]) (ok := fun _ => True) (okp := fun _ => True) ?hr ?hp (fun _ hk => hk) trivial (Below.refl _ _) (Nat.le_refl _) (by simp) ?_; (case hd => rfl); (case hg => rfl); (case hr => first | (go_simp; done) | (go_simp; rfl)); (case hp => exact (Reps.c2 (show Kd.M k48 _ _ _ (⟨1, 9⟩ : S48) [.int .i64 1, .int .u64 9] from (k48_mkM _ _ _ (⟨1, 9⟩ : S48) )) (Reps.none _ _))); intro v339 w13 ho14 hb hg_ hnew_; clear hg_ hnew_; (first | rw [← Ny338.out] at ho14 | (simp only [Int.reduceToNat] at ho14; rw [← Ny338.out] at ho14)); replace HO331 := Aside0.mk (Kd.R_below (kr HO331) hb); have HO340 := Aside0.mk (Kd.R_lower (Kd.R_new' (Kd.R_new' ho14 (Kd.R_lt (kr HO328))) (Kd.R_lt (kr HO335))) (below_size (kl HB))); replace HO328 := Aside0.mk (Kd.R_elder' (kr HO328) (Kd.R_base ho14) hb); replace HO335 := Aside0.mk (Kd.R_elder' (kr HO335) (Kd.R_base ho14) hb); replace HB := kH HB hb; clear hb ho14; obtain ⟨Ao15, co15, eo15⟩ := Kd.R_slice HO335.out; subst eo15; obtain ⟨Ao16, co16, eo16⟩ := Kd.R_slice HO340.out; subst eo16) | (go_at_call 11; (with_reducible refine (gaiterlaw00_Same.calls k _ _ t332 _ _ y338 t341 _ ?side1 ?side2 ?side3 ?side4 A6.out).mono ?_); (case side1 => repeat (first | exact (Kd.R_reads' HO335.out).2.2 | (with_reducible refine Kd.C_alloc ?_ _) | (with_reducible refine Kd.C_drewN ?_ _) | (with_reducible refine Kd.C_drew ?_))); (case side2 => exact (Kd.R_reads' HO335.out).2.1); (case side3 => repeat (first | exact (Kd.R_reads' HO340.out).2.2 | (with_reducible refine Kd.C_alloc ?_ _) | (with_reducible refine Kd.C_drewN ?_ _) | (with_reducible refine Kd.C_drew ?_))); (case side4 => exact (Kd.R_reads' HO340.out).2.1); rintro e w' ⟨rfl, ⟨nd, rfl⟩⟩))
    go_ret
    exact ⟨by first | rfl | (simp [errW_none, errW_some] <;> rfl) | (simp [*, errW_none, errW_some] <;> rfl), (kl HB)⟩
   ·have H1 : (none) = some r := by rw [if_neg (show ¬ (some q337).isNone = true by simp)] at H; exact H
    clear H; have H := H1; clear H1
    try simp only [errW_none, errW_some]
    exact absurd H (by simp)
  ·rw [if_neg c5] at H
   exact absurd H (by simp)
 ·rw [if_neg c3] at H
  exact absurd H (by simp)
end Go.Proofs.YtiahbcaoikoogabDoor.All
end
