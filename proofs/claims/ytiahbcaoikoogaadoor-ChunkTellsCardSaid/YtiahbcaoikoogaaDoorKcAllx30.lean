-- declarations that this claim needs, copied by a program of the session
import Derived.Test.YtiahbcaoikoogaaDoorKcAllx14
namespace Go.Proofs.YtiahbcaoikoogaaDoor.All
open Go.RowKit Go.Proofs.YtiahbcaoikoogaaDoorW.PrintWords Go.Proofs.YtiahbcaoikoogaaDoorW.PrintLast Go.Proofs.YtiahbcaoikoogaaDoorW.PrintMore
attribute [local go_sem] max2_int min2_int max_two min_two max_three min_three max_four min_four   
set_option linter.unusedVariables false
set_option linter.unusedSimpArgs false
def gaiterref01_sizes.f (a0 : Int) : Option (Int) := (some (([0, 7, 9, 12, 64] : List Int) : List Int)).bind fun y601 => (if 0 ≤ a0 then (if a0 < (y601.length : Int) then (some (rd y601 a0)) else (none)) else (none))
set_option maxHeartbeats 8000000 in
set_option maxRecDepth 100000 in
theorem gaiterref01_sizes.calls (a0 : Int) (r : Int) (w : World) (h : gaiterref01_sizes.f a0 = some r) :
  Calls Tryd.prog 68 #[.int .i64 a0] w fun e w' => e = .returned (.int .i64 r) ∧ Below w.heap.size w w' := by
 have HB := Aside0.mk (Below.refl w.heap.size w); have H : ((some (([0, 7, 9, 12, 64] : List Int) : List Int)).bind fun y601 => (if 0 ≤ a0 then (if a0 < (y601.length : Int) then (some (rd y601 a0)) else (none)) else (none))) = some r := h; clear h; obtain ⟨y601, hy601⟩ : ∃ y_ : List Int, y_ = (([0, 7, 9, 12, 64] : List Int)) := ⟨_, rfl⟩
 replace H : (if 0 ≤ a0 then (if a0 < (y601.length : Int) then (some (rd y601 a0)) else (none)) else (none)) = some r := by first | (rw [hy601]; with_reducible exact H) | (have H2_ := (Option.bind_some _ _).symm.trans H; rw [hy601]; with_reducible exact H2_) | (have H2_ := (Option.bind_some _ _).symm.trans H; with_reducible exact H2_) | with_reducible exact H | (rw [hy601]; exact H) | exact H
 have Ny601 := Aside0.mk hy601; clear hy601
 by_cases c2 : 0 ≤ a0
 ·rw [if_pos c2] at H; have c2b0 : decide (0 ≤ a0) = true := decide_eq_true c2; clear c2
  by_cases c3 : a0 < (y601.length : Int)
  ·rw [if_pos c3] at H; have c3b0 : decide (a0 < (y601.length : Int)) = true := decide_eq_true c3; clear c3; obtain rfl := Option.some.inj H
   go_enter Tryd.func68, Tryd.ntmps68
   go_wp2_with (first | ((with_reducible refine gate_dst (N := 3) rfl ?_); refine Kd.R_lit (Kd.int .i64) _ 3 ?hg (N := 3) ?hd (xs := ([0, 7, 9, 12, 64] : List Int)) (inner := [.int .i64 0, .int .i64 7, .int .i64 9, .int .i64 12, .int .i64 64]) (ok := fun _ => True) (okp := fun _ => True) ?hr ?hp (fun _ hk => hk) trivial (Below.refl _ _) (Nat.le_refl _) (by simp) ?_; (case hd => rfl); (case hg => rfl); (case hr => first | (go_simp; done) | (go_simp; rfl)); (case hp => exact (Reps.one (show Kd.M (Kd.int .i64) _ _ _ 0 [.int .i64 0] from rfl) (Reps.one (show Kd.M (Kd.int .i64) _ _ _ 7 [.int .i64 7] from rfl) (Reps.one (show Kd.M (Kd.int .i64) _ _ _ 9 [.int .i64 9] from rfl) (Reps.one (show Kd.M (Kd.int .i64) _ _ _ 12 [.int .i64 12] from rfl) (Reps.one (show Kd.M (Kd.int .i64) _ _ _ 64 [.int .i64 64] from rfl) (Reps.none _ _))))))); intro v602 w4 ho5 hb hg_ hnew_; clear hg_ hnew_; (first | rw [← Ny601.out] at ho5 | (simp only [Int.reduceToNat] at ho5; rw [← Ny601.out] at ho5)); have HO603 := Aside0.mk (Kd.R_lower ho5 (below_size (kl HB))); replace HB := kH HB hb; clear hb ho5; obtain ⟨Ao6, co6, eo6⟩ := Kd.R_slice HO603.out; subst eo6; have p604 : 0 ≤ (a0 : Int) := of_decide_eq_true (by first | (with_reducible assumption) | assumption); have q604 : a0 < (y601.length : Int) := of_decide_eq_true (by first | (with_reducible assumption) | assumption); obtain ⟨ad604, e604, hx604_0⟩ := Kd.at_int (Kd.R_reads' HO603.out).2.2 a0 p604 q604; cases e604; replace p604 := eq_true p604; (try (have q604s := q604; simp only [List.length_drop, List.length_take] at q604s; replace q604s := eq_true q604s)); replace q604 := eq_true q604))
   go_ret
   exact ⟨by first | rfl | (simp [errW_none, errW_some] <;> rfl) | (simp [*, errW_none, errW_some] <;> rfl), (kl HB)⟩
  ·rw [if_neg c3] at H
   exact absurd H (by simp)
 ·rw [if_neg c2] at H
  exact absurd H (by simp)
def gaiterref01_Room.l0 : Nat → Int → Int → Int → Int → Option (Bool)
 | 0, _, _, _, _ => none
 | k + 1, x0, x1, x5, x6 => if x6 < x1 then (gaiterref01_Room.l0 k x0 x1 (wrap64 (2 * x5)) (wrap64 (x6 + 1))) else (if x0 ≥ (wrap64 (-x5)) then (some (decide (x0 ≤ (wrap64 (x5 - 1))))) else (some false))
def gaiterref01_Room.f (k : Nat) (a0 : Int) (a1 : Int) : Option (Bool) := gaiterref01_Room.l0 k a0 a1 1 1
set_option maxHeartbeats 8000000 in
set_option maxRecDepth 100000 in
theorem gaiterref01_Room.calls (k : Nat) (a0 : Int) (a1 : Int) (r : Bool) (w : World) (h : gaiterref01_Room.f k a0 a1 = some r) :
  Calls Tryd.prog 76 #[.int .i64 a0, .int .i64 a1] w fun e w' => e = .returned (.bool r) ∧ Drawn0 w w' := by
 have H : (gaiterref01_Room.l0 k a0 a1 1 1) = some r := h; clear h; have H' := Aside0.mk H; clear H
 go_enter Tryd.func76, Tryd.ntmps76
 go_wp2
 go_loopg [5, 6] k (fun kq v5 v6 w' => ∃ (x5_1 : Int) (x6_1 : Int), v5 = .int .i64 x5_1 ∧ v6 = .int .i64 x6_1 ∧ Aside0 (gaiterref01_Room.l0 kq a0 a1 x5_1 x6_1 = some r) ∧ Aside0 (kq ≤ k) ∧ Drawn0 w w')
 case atStart => exact ⟨(1), (1), (by first | rfl | (simp; done) | (simp [*]; done)), (by first | rfl | (simp; done) | (simp [*]; done)), H', ⟨Nat.le_refl _⟩, by repeat (first | exact Drawn0.refl _ | apply Drawn0.step)⟩
 case round =>
  clear H'; (try clear p2); obtain ⟨x5_1, x6_1, rfl, rfl, HA, HK1, ⟨m1, rfl⟩⟩ := hrel
  cases gk with
  | zero => exact absurd HA.out (by simp [gaiterref01_Room.l0])
  | succ k1 =>
   have H := HA.out; clear HA; simp only [gaiterref01_Room.l0] at H
   by_cases c3 : x6_1 < a1
   ·rw [if_pos c3] at H; have c3b0 : decide (x6_1 < a1) = true := decide_eq_true c3; clear c3; have H' := Aside0.mk H; clear H
    go_wp2
    go_roundg k1
    case measure => have := HK1.out; omega
    case rel => exact ⟨(wrap64 (2 * x5_1)), (wrap64 (x6_1 + 1)), (by first | rfl | (simp; done) | (simp [*]; done)), (by first | rfl | (simp; done) | (simp [*]; done)), H', ⟨by have := HK1.out; omega⟩, by repeat (first | exact Drawn0.refl _ | apply Drawn0.step)⟩
   ·rw [if_neg c3] at H; have c3b0 : decide (x6_1 < a1) = false := decide_eq_false c3; clear c3
    by_cases c4 : a0 ≥ (wrap64 (-x5_1))
    ·rw [if_pos c4] at H; have c4b0 : decide ((wrap64 (-x5_1)) ≤ a0) = true := decide_eq_true c4; clear c4; obtain rfl := Option.some.inj H
     go_wp2
     go_ret
     exact ⟨by first | rfl | (simp; done) | (simp [*]; done), by repeat (first | exact Drawn0.refl _ | apply Drawn0.step)⟩
    ·rw [if_neg c4] at H; have c4b0 : decide ((wrap64 (-x5_1)) ≤ a0) = false := decide_eq_false c4; clear c4; obtain rfl := Option.some.inj H
     go_wp2
     go_ret
     exact ⟨by first | rfl | (simp; done) | (simp [*]; done), by repeat (first | exact Drawn0.refl _ | apply Drawn0.step)⟩
def gaiterref01_Ones.l0 : Nat → Int → Int → Option (Int)
 | 0, _, _ => none
 | k + 1, x0, x3 => if x3 < 4 then ((gaiterref01_sizes.f x3).bind fun t605 => ((gaiterref01_Room.f k x0 t605).bind fun t606 => (if t606 = true then (some x3) else (gaiterref01_Ones.l0 k x0 (wrap64 (x3 + 1)))))) else (some 4)
def gaiterref01_Ones.f (k : Nat) (a0 : Int) : Option (Int) := if a0 = 0 then (some 0) else (gaiterref01_Ones.l0 k a0 1)
set_option maxHeartbeats 8000000 in
set_option maxRecDepth 100000 in
theorem gaiterref01_Ones.calls (k : Nat) (a0 : Int) (r : Int) (w : World) (h : gaiterref01_Ones.f k a0 = some r) :
  Calls Tryd.prog 67 #[.int .i64 a0] w fun e w' => e = .returned (.int .i64 r) ∧ Below w.heap.size w w' := by
 have HB := Aside0.mk (Below.refl w.heap.size w); have H : (if a0 = 0 then (some 0) else (gaiterref01_Ones.l0 k a0 1)) = some r := h; clear h
 by_cases c2 : a0 = 0
 ·rw [if_pos c2] at H; have c2b0 : (a0 == 0) = true := beq_iff_eq.mpr c2; have c2b1 : (a0 != 0) = false := bne_eq_false_iff_eq.mpr c2; clear c2; obtain rfl := Option.some.inj H
  go_enter Tryd.func67, Tryd.ntmps67
  go_wp2
  go_ret
  exact ⟨by first | rfl | (simp [errW_none, errW_some] <;> rfl) | (simp [*, errW_none, errW_some] <;> rfl), (kl HB)⟩
 ·rw [if_neg c2] at H; have c2b0 : (a0 == 0) = false := beq_eq_false_iff_ne.mpr c2; have c2b1 : (a0 != 0) = true := bne_iff_ne.mpr c2; have H' := Aside0.mk H; clear H
  go_enter Tryd.func67, Tryd.ntmps67
  go_wp2
  go_loopg [3] k (fun kq v3 w' => ∃ (x3_1 : Int), v3 = .int .i64 x3_1 ∧ Aside0 (gaiterref01_Ones.l0 kq a0 x3_1 = some r) ∧ Aside0 (kq ≤ k) ∧ Aside0 (Below w.heap.size w w'))
  case atStart => exact ⟨(1), (by first | rfl | (simp; done) | (simp [*]; done)), H', ⟨Nat.le_refl _⟩, ⟨(kl HB)⟩⟩
  case round =>
   clear H'; (try clear c2); (try clear c2b0); (try clear c2b1); (try clear p2); obtain ⟨x3_1, rfl, HA, HK1, HB⟩ := hrel
   cases gk with
   | zero => exact absurd HA.out (by simp [gaiterref01_Ones.l0])
   | succ k1 =>
    have H := HA.out; clear HA; simp only [gaiterref01_Ones.l0] at H
    by_cases c3 : x3_1 < 4
    ·rw [if_pos c3] at H; have c3b0 : decide (x3_1 < 4) = true := decide_eq_true c3; clear c3; replace H := Option.bind_eq_some_iff.mp H; obtain ⟨t605, A40, H⟩ := H; replace H : ((gaiterref01_Room.f k1 a0 t605).bind fun t606 => (if t606 = true then (some x3_1) else (gaiterref01_Ones.l0 k1 a0 (wrap64 (x3_1 + 1))))) = some r := H; have A4 := Aside0.mk A40; clear A40; replace H := Option.bind_eq_some_iff.mp H; obtain ⟨t606, A50, H⟩ := H; replace H : (if t606 = true then (some x3_1) else (gaiterref01_Ones.l0 k1 a0 (wrap64 (x3_1 + 1)))) = some r := H; have A5 := Aside0.mk A50; clear A50
     by_cases c6 : t606 = true
     ·subst c6
      have H1 : (some x3_1) = some r := by rw [if_pos rfl] at H; exact H
      clear H; have H := H1; clear H1; obtain rfl := Option.some.inj H
      go_wp2_with (first | ((with_reducible refine gate_callee (f := 68) rfl ?_); refine goesL_ (some 13) rfl rfl Tryd.func68 (by kernel_rfl) rfl #[.int .i64 x3_1] rfl km ?_; (with_reducible refine (gaiterref01_sizes.calls x3_1 t605 _ A4.out).mono ?_); rintro e w7 ⟨rfl, hb⟩; refine ⟨_, rfl, ?_⟩; replace HB := kH HB hb; (try clear hb); (try clear hb2); (try clear hk); (try clear hi); (try clear hgw)) | ((with_reducible refine gate_callee (f := 76) rfl ?_); refine goesL_ (some 14) rfl rfl Tryd.func76 (by kernel_rfl) rfl #[.int .i64 a0, .int .i64 t605] rfl km ?_; (with_reducible refine (gaiterref01_Room.calls k1 a0 t605 true _ A5.out).mono ?_); rintro e w' ⟨rfl, ⟨nd, rfl⟩⟩; refine ⟨_, rfl, ?_⟩))
      go_ret
      exact ⟨by first | rfl | (simp [errW_none, errW_some] <;> rfl) | (simp [*, errW_none, errW_some] <;> rfl), (kl HB)⟩
     ·replace c6 := Bool.eq_false_iff.mpr c6; subst c6
      have H1 : (gaiterref01_Ones.l0 k1 a0 (wrap64 (x3_1 + 1))) = some r := by rw [if_neg (show ¬ (false = true) by decide)] at H; exact H
      clear H; have H := H1; clear H1; have H' := Aside0.mk H; clear H
      go_wp2_with (first | ((with_reducible refine gate_callee (f := 68) rfl ?_); refine goesL_ (some 13) rfl rfl Tryd.func68 (by kernel_rfl) rfl #[.int .i64 x3_1] rfl km ?_; (with_reducible refine (gaiterref01_sizes.calls x3_1 t605 _ A4.out).mono ?_); rintro e w8 ⟨rfl, hb⟩; refine ⟨_, rfl, ?_⟩; replace HB := kH HB hb; (try clear hb); (try clear hb2); (try clear hk); (try clear hi); (try clear hgw)) | ((with_reducible refine gate_callee (f := 76) rfl ?_); refine goesL_ (some 14) rfl rfl Tryd.func76 (by kernel_rfl) rfl #[.int .i64 a0, .int .i64 t605] rfl km ?_; (with_reducible refine (gaiterref01_Room.calls k1 a0 t605 false _ A5.out).mono ?_); rintro e w' ⟨rfl, ⟨nd, rfl⟩⟩; refine ⟨_, rfl, ?_⟩))
      go_roundg k1
      case measure => have := HK1.out; omega
      case rel => exact ⟨(wrap64 (x3_1 + 1)), (by first | rfl | (simp; done) | (simp [*]; done)), H', ⟨by have := HK1.out; omega⟩, ⟨(kl HB)⟩⟩
    ·rw [if_neg c3] at H; have c3b0 : decide (x3_1 < 4) = false := decide_eq_false c3; clear c3; obtain rfl := Option.some.inj H
     go_wp2
     go_ret
     exact ⟨by first | rfl | (simp [errW_none, errW_some] <;> rfl) | (simp [*, errW_none, errW_some] <;> rfl), (kl HB)⟩
def gaiterref01_Dod.l0 : Nat → Int → Int → List Int → Int → Option (List Int)
 | 0, _, _, _, _ => none
 | k + 1, x0, x3, x4, x5 => if x5 < x3 then (if x4.length < 140737488355328 then (gaiterref01_Dod.l0 k x0 x3 (x4 ++ [1]) (wrap64 (x5 + 1))) else (none)) else (if x3 < 4 then (if x4.length < 140737488355328 then ((some (x4 ++ [0] : List Int)).bind fun y611 => ((gaiterref01_sizes.f x3).bind fun t614 => ((gaiterref01_Low.f k (IntKind.u64.wrap (x0)) t614).bind fun t615 => (if y611.length + t615.length < 140737488355328 then (some (y611 ++ t615)) else (none))))) else (none)) else ((gaiterref01_sizes.f x3).bind fun t621 => ((gaiterref01_Low.f k (IntKind.u64.wrap (x0)) t621).bind fun t622 => (if x4.length + t622.length < 140737488355328 then (some (x4 ++ t622)) else (none)))))
def gaiterref01_Dod.f (k : Nat) (a0 : Int) : Option (List Int) := (gaiterref01_Ones.f k a0).bind fun t607 => (gaiterref01_Dod.l0 k a0 t607 ([] : List Int) 0)
set_option maxHeartbeats 8000000 in
set_option maxRecDepth 100000 in
theorem gaiterref01_Dod.calls (k : Nat) (a0 : Int) (r : List Int) (w : World) (h : gaiterref01_Dod.f k a0 = some r) :
  Calls Tryd.prog 57 #[.int .i64 a0] w fun e w' => ∃ v0_ : Value, e = .returned (v0_) ∧ Kd.R (Kd.int .u8) 5 w' w.heap.size (fun _ => True) v0_ r ∧ Below w.heap.size w w' := by
 have HB := Aside0.mk (Below.refl w.heap.size w); have H : ((gaiterref01_Ones.f k a0).bind fun t607 => (gaiterref01_Dod.l0 k a0 t607 ([] : List Int) 0)) = some r := h; clear h; replace H := Option.bind_eq_some_iff.mp H; obtain ⟨t607, A20, H⟩ := H; replace H : (gaiterref01_Dod.l0 k a0 t607 ([] : List Int) 0) = some r := H; have A2 := Aside0.mk A20; clear A20; have H' := Aside0.mk H; clear H
 go_enter Tryd.func57, Tryd.ntmps57
 go_wp2_with (first | ((with_reducible refine gate_callee (f := 67) rfl ?_); refine goesL_ (some 7) rfl rfl Tryd.func67 (by kernel_rfl) rfl #[.int .i64 a0] rfl km ?_; (with_reducible refine (gaiterref01_Ones.calls k a0 t607 _ A2.out).mono ?_); rintro e w3 ⟨rfl, hb⟩; refine ⟨_, rfl, ?_⟩; replace HB := kH HB hb; (try clear hb); (try clear hb2); (try clear hk); (try clear hi); (try clear hgw)))
 go_loopg [4, 5] k (fun kq v4 v5 w' => ∃ (x4_1 : List Int) (x5_1 : Int), v5 = .int .i64 x5_1 ∧ Aside0 (gaiterref01_Dod.l0 kq a0 t607 x4_1 x5_1 = some r) ∧ Aside0 (kq ≤ k) ∧ Aside0 (Kd.R (Kd.int .u8) 5 w' w.heap.size (fun _ => True) v4 x4_1) ∧ Aside0 (Below w.heap.size w w'))
 case atStart => exact ⟨(([] : List Int)), (0), (by first | rfl | (simp; done) | (simp [*]; done)), H', ⟨Nat.le_refl _⟩, ⟨by first | exact Kd.R_nil _ _ _ _ _ | exact Kd.N_nil _ _ _ _ _ | exact Kd.V_nil _ _ _ _ _ | exact Kd.Q_nil _ _ _ _ _ | exact Kd.S_nil _ _ _ _ _⟩, ⟨(kl HB)⟩⟩
 case round =>
  clear H'; (try clear p2); obtain ⟨x4_1, x5_1, rfl, HA, HK1, HO_4, HB⟩ := hrel
  cases gk with
  | zero => exact absurd HA.out (by simp [gaiterref01_Dod.l0])
  | succ k1 =>
   have H := HA.out; clear HA; simp only [gaiterref01_Dod.l0] at H
   by_cases c4 : x5_1 < t607
   ·rw [if_pos c4] at H; have c4b0 : decide (x5_1 < t607) = true := decide_eq_true c4; clear c4
    by_cases c5 : x4_1.length < 140737488355328
    ·rw [if_pos c5] at H; have LMc5 := Aside0.mk c5; clear c5; obtain ⟨y608, hy608⟩ : ∃ y_ : List Int, y_ = (x4_1 ++ [1]) := ⟨_, rfl⟩
     replace H : (gaiterref01_Dod.l0 k1 a0 t607 y608 (wrap64 (x5_1 + 1))) = some r := by first | (rw [hy608]; with_reducible exact H) | (have H2_ := (Option.bind_some _ _).symm.trans H; rw [hy608]; with_reducible exact H2_) | (have H2_ := (Option.bind_some _ _).symm.trans H; with_reducible exact H2_) | with_reducible exact H | (rw [hy608]; exact H) | exact H
     have Ny608 := Aside0.mk hy608; clear hy608; have H' := Aside0.mk H; clear H
     go_wp2_with (first | ((with_reducible refine gate_builtin (b := .append) (xs := #[.tmp 13, .tmp 14]) rfl ?_); at_builtin; refine Kd.R_append (Kd.int .u8) (w0 := w) w.heap.size rfl (.tmp 13) (.tmp 14) 25 5 (.int .u8 0) 1 rfl Tryd.underlying25 info5 rfl (by decide) (by omega) u4 x4_1 1 [.int .u8 1] (fun _ => True) (fun _ => False) rfl rfl ?aP (fun _ hk => hk.elim) ?aF ?aO ?aB ?aS ?aL ?_; (case aP => exact rfl); (case aB => exact (kl HB)); (case aF => exact (fun _ _ => trivial)); (case aO => exact (kr HO_4)); (case aS => exact (below_size (kl HB))); (case aL => have := LMc5.out; omega); intro v609 w6 ho hb hg hat; rw [← Ny608.out] at ho; have n0_ := Aside0.mk (hb); have n1_ := Aside0.mk (ho); clear HB; clear HO_4; have HB := n0_; have HO610 := n1_; clear n0_ n1_; clear ho hb hg hat))
     go_roundg k1
     case measure => have := HK1.out; omega
     case rel => exact ⟨(y608), (wrap64 (x5_1 + 1)), (by first | rfl | (simp; done) | (simp [*]; done)), H', ⟨by have := HK1.out; omega⟩, ⟨kr HO610⟩, ⟨(kl HB)⟩⟩
    ·rw [if_neg c5] at H
     exact absurd H (by simp)
   ·rw [if_neg c4] at H; have c4b0 : decide (x5_1 < t607) = false := decide_eq_false c4; clear c4
    by_cases c7 : t607 < 4
    ·rw [if_pos c7] at H; have c7b0 : decide (t607 < 4) = true := decide_eq_true c7; clear c7
     by_cases c8 : x4_1.length < 140737488355328
     ·rw [if_pos c8] at H; have LMc8 := Aside0.mk c8; clear c8; obtain ⟨y611, hy611⟩ : ∃ y_ : List Int, y_ = (x4_1 ++ [0]) := ⟨_, rfl⟩
      replace H : ((gaiterref01_sizes.f t607).bind fun t614 => ((gaiterref01_Low.f k1 (IntKind.u64.wrap (a0)) t614).bind fun t615 => (if y611.length + t615.length < 140737488355328 then (some (y611 ++ t615)) else (none)))) = some r := by first | (rw [hy611]; with_reducible exact H) | (have H2_ := (Option.bind_some _ _).symm.trans H; rw [hy611]; with_reducible exact H2_) | (have H2_ := (Option.bind_some _ _).symm.trans H; with_reducible exact H2_) | with_reducible exact H | (rw [hy611]; exact H) | exact H
      have Ny611 := Aside0.mk hy611; clear hy611; replace H := Option.bind_eq_some_iff.mp H; obtain ⟨t614, A90, H⟩ := H; replace H : ((gaiterref01_Low.f k1 (IntKind.u64.wrap (a0)) t614).bind fun t615 => (if y611.length + t615.length < 140737488355328 then (some (y611 ++ t615)) else (none))) = some r := H; have A9 := Aside0.mk A90; clear A90; replace H := Option.bind_eq_some_iff.mp H; obtain ⟨t615, A100, H⟩ := H; replace H : (if y611.length + t615.length < 140737488355328 then (some (y611 ++ t615)) else (none)) = some r := H; have A10 := Aside0.mk A100; clear A100
      by_cases c11 : y611.length + t615.length < 140737488355328
      ·rw [if_pos c11] at H; have LMc11 := Aside0.mk c11; clear c11; obtain ⟨y618, hy618⟩ : ∃ y_ : List Int, y_ = (y611 ++ t615) := ⟨_, rfl⟩
       replace H : (some y618) = some r := by first | (rw [hy618]; with_reducible exact H) | (have H2_ := (Option.bind_some _ _).symm.trans H; rw [hy618]; with_reducible exact H2_) | (have H2_ := (Option.bind_some _ _).symm.trans H; with_reducible exact H2_) | with_reducible exact H | (rw [hy618]; exact H) | exact H
       have Ny618 := Aside0.mk hy618; clear hy618; obtain rfl := Option.some.inj H
       go_wp2_with (first | ((with_reducible refine gate_builtin (b := .append) (xs := #[.tmp 18, .tmp 19]) rfl ?_); at_builtin; refine Kd.R_append (Kd.int .u8) (w0 := w) w.heap.size rfl (.tmp 18) (.tmp 19) 25 5 (.int .u8 0) 1 rfl Tryd.underlying25 info5 rfl (by decide) (by omega) u4 x4_1 0 [.int .u8 0] (fun _ => True) (fun _ => False) rfl rfl ?aP (fun _ hk => hk.elim) ?aF ?aO ?aB ?aS ?aL ?_; (case aP => exact rfl); (case aB => exact (kl HB)); (case aF => exact (fun _ _ => trivial)); (case aO => exact (kr HO_4)); (case aS => exact (below_size (kl HB))); (case aL => have := LMc8.out; omega); intro v612 w12 ho hb hg hat; rw [← Ny611.out] at ho; have n0_ := Aside0.mk (hb); have n1_ := Aside0.mk (ho); clear HB; clear HO_4; have HB := n0_; have HO613 := n1_; clear n0_ n1_; clear ho hb hg hat) | ((with_reducible refine gate_callee (f := 68) rfl ?_); refine goesL_ (some 25) rfl rfl Tryd.func68 (by kernel_rfl) rfl #[.int .i64 t607] rfl km ?_; (with_reducible refine (gaiterref01_sizes.calls t607 t614 _ A9.out).mono ?_); rintro e w13 ⟨rfl, hb⟩; refine ⟨_, rfl, ?_⟩; replace HO613 := Aside0.mk (Kd.R_below (kr HO613) hb); replace HB := kH HB hb; (try clear hb); (try clear hb2); (try clear hk); (try clear hi); (try clear hgw)) | ((with_reducible refine gate_callee (f := 46) rfl ?_); refine goesL_ (some 26) rfl rfl Tryd.func46 (by kernel_rfl) rfl #[.int .u64 (IntKind.u64.wrap (a0)), .int .i64 t614] rfl km ?_; (with_reducible refine (gaiterref01_Low.calls k1 (IntKind.u64.wrap (a0)) t614 t615 _ A10.out).mono ?_); rintro e w14 ⟨v616, rfl, ho0, hb⟩; refine ⟨_, rfl, ?_⟩; have HO617 := Aside0.mk (Kd.R_lower (Kd.R_new' ho0 (Kd.R_lt (kr HO613))) (below_size (kl HB))); replace HO613 := Aside0.mk (Kd.R_elder' (kr HO613) (Kd.R_base ho0) hb); replace HB := kH HB hb; (try clear hb); (try clear hb2); (try clear hk); (try clear hi); (try clear hgw); (try clear ho0); obtain ⟨Ao16, co16, eo16⟩ := Kd.R_slice HO617.out; subst eo16) | ((with_reducible refine gate_builtin (b := .append) (xs := #[.tmp 21, .tmp 26]) rfl ?_); at_builtin; refine Kd.R_append_rows (Kd.int .u8) (w0 := w) w.heap.size rfl (.tmp 21) (.tmp 26) 25 5 (.int .u8 0) 1 rfl Tryd.underlying25 info5 rfl (by decide) (by omega) v612 y611 t615 _ _ _ (fun k_ => some k_ ≠ (.slice Ao16 t615.length co16 : Value).ownBlock) (fun _ => False) rfl rfl ?aO ?aR (fun _ _ h => h) (fun _ h => h.elim) ?aF ?aB ?aS ?aL ?_; (case aR => repeat (first | exact (Kd.R_reads' HO617.out).2.2 | (with_reducible refine Kd.C_alloc ?_ _) | (with_reducible refine Kd.C_drewN ?_ _) | (with_reducible refine Kd.C_drew ?_))); (case aB => exact (kl HB)); (case aF => exact (fun k_ hk => Kd.fresh' (Kd.R_lt (kr HO617)) k_ hk)); (case aO => exact (by (with_reducible repeat (first | apply Kd.R_alloc | apply Kd.R_drewN | apply Kd.R_drew)); exact Kd.R_mono HO613.out (fun _ hk => hk.2))); (case aS => exact (below_size (kl HB))); (case aL => have := LMc11.out; omega); intro v619 w15 ho hb hg hat; rw [← Ny618.out] at ho; have n0_ := Aside0.mk (Kd.R_after (ok := (fun _ => True)) (kr HO617) hg hat); have n1_ := Aside0.mk (hb); have n2_ := Aside0.mk (ho); clear HO617; clear HB; clear HO613; have HO617 := n0_; have HB := n1_; have HO620 := n2_; clear n0_ n1_ n2_; clear ho hb hg hat))
       go_ret
       exact ⟨_, by first | rfl | (simp [errW_none, errW_some] <;> rfl) | (simp [*, errW_none, errW_some] <;> rfl), by (with_reducible repeat (first | apply Kd.R_alloc | apply Kd.R_drewN | apply Kd.R_drew)); exact Kd.R_mono HO620.out (fun _ hk => trivial), (kl HB)⟩
      ·rw [if_neg c11] at H
       exact absurd H (by simp)
     ·rw [if_neg c8] at H
      exact absurd H (by simp)
    ·rw [if_neg c7] at H; have c7b0 : decide (t607 < 4) = false := decide_eq_false c7; clear c7; replace H := Option.bind_eq_some_iff.mp H; obtain ⟨t621, A170, H⟩ := H; replace H : ((gaiterref01_Low.f k1 (IntKind.u64.wrap (a0)) t621).bind fun t622 => (if x4_1.length + t622.length < 140737488355328 then (some (x4_1 ++ t622)) else (none))) = some r := H; have A17 := Aside0.mk A170; clear A170; replace H := Option.bind_eq_some_iff.mp H; obtain ⟨t622, A180, H⟩ := H; replace H : (if x4_1.length + t622.length < 140737488355328 then (some (x4_1 ++ t622)) else (none)) = some r := H; have A18 := Aside0.mk A180; clear A180
     by_cases c19 : x4_1.length + t622.length < 140737488355328
     ·rw [if_pos c19] at H; have LMc19 := Aside0.mk c19; clear c19; obtain ⟨y625, hy625⟩ : ∃ y_ : List Int, y_ = (x4_1 ++ t622) := ⟨_, rfl⟩
      replace H : (some y625) = some r := by first | (rw [hy625]; with_reducible exact H) | (have H2_ := (Option.bind_some _ _).symm.trans H; rw [hy625]; with_reducible exact H2_) | (have H2_ := (Option.bind_some _ _).symm.trans H; with_reducible exact H2_) | with_reducible exact H | (rw [hy625]; exact H) | exact H
      have Ny625 := Aside0.mk hy625; clear hy625; obtain rfl := Option.some.inj H
      go_wp2_with (first | ((with_reducible refine gate_callee (f := 68) rfl ?_); refine goesL_ (some 25) rfl rfl Tryd.func68 (by kernel_rfl) rfl #[.int .i64 t607] rfl km ?_; (with_reducible refine (gaiterref01_sizes.calls t607 t621 _ A17.out).mono ?_); rintro e w20 ⟨rfl, hb⟩; refine ⟨_, rfl, ?_⟩; replace HO_4 := Aside0.mk (Kd.R_below (kr HO_4) hb); replace HB := kH HB hb; (try clear hb); (try clear hb2); (try clear hk); (try clear hi); (try clear hgw)) | ((with_reducible refine gate_callee (f := 46) rfl ?_); refine goesL_ (some 26) rfl rfl Tryd.func46 (by kernel_rfl) rfl #[.int .u64 (IntKind.u64.wrap (a0)), .int .i64 t621] rfl km ?_; (with_reducible refine (gaiterref01_Low.calls k1 (IntKind.u64.wrap (a0)) t621 t622 _ A18.out).mono ?_); rintro e w21 ⟨v623, rfl, ho0, hb⟩; refine ⟨_, rfl, ?_⟩; have HO624 := Aside0.mk (Kd.R_lower (Kd.R_new' ho0 (Kd.R_lt (kr HO_4))) (below_size (kl HB))); replace HO_4 := Aside0.mk (Kd.R_elder' (kr HO_4) (Kd.R_base ho0) hb); replace HB := kH HB hb; (try clear hb); (try clear hb2); (try clear hk); (try clear hi); (try clear hgw); (try clear ho0); obtain ⟨Ao23, co23, eo23⟩ := Kd.R_slice HO624.out; subst eo23) | ((with_reducible refine gate_builtin (b := .append) (xs := #[.tmp 21, .tmp 26]) rfl ?_); at_builtin; refine Kd.R_append_rows (Kd.int .u8) (w0 := w) w.heap.size rfl (.tmp 21) (.tmp 26) 25 5 (.int .u8 0) 1 rfl Tryd.underlying25 info5 rfl (by decide) (by omega) u4 x4_1 t622 _ _ _ (fun k_ => some k_ ≠ (.slice Ao23 t622.length co23 : Value).ownBlock) (fun _ => False) rfl rfl ?aO ?aR (fun _ _ h => h) (fun _ h => h.elim) ?aF ?aB ?aS ?aL ?_; (case aR => repeat (first | exact (Kd.R_reads' HO624.out).2.2 | (with_reducible refine Kd.C_alloc ?_ _) | (with_reducible refine Kd.C_drewN ?_ _) | (with_reducible refine Kd.C_drew ?_))); (case aB => exact (kl HB)); (case aF => exact (fun k_ hk => Kd.fresh' (Kd.R_lt (kr HO624)) k_ hk)); (case aO => exact (by (with_reducible repeat (first | apply Kd.R_alloc | apply Kd.R_drewN | apply Kd.R_drew)); exact Kd.R_mono HO_4.out (fun _ hk => hk.2))); (case aS => exact (below_size (kl HB))); (case aL => have := LMc19.out; omega); intro v626 w22 ho hb hg hat; rw [← Ny625.out] at ho; have n0_ := Aside0.mk (Kd.R_after (ok := (fun _ => True)) (kr HO624) hg hat); have n1_ := Aside0.mk (hb); have n2_ := Aside0.mk (ho); clear HO624; clear HB; clear HO_4; have HO624 := n0_; have HB := n1_; have HO627 := n2_; clear n0_ n1_ n2_; clear ho hb hg hat))
      go_ret
      exact ⟨_, by first | rfl | (simp [errW_none, errW_some] <;> rfl) | (simp [*, errW_none, errW_some] <;> rfl), by (with_reducible repeat (first | apply Kd.R_alloc | apply Kd.R_drewN | apply Kd.R_drew)); exact Kd.R_mono HO627.out (fun _ hk => trivial), (kl HB)⟩
     ·rw [if_neg c19] at H
      exact absurd H (by simp)
end Go.Proofs.YtiahbcaoikoogaaDoor.All
