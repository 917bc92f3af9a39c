-- copied by a program of the session
import Derived.Test.YtiahbcaoikoogaaDoorKtAllx14
namespace Go.Proofs.YtiahbcaoikoogaaDoor.All
open Go.RowKit Go.Proofs.YtiahbcaoikoogaaDoorW.PrintWords Go.Proofs.YtiahbcaoikoogaaDoorW.PrintLast Go.Proofs.YtiahbcaoikoogaaDoorW.PrintMore
attribute [local go_sem] A2f A2g A2w A2x A18 A19 A2h A2i
set_option linter.unusedVariables false
set_option linter.unusedSimpArgs false
def A1i.f (a0 : Int) : Option (Int) := (some (([0, 7, 9, 12, 64] : List Int) : List Int)).bind fun aa => (if 0 ≤ a0 then (if a0 < (aa.length : Int) then (some (rd aa a0)) else (none)) else (none))
set_option maxHeartbeats 8000000 in
set_option maxRecDepth 100000 in
theorem A1i.calls (a0 : Int) (r : Int) (w : World) (h : A1i.f a0 = some r) :
  Calls Tryd.prog 68 #[.int .i64 a0] w fun e w' => e = .returned (.int .i64 r) ∧ Below w.heap.size w w' := by
 have HB := ak (Below.refl w.heap.size w); have H : ((some (([0, 7, 9, 12, 64] : List Int) : List Int)).bind fun aa => (if 0 ≤ a0 then (if a0 < (aa.length : Int) then (some (rd aa a0)) else (none)) else (none))) = some r := h; clear h; obtain ⟨aa, ac⟩ : ∃ y_ : List Int, y_ = (([0, 7, 9, 12, 64] : List Int)) := ⟨_, rfl⟩
 replace H : (if 0 ≤ a0 then (if a0 < (aa.length : Int) then (some (rd aa a0)) else (none)) else (none)) = some r := by first | (rw [ac]; with_reducible exact H) | (have H2_ := (Option.bind_some _ _).symm.trans H; rw [ac]; with_reducible exact H2_) | (have H2_ := (Option.bind_some _ _).symm.trans H; with_reducible exact H2_) | with_reducible exact H | (rw [ac]; exact H) | exact H
 have af := ak ac; clear ac
 by_cases c2 : 0 ≤ a0
 ·rw [if_pos c2] at H; have am : decide (0 ≤ a0) = true := decide_eq_true c2; clear c2
  by_cases c3 : a0 < (aa.length : Int)
  ·rw [if_pos c3] at H; have an : decide (a0 < (aa.length : Int)) = true := decide_eq_true c3; clear c3; obtain rfl := Option.some.inj H
   go_enter Tryd.func68, Tryd.ntmps68
   go_wp2_with (first | ((with_reducible refine A0q (N := 3) rfl ?_); refine Kd.R_lit (Kd.int .i64) _ 3 ?hg (N := 3) ?hd (xs := ([0, 7, 9, 12, 64] : List Int)) (inner := [.int .i64 0, .int .i64 7, .int .i64 9, .int .i64 12, .int .i64 64]) (ok := fun _ => True) (okp := fun _ => True) ?hr ?hp (fun _ hk => hk) trivial (Below.refl _ _) (Nat.le_refl _) (by simp) ?_; (case hd => rfl); (case hg => rfl); (case hr => first | (go_simp; done) | (go_simp; rfl)); (case hp => exact (Reps.one (show Kd.M (Kd.int .i64) _ _ _ 0 [.int .i64 0] from rfl) (Reps.one (show Kd.M (Kd.int .i64) _ _ _ 7 [.int .i64 7] from rfl) (Reps.one (show Kd.M (Kd.int .i64) _ _ _ 9 [.int .i64 9] from rfl) (Reps.one (show Kd.M (Kd.int .i64) _ _ _ 12 [.int .i64 12] from rfl) (Reps.one (show Kd.M (Kd.int .i64) _ _ _ 64 [.int .i64 64] from rfl) (Reps.none _ _))))))); intro ao w4 ho5 hb hg_ hnew_; clear hg_ hnew_; (first | rw [← af.out] at ho5 | (simp only [Int.reduceToNat] at ho5; rw [← af.out] at ho5)); have ag := ak (Kd.A1t ho5 (A0n (kl HB))); replace HB := kH HB hb; clear hb ho5; obtain ⟨aq, ar, ap⟩ := Kd.A1w ag.out; subst ap; have ah : 0 ≤ (a0 : Int) := kD; have ae : a0 < (aa.length : Int) := kD; obtain ⟨al, aj, ai⟩ := Kd.A33 (Kd.A06 ag.out).2.2 a0 ah ae; cases aj; replace ah := eq_true ah; (try (have ad := ae; simp only [List.length_drop, List.length_take] at ad; replace ad := eq_true ad)); replace ae := eq_true ae))
   go_ret
   exact ⟨kF, (kl HB)⟩
  ·rw [if_neg c3] at H
   exact absurd H (by simp)
 ·rw [if_neg c2] at H
  exact absurd H (by simp)
def A12.l0 : Nat → Int → Int → Int → Int → Option (Bool)
 | 0, _, _, _, _ => none
 | k + 1, x0, x1, x5, x6 => if x6 < x1 then (A12.l0 k x0 x1 (wrap64 (2 * x5)) (wrap64 (x6 + 1))) else (if x0 ≥ (wrap64 (-x5)) then (some (decide (x0 ≤ (wrap64 (x5 - 1))))) else (some false))
def A12.f (k : Nat) (a0 : Int) (a1 : Int) : Option (Bool) := A12.l0 k a0 a1 1 1
set_option maxHeartbeats 8000000 in
set_option maxRecDepth 100000 in
theorem A12.calls (k : Nat) (a0 : Int) (a1 : Int) (r : Bool) (w : World) (h : A12.f k a0 a1 = some r) :
  Calls Tryd.prog 76 #[.int .i64 a0, .int .i64 a1] w fun e w' => e = .returned (.bool r) ∧ A1c w w' := by
 have H : (A12.l0 k a0 a1 1 1) = some r := h; clear h; have H' := ak H; clear H
 go_enter Tryd.func76, Tryd.ntmps76
 go_wp2
 go_loopg [5, 6] k (fun kq v5 v6 w' => ∃ (x5_1 : Int) (x6_1 : Int), v5 = .int .i64 x5_1 ∧ v6 = .int .i64 x6_1 ∧ A0b (A12.l0 kq a0 a1 x5_1 x6_1 = some r) ∧ A0b (kq ≤ k) ∧ A1c w w')
 case atStart => exact ⟨(1), (1), kE, kE, H', ⟨Nat.le_refl _⟩, by repeat (first | exact A1c.refl _ | apply A1c.step)⟩
 case round =>
  clear H'; obtain ⟨x5_1, x6_1, rfl, rfl, HA, ad, ⟨m1, rfl⟩⟩ := hrel
  cases gk with
  | zero => exact absurd HA.out (by simp [A12.l0])
  | succ k1 =>
   have H := HA.out; clear HA; simp only [A12.l0] at H
   by_cases c3 : x6_1 < a1
   ·rw [if_pos c3] at H; have aa : decide (x6_1 < a1) = true := decide_eq_true c3; clear c3; have H' := ak H; clear H
    go_wp2
    go_roundg k1
    case measure => have := ad.out; omega
    case rel => exact ⟨(wrap64 (2 * x5_1)), (wrap64 (x6_1 + 1)), kE, kE, H', ⟨by have := ad.out; omega⟩, by repeat (first | exact A1c.refl _ | apply A1c.step)⟩
   ·rw [if_neg c3] at H; have aa : decide (x6_1 < a1) = false := decide_eq_false c3; clear c3
    by_cases c4 : a0 ≥ (wrap64 (-x5_1))
    ·rw [if_pos c4] at H; have ac : decide ((wrap64 (-x5_1)) ≤ a0) = true := decide_eq_true c4; clear c4; obtain rfl := Option.some.inj H
     go_wp2
     go_ret
     exact ⟨by first | rfl | (simp; done) | (simp [*]; done), by repeat (first | exact A1c.refl _ | apply A1c.step)⟩
    ·rw [if_neg c4] at H; have ac : decide ((wrap64 (-x5_1)) ≤ a0) = false := decide_eq_false c4; clear c4; obtain rfl := Option.some.inj H
     go_wp2
     go_ret
     exact ⟨by first | rfl | (simp; done) | (simp [*]; done), by repeat (first | exact A1c.refl _ | apply A1c.step)⟩
def A1m.l0 : Nat → Int → Int → Option (Int)
 | 0, _, _ => none
 | k + 1, x0, x3 => if x3 < 4 then ((A1i.f x3).bind fun aa => ((A12.f k x0 aa).bind fun ac => (if ac = true then (some x3) else (A1m.l0 k x0 (wrap64 (x3 + 1)))))) else (some 4)
def A1m.f (k : Nat) (a0 : Int) : Option (Int) := if a0 = 0 then (some 0) else (A1m.l0 k a0 1)
set_option maxHeartbeats 8000000 in
set_option maxRecDepth 100000 in
theorem A1m.calls (k : Nat) (a0 : Int) (r : Int) (w : World) (h : A1m.f k a0 = some r) :
  Calls Tryd.prog 67 #[.int .i64 a0] w fun e w' => e = .returned (.int .i64 r) ∧ Below w.heap.size w w' := by
 have HB := ak (Below.refl w.heap.size w); have H : (if a0 = 0 then (some 0) else (A1m.l0 k a0 1)) = some r := h; clear h
 by_cases c2 : a0 = 0
 ·rw [if_pos c2] at H; obtain ⟨ad, ae⟩ := kqT c2; clear c2; obtain rfl := Option.some.inj H
  go_enter Tryd.func67, Tryd.ntmps67
  go_wp2
  go_ret
  exact ⟨kF, (kl HB)⟩
 ·rw [if_neg c2] at H; obtain ⟨ad, ae⟩ := kqF c2; have H' := ak H; clear H
  go_enter Tryd.func67, Tryd.ntmps67
  go_wp2
  go_loopg [3] k (fun kq v3 w' => ∃ (aa : Int), v3 = .int .i64 aa ∧ A0b (A1m.l0 kq a0 aa = some r) ∧ A0b (kq ≤ k) ∧ A0b (Below w.heap.size w w'))
  case atStart => exact ⟨(1), kE, H', ⟨Nat.le_refl _⟩, ⟨(kl HB)⟩⟩
  case round =>
   clear H'; (try clear c2); (try clear ad); (try clear ae); obtain ⟨aa, rfl, HA, ah, HB⟩ := hrel
   cases gk with
   | zero => exact absurd HA.out (by simp [A1m.l0])
   | succ k1 =>
    have H := HA.out; clear HA; simp only [A1m.l0] at H
    by_cases c3 : aa < 4
    ·rw [if_pos c3] at H; have af : decide (aa < 4) = true := decide_eq_true c3; clear c3; replace H := bkH H; obtain ⟨ac, A4, H⟩ := H; replace H := bkH H; obtain ⟨ag, A5, H⟩ := H
     by_cases c6 : ag = true
     ·subst c6
      rw [if_pos rfl] at H; obtain rfl := Option.some.inj H
      go_wp2_with (first | ((with_reducible refine A0h (f := 68) rfl ?_); refine A1b (some 13) rfl rfl Tryd.func68 (by kernel_rfl) rfl #[.int .i64 aa] rfl km ?_; (with_reducible refine (A1i.calls aa ac _ A4.out).mono ?_); rintro e w7 ⟨rfl, hb⟩; refine ⟨_, rfl, ?_⟩; replace HB := kH HB hb; (try clear hb); ) | ((with_reducible refine A0h (f := 76) rfl ?_); refine A1b (some 14) rfl rfl Tryd.func76 (by kernel_rfl) rfl #[.int .i64 a0, .int .i64 ac] rfl km ?_; (with_reducible refine (A12.calls k1 a0 ac true _ A5.out).mono ?_); rintro e w' ⟨rfl, ⟨nd, rfl⟩⟩; refine ⟨_, rfl, ?_⟩))
      go_ret
      exact ⟨kF, (kl HB)⟩
     ·replace c6 := Bool.eq_false_iff.mpr c6; subst c6
      rw [if_neg (show ¬ (false = true) by decide)] at H; have H' := ak H; clear H
      go_wp2_with (first | ((with_reducible refine A0h (f := 68) rfl ?_); refine A1b (some 13) rfl rfl Tryd.func68 (by kernel_rfl) rfl #[.int .i64 aa] rfl km ?_; (with_reducible refine (A1i.calls aa ac _ A4.out).mono ?_); rintro e w8 ⟨rfl, hb⟩; refine ⟨_, rfl, ?_⟩; replace HB := kH HB hb; (try clear hb); ) | ((with_reducible refine A0h (f := 76) rfl ?_); refine A1b (some 14) rfl rfl Tryd.func76 (by kernel_rfl) rfl #[.int .i64 a0, .int .i64 ac] rfl km ?_; (with_reducible refine (A12.calls k1 a0 ac false _ A5.out).mono ?_); rintro e w' ⟨rfl, ⟨nd, rfl⟩⟩; refine ⟨_, rfl, ?_⟩))
      go_roundg k1
      case measure => have := ah.out; omega
      case rel => exact ⟨(wrap64 (aa + 1)), kE, H', ⟨by have := ah.out; omega⟩, ⟨(kl HB)⟩⟩
    ·rw [if_neg c3] at H; have af : decide (aa < 4) = false := decide_eq_false c3; clear c3; obtain rfl := Option.some.inj H
     go_wp2
     go_ret
     exact ⟨kF, (kl HB)⟩
def A09.l0 : Nat → Int → Int → List Int → Int → Option (List Int)
 | 0, _, _, _, _ => none
 | k + 1, x0, x3, x4, x5 => if x5 < x3 then (if x4.length < 140737488355328 then (A09.l0 k x0 x3 (x4 ++ [1]) (wrap64 (x5 + 1))) else (none)) else (if x3 < 4 then (if x4.length < 140737488355328 then ((some (x4 ++ [0] : List Int)).bind fun aa => ((A1i.f x3).bind fun ae => ((A00.f k (IntKind.u64.wrap (x0)) ae).bind fun ac => (if aa.length + ac.length < 140737488355328 then (some (aa ++ ac)) else (none))))) else (none)) else ((A1i.f x3).bind fun af => ((A00.f k (IntKind.u64.wrap (x0)) af).bind fun ad => (if x4.length + ad.length < 140737488355328 then (some (x4 ++ ad)) else (none)))))
def A09.f (k : Nat) (a0 : Int) : Option (List Int) := (A1m.f k a0).bind fun aa => (A09.l0 k a0 aa ([] : List Int) 0)
set_option maxHeartbeats 8000000 in
set_option maxRecDepth 100000 in
theorem A09.calls (k : Nat) (a0 : Int) (r : List Int) (w : World) (h : A09.f k a0 = some r) :
  Calls Tryd.prog 57 #[.int .i64 a0] w fun e w' => ∃ aI : Value, e = .returned (aI) ∧ Kd.R (Kd.int .u8) 5 w' w.heap.size (fun _ => True) aI r ∧ Below w.heap.size w w' := by
 have HB := ak (Below.refl w.heap.size w); have H : ((A1m.f k a0).bind fun aa => (A09.l0 k a0 aa ([] : List Int) 0)) = some r := h; clear h; replace H := bkH H; obtain ⟨aa, A2, H⟩ := H; have H' := ak H; clear H
 go_enter Tryd.func57, Tryd.ntmps57
 go_wp2_with (first | ((with_reducible refine A0h (f := 67) rfl ?_); refine A1b (some 7) rfl rfl Tryd.func67 (by kernel_rfl) rfl #[.int .i64 a0] rfl km ?_; (with_reducible refine (A1m.calls k a0 aa _ A2.out).mono ?_); rintro e w3 ⟨rfl, hb⟩; refine ⟨_, rfl, ?_⟩; replace HB := kH HB hb; (try clear hb); ))
 go_loopg [4, 5] k (fun kq v4 v5 w' => ∃ (x4_1 : List Int) (x5_1 : Int), v5 = .int .i64 x5_1 ∧ A0b (A09.l0 kq a0 aa x4_1 x5_1 = some r) ∧ A0b (kq ≤ k) ∧ A0b (Kd.R (Kd.int .u8) 5 w' w.heap.size (fun _ => True) v4 x4_1) ∧ A0b (Below w.heap.size w w'))
 case atStart => exact ⟨(([] : List Int)), (0), kE, H', ⟨Nat.le_refl _⟩, ⟨by first | exact Kd.R_nil _ _ _ _ _ | exact Kd.N_nil _ _ _ _ _ | exact Kd.V_nil _ _ _ _ _ | exact Kd.Q_nil _ _ _ _ _ | exact Kd.S_nil _ _ _ _ _⟩, ⟨(kl HB)⟩⟩
 case round =>
  clear H'; obtain ⟨x4_1, x5_1, rfl, HA, aJ, HO_4, HB⟩ := hrel
  cases gk with
  | zero => exact absurd HA.out (by simp [A09.l0])
  | succ k1 =>
   have H := HA.out; clear HA; simp only [A09.l0] at H
   by_cases c4 : x5_1 < aa
   ·rw [if_pos c4] at H; have a5 : decide (x5_1 < aa) = true := decide_eq_true c4; clear c4
    by_cases c5 : x4_1.length < 140737488355328
    ·rw [if_pos c5] at H; have LMc5 := ak c5; clear c5; obtain ⟨ar, af⟩ : ∃ y_ : List Int, y_ = (x4_1 ++ [1]) := ⟨_, rfl⟩
     replace H : (A09.l0 k1 a0 aa ar (wrap64 (x5_1 + 1))) = some r := by first | (rw [af]; with_reducible exact H) | (have H2_ := (Option.bind_some _ _).symm.trans H; rw [af]; with_reducible exact H2_) | (have H2_ := (Option.bind_some _ _).symm.trans H; with_reducible exact H2_) | with_reducible exact H | (rw [af]; exact H) | exact H
     have au := ak af; clear af; have H' := ak H; clear H
     go_wp2_with (first | ((with_reducible refine A3d (b := .append) (xs := #[.tmp 13, .tmp 14]) rfl ?_); at_builtin; refine Kd.R_append (Kd.int .u8) (w0 := w) w.heap.size rfl (.tmp 13) (.tmp 14) 25 5 (.int .u8 0) 1 rfl Tryd.underlying25 info5 rfl (by decide) (by omega) u4 x4_1 1 [.int .u8 1] (fun _ => True) (fun _ => False) rfl rfl ?aP (fun _ hk => hk.elim) ?aF ?aO ?aB ?aS ?aL ?_; (case aP => exact rfl); (case aB => exact (kl HB)); (case aF => exact (fun _ _ => trivial)); (case aO => exact (kr HO_4)); (case aS => exact (A0n (kl HB))); (case aL => have := LMc5.out; omega); intro aK w6 ho hb hg hat; rw [← au.out] at ho; have al := ak (hb); have am := ak (ho); clear HB; clear HO_4; have HB := al; have av := am; clear al am; clear ho hb hg hat))
     go_roundg k1
     case measure => have := aJ.out; omega
     case rel => exact ⟨(ar), (wrap64 (x5_1 + 1)), kE, H', ⟨by have := aJ.out; omega⟩, ⟨kr av⟩, ⟨(kl HB)⟩⟩
    ·rw [if_neg c5] at H
     exact absurd H (by simp)
   ·rw [if_neg c4] at H; have a5 : decide (x5_1 < aa) = false := decide_eq_false c4; clear c4
    by_cases c7 : aa < 4
    ·rw [if_pos c7] at H; have a6 := decide_eq_true c7; clear c7
     by_cases c8 : x4_1.length < 140737488355328
     ·rw [if_pos c8] at H; have LMc8 := ak c8; clear c8; obtain ⟨an, ag⟩ : ∃ y_ : List Int, y_ = (x4_1 ++ [0]) := ⟨_, rfl⟩
      replace H : ((A1i.f aa).bind fun ao => ((A00.f k1 (IntKind.u64.wrap (a0)) ao).bind fun ah => (if an.length + ah.length < 140737488355328 then (some (an ++ ah)) else (none)))) = some r := by first | (rw [ag]; with_reducible exact H) | (have H2_ := (Option.bind_some _ _).symm.trans H; rw [ag]; with_reducible exact H2_) | (have H2_ := (Option.bind_some _ _).symm.trans H; with_reducible exact H2_) | with_reducible exact H | (rw [ag]; exact H) | exact H
      have aw := ak ag; clear ag; replace H := bkH H; obtain ⟨ao, A9, H⟩ := H; replace H := bkH H; obtain ⟨ah, aM, H⟩ := H
      by_cases a3 : an.length + ah.length < 140737488355328
      ·rw [if_pos a3] at H; have LMc11 := ak a3; clear a3; obtain ⟨a7, ai⟩ : ∃ y_ : List Int, y_ = (an ++ ah) := ⟨_, rfl⟩
       replace H : (some a7) = some r := by first | (rw [ai]; with_reducible exact H) | (have H2_ := (Option.bind_some _ _).symm.trans H; rw [ai]; with_reducible exact H2_) | (have H2_ := (Option.bind_some _ _).symm.trans H; with_reducible exact H2_) | with_reducible exact H | (rw [ai]; exact H) | exact H
       have ax := ak ai; clear ai; obtain rfl := Option.some.inj H
       go_wp2_with (first | ((with_reducible refine A3d (b := .append) (xs := #[.tmp 18, .tmp 19]) rfl ?_); at_builtin; refine Kd.R_append (Kd.int .u8) (w0 := w) w.heap.size rfl (.tmp 18) (.tmp 19) 25 5 (.int .u8 0) 1 rfl Tryd.underlying25 info5 rfl (by decide) (by omega) u4 x4_1 0 [.int .u8 0] (fun _ => True) (fun _ => False) rfl rfl ?aP (fun _ hk => hk.elim) ?aF ?aO ?aB ?aS ?aL ?_; (case aP => exact rfl); (case aB => exact (kl HB)); (case aF => exact (fun _ _ => trivial)); (case aO => exact (kr HO_4)); (case aS => exact (A0n (kl HB))); (case aL => have := LMc8.out; omega); intro a8 aX ho hb hg hat; rw [← aw.out] at ho; have al := ak (hb); have am := ak (ho); clear HB; clear HO_4; have HB := al; have ac := am; clear al am; clear ho hb hg hat) | ((with_reducible refine A0h (f := 68) rfl ?_); refine A1b (some 25) rfl rfl Tryd.func68 (by kernel_rfl) rfl #[.int .i64 aa] rfl km ?_; (with_reducible refine (A1i.calls aa ao _ A9.out).mono ?_); rintro e aY ⟨rfl, hb⟩; refine ⟨_, rfl, ?_⟩; replace ac := ak (Kd.A1r (kr ac) hb); replace HB := kH HB hb; (try clear hb); (try clear hk); ) | ((with_reducible refine A0h (f := 46) rfl ?_); refine A1b (some 26) rfl rfl Tryd.func46 (by kernel_rfl) rfl #[.int .u64 (IntKind.u64.wrap (a0)), .int .i64 ao] rfl km ?_; (with_reducible refine (A00.calls k1 (IntKind.u64.wrap (a0)) ao ah _ aM.out).mono ?_); rintro e aZ ⟨aN, rfl, ho0, hb⟩; refine ⟨_, rfl, ?_⟩; have ad := ak (Kd.A1t (Kd.A24 ho0 (Kd.R_lt (kr ac))) (A0n (kl HB))); replace ac := ak (Kd.A16 (kr ac) (Kd.A21 ho0) hb); replace HB := kH HB hb; (try clear hb); (try clear hk); (try clear ho0); obtain ⟨a9, aA, aC⟩ := Kd.A1w ad.out; subst aC) | ((with_reducible refine A3d (b := .append) (xs := #[.tmp 21, .tmp 26]) rfl ?_); at_builtin; refine Kd.A32 (Kd.int .u8) (w0 := w) w.heap.size rfl (.tmp 21) (.tmp 26) 25 5 (.int .u8 0) 1 rfl Tryd.underlying25 info5 rfl (by decide) (by omega) a8 an ah _ _ _ (fun k_ => some k_ ≠ (.slice a9 ah.length aA : Value).ownBlock) (fun _ => False) rfl rfl ?aO ?aR (fun _ _ h => h) (fun _ h => h.elim) ?aF ?aB ?aS ?aL ?_; (case aR => repeat (first | exact (Kd.A06 ad.out).2.2 | (with_reducible refine Kd.A1e ?_ _) | (with_reducible refine Kd.A1d ?_ _) | (with_reducible refine Kd.A1v ?_))); (case aB => exact (kl HB)); (case aF => exact (fun k_ hk => Kd.fresh' (Kd.R_lt (kr ad)) k_ hk)); (case aO => exact (by (with_reducible repeat (first | apply Kd.A04 | apply Kd.A05 | apply Kd.A0z)); exact Kd.A1g ac.out (fun _ hk => hk.2))); (case aS => exact (A0n (kl HB))); (case aL => have := LMc11.out; omega); intro aQ ba ho hb hg hat; rw [← ax.out] at ho; have al := ak (Kd.A3x (ok := (fun _ => True)) (kr ad) hg hat); have am := ak (hb); have ay := ak (ho); clear ad; clear HB; clear ac; have ad := al; have HB := am; have az := ay; clear al am ay; clear ho hb hg hat))
       go_ret
       exact ⟨_, kF, by (with_reducible repeat (first | apply Kd.A04 | apply Kd.A05 | apply Kd.A0z)); exact Kd.A1g az.out (fun _ hk => trivial), (kl HB)⟩
      ·rw [if_neg a3] at H
       exact absurd H (by simp)
     ·rw [if_neg c8] at H
      exact absurd H (by simp)
    ·rw [if_neg c7] at H; have a6 := decide_eq_false c7; clear c7; replace H := bkH H; obtain ⟨aq, aT, H⟩ := H; replace H := bkH H; obtain ⟨ap, aU, H⟩ := H
     by_cases a4 : x4_1.length + ap.length < 140737488355328
     ·rw [if_pos a4] at H; have LMc19 := ak a4; clear a4; obtain ⟨aD, aj⟩ : ∃ y_ : List Int, y_ = (x4_1 ++ ap) := ⟨_, rfl⟩
      replace H : (some aD) = some r := by first | (rw [aj]; with_reducible exact H) | (have H2_ := (Option.bind_some _ _).symm.trans H; rw [aj]; with_reducible exact H2_) | (have H2_ := (Option.bind_some _ _).symm.trans H; with_reducible exact H2_) | with_reducible exact H | (rw [aj]; exact H) | exact H
      have a1 := ak aj; clear aj; obtain rfl := Option.some.inj H
      go_wp2_with (first | ((with_reducible refine A0h (f := 68) rfl ?_); refine A1b (some 25) rfl rfl Tryd.func68 (by kernel_rfl) rfl #[.int .i64 aa] rfl km ?_; (with_reducible refine (A1i.calls aa aq _ aT.out).mono ?_); rintro e bb ⟨rfl, hb⟩; refine ⟨_, rfl, ?_⟩; replace HO_4 := ak (Kd.A1r (kr HO_4) hb); replace HB := kH HB hb; (try clear hb); ) | ((with_reducible refine A0h (f := 46) rfl ?_); refine A1b (some 26) rfl rfl Tryd.func46 (by kernel_rfl) rfl #[.int .u64 (IntKind.u64.wrap (a0)), .int .i64 aq] rfl km ?_; (with_reducible refine (A00.calls k1 (IntKind.u64.wrap (a0)) aq ap _ aU.out).mono ?_); rintro e bc ⟨aV, rfl, ho0, hb⟩; refine ⟨_, rfl, ?_⟩; have ae := ak (Kd.A1t (Kd.A24 ho0 (Kd.R_lt (kr HO_4))) (A0n (kl HB))); replace HO_4 := ak (Kd.A16 (kr HO_4) (Kd.A21 ho0) hb); replace HB := kH HB hb; (try clear hb); (try clear ho0); obtain ⟨aE, aG, aH⟩ := Kd.A1w ae.out; subst aH) | ((with_reducible refine A3d (b := .append) (xs := #[.tmp 21, .tmp 26]) rfl ?_); at_builtin; refine Kd.A32 (Kd.int .u8) (w0 := w) w.heap.size rfl (.tmp 21) (.tmp 26) 25 5 (.int .u8 0) 1 rfl Tryd.underlying25 info5 rfl (by decide) (by omega) u4 x4_1 ap _ _ _ (fun k_ => some k_ ≠ (.slice aE ap.length aG : Value).ownBlock) (fun _ => False) rfl rfl ?aO ?aR (fun _ _ h => h) (fun _ h => h.elim) ?aF ?aB ?aS ?aL ?_; (case aR => repeat (first | exact (Kd.A06 ae.out).2.2 | (with_reducible refine Kd.A1e ?_ _) | (with_reducible refine Kd.A1d ?_ _) | (with_reducible refine Kd.A1v ?_))); (case aB => exact (kl HB)); (case aF => exact (fun k_ hk => Kd.fresh' (Kd.R_lt (kr ae)) k_ hk)); (case aO => exact (by (with_reducible repeat (first | apply Kd.A04 | apply Kd.A05 | apply Kd.A0z)); exact Kd.A1g HO_4.out (fun _ hk => hk.2))); (case aS => exact (A0n (kl HB))); (case aL => have := LMc19.out; omega); intro aW be ho hb hg hat; rw [← a1.out] at ho; have al := ak (Kd.A3x (ok := (fun _ => True)) (kr ae) hg hat); have am := ak (hb); have ay := ak (ho); clear ae; clear HB; clear HO_4; have ae := al; have HB := am; have a2 := ay; clear al am ay; clear ho hb hg hat))
      go_ret
      exact ⟨_, kF, by (with_reducible repeat (first | apply Kd.A04 | apply Kd.A05 | apply Kd.A0z)); exact Kd.A1g a2.out (fun _ hk => trivial), (kl HB)⟩
     ·rw [if_neg a4] at H
      exact absurd H (by simp)
end Go.Proofs.YtiahbcaoikoogaaDoor.All
