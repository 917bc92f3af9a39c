-- copied by a program of the session
import Derived.Test.YtiahbcaoikoogabDoorKnAllx3
namespace Go.Proofs.YtiahbcaoikoogabDoor.All
open Go.RowKit Go.Proofs.YtiahbcaoikoogabDoorW.PrintWords Go.Proofs.YtiahbcaoikoogabDoorW.PrintLast Go.Proofs.YtiahbcaoikoogabDoorW.PrintMore
attribute [local go_sem] A2m A2n A25 A26 A2b A2c A2o A2p
set_option linter.unusedVariables false
set_option linter.unusedSimpArgs false
def A2y.f (a0 : Int) : Option (Int) := if a0 = 1 then (some 7) else (if a0 = 2 then (some 9) else (if a0 = 3 then (some 12) else (if a0 = 4 then (some 64) else (some 0))))
set_option maxHeartbeats 8000000 in
set_option maxRecDepth 100000 in
theorem A2y.calls (a0 : Int) (r : Int) (w : World) (h : A2y.f a0 = some r) :
  Calls Tryd.prog 49 #[.int .i64 a0] w fun e w' => e = .returned (.int .i64 r) ∧ A1i w w' := by
 have H : (if a0 = 1 then (some 7) else (if a0 = 2 then (some 9) else (if a0 = 3 then (some 12) else (if a0 = 4 then (some 64) else (some 0))))) = some r := h; clear h
 by_cases c2 : a0 = 1
 ·rw [if_pos c2] at H; obtain ⟨aa, ac⟩ := kqT c2; clear c2; obtain rfl := Option.some.inj H
  go_enter Tryd.func49, Tryd.ntmps49
  go_wp2
  go_ret
  exact ⟨by first | rfl | (simp; done) | (simp [*]; done), by repeat (first | exact A1i.refl _ | apply A1i.step)⟩
 ·rw [if_neg c2] at H; obtain ⟨aa, ac⟩ := kqF c2
  by_cases c3 : a0 = 2
  ·rw [if_pos c3] at H; obtain ⟨ad, ae⟩ := kqT c3; clear c3; obtain rfl := Option.some.inj H
   go_enter Tryd.func49, Tryd.ntmps49
   go_wp2
   go_ret
   exact ⟨by first | rfl | (simp; done) | (simp [*]; done), by repeat (first | exact A1i.refl _ | apply A1i.step)⟩
  ·rw [if_neg c3] at H; obtain ⟨ad, ae⟩ := kqF c3
   by_cases c4 : a0 = 3
   ·rw [if_pos c4] at H; obtain ⟨af, ag⟩ := kqT c4; clear c4; obtain rfl := Option.some.inj H
    go_enter Tryd.func49, Tryd.ntmps49
    go_wp2
    go_ret
    exact ⟨by first | rfl | (simp; done) | (simp [*]; done), by repeat (first | exact A1i.refl _ | apply A1i.step)⟩
   ·rw [if_neg c4] at H; obtain ⟨af, ag⟩ := kqF c4
    by_cases c5 : a0 = 4
    ·rw [if_pos c5] at H; obtain ⟨ah, ai⟩ := kqT c5; clear c5; obtain rfl := Option.some.inj H
     go_enter Tryd.func49, Tryd.ntmps49
     go_wp2
     go_ret
     exact ⟨by first | rfl | (simp; done) | (simp [*]; done), by repeat (first | exact A1i.refl _ | apply A1i.step)⟩
    ·rw [if_neg c5] at H; obtain ⟨ah, ai⟩ := kqF c5; obtain rfl := Option.some.inj H
     go_enter Tryd.func49, Tryd.ntmps49
     go_wp2
     go_ret
     exact ⟨by first | rfl | (simp; done) | (simp [*]; done), by repeat (first | exact A1i.refl _ | apply A1i.step)⟩
def A1q.l0 : Nat → Int → Int → Option (Int)
 | 0, _, _ => none
 | k + 1, x0, x3 => if x3 < 4 then ((A2y.f x3).bind fun aa => (if 0 ≤ (wrap64 (aa - 1)) then (if x0 ≥ (wrap64 (-(shl .i64 1 (wrap64 (aa - 1))))) then (if x0 < (shl .i64 1 (wrap64 (aa - 1))) then (some x3) else (A1q.l0 k x0 (wrap64 (x3 + 1)))) else (A1q.l0 k x0 (wrap64 (x3 + 1)))) else (none))) else (some 4)
def A1q.f (k : Nat) (a0 : Int) : Option (Int) := if a0 = 0 then (some 0) else (A1q.l0 k a0 1)
theorem A1q.A3f : ∀ k, (∀ y0 y1, LeO (A1q.l0 k y0 y1) (A1q.l0 (k + 1) y0 y1))
 | 0 => fun _ _ r h => by simp [A1q.l0] at h
 | k + 1 => by
  have ih0 := A1q.A3f k <;> intros <;> (first | unfold A1q.l0) <;> (
   repeat' first
   | (with_reducible exact ih0 _ _)
   | (with_reducible exact LeO.refl _)
   | (with_reducible exact LeO.none _)
   | (with_reducible refine LeO.ite ?_ ?_)
   | (with_reducible refine LeO.bind ?_ (fun _ => ?_))
   | exact ih0 _ _
   | exact LeO.none _
   | refine LeO.ite ?_ ?_
   | refine LeO.bind ?_ (fun _ => ?_))
theorem A1q.mono : ∀ a0 k, LeO (A1q.f k a0) (A1q.f (k + 1) a0) := by
 intro a0 k
 have ih0 := A1q.A3f k
 unfold A1q.f
 repeat' first
   | (with_reducible exact ih0 _ _)
   | (with_reducible exact LeO.refl _)
   | (with_reducible exact LeO.none _)
   | (with_reducible refine LeO.ite ?_ ?_)
   | (with_reducible refine LeO.bind ?_ (fun _ => ?_))
   | exact ih0 _ _
   | exact LeO.none _
   | refine LeO.ite ?_ ?_
   | refine LeO.bind ?_ (fun _ => ?_)
set_option maxHeartbeats 8000000 in
set_option maxRecDepth 100000 in
theorem A1q.calls (k : Nat) (a0 : Int) (r : Int) (w : World) (h : A1q.f k a0 = some r) :
  Calls Tryd.prog 48 #[.int .i64 a0] w fun e w' => e = .returned (.int .i64 r) ∧ A1i w w' := by
 have H : (if a0 = 0 then (some 0) else (A1q.l0 k a0 1)) = some r := h; clear h
 by_cases c2 : a0 = 0
 ·rw [if_pos c2] at H; obtain ⟨aj, al⟩ := kqT c2; clear c2; obtain rfl := Option.some.inj H
  go_enter Tryd.func48, Tryd.ntmps48
  go_wp2
  go_ret
  exact ⟨by first | rfl | (simp; done) | (simp [*]; done), by repeat (first | exact A1i.refl _ | apply A1i.step)⟩
 ·rw [if_neg c2] at H; obtain ⟨aj, al⟩ := kqF c2; have H' := ak H; clear H
  go_enter Tryd.func48, Tryd.ntmps48
  go_wp2
  go_loopg [3] k (fun kq v3 w' => ∃ (aa : Int), v3 = .int .i64 aa ∧ A0e (A1q.l0 kq a0 aa = some r) ∧ A0e (kq ≤ k) ∧ A1i w w')
  case atStart => exact ⟨(1), kE, H', ⟨Nat.le_refl _⟩, by repeat (first | exact A1i.refl _ | apply A1i.step)⟩
  case round =>
   clear H'; (try clear c2); (try clear aj); (try clear al); obtain ⟨aa, rfl, HA, am, ⟨m1, rfl⟩⟩ := hrel
   cases gk with
   | zero => exact absurd HA.out (by simp [A1q.l0])
   | succ k1 =>
    have H := HA.out; clear HA; simp only [A1q.l0] at H
    by_cases c3 : aa < 4
    ·rw [if_pos c3] at H; have an : decide (aa < 4) = true := decide_eq_true c3; clear c3; replace H := bkH H; obtain ⟨af, A4, H⟩ := H; obtain ⟨ac, ag⟩ : ∃ j_ : Int, (wrap64 (af - 1)) = j_ := ⟨_, rfl⟩
     replace H : (if 0 ≤ (ac) then (if a0 ≥ (wrap64 (-(shl .i64 1 (ac)))) then (if a0 < (shl .i64 1 (ac)) then (some aa) else (A1q.l0 k1 a0 (wrap64 (aa + 1)))) else (A1q.l0 k1 a0 (wrap64 (aa + 1)))) else (none)) = some r := by first | (rw [ag] at H; exact H) | (simp only [ag] at H ⊢; exact H)
     (try rw [ag] at A4); have aq : (IntKind.i64.wrap (af - 1)) = ac := (A2w _).trans ag
     by_cases c6 : 0 ≤ (ac)
     ·rw [if_pos c6] at H; have ax := eq_true c6; have ay := decide_eq_true c6; clear c6; obtain ⟨ad, ae⟩ : ∃ j_ : Int, (shl .i64 1 (ac)) = j_ := ⟨_, rfl⟩
      replace H : (if a0 ≥ (wrap64 (-(ad))) then (if a0 < (ad) then (some aa) else (A1q.l0 k1 a0 (wrap64 (aa + 1)))) else (A1q.l0 k1 a0 (wrap64 (aa + 1)))) = some r := by first | (rw [ae] at H; exact H) | (simp only [ae] at H ⊢; exact H)
      (try rw [ae] at A4); have ah : (IntKind.i64.wrap (1 * 2 ^ min (ac).toNat 64)) = ad := ae; have ai : (ac) ≤ 64 → (IntKind.i64.wrap (1 * 2 ^ (ac).toNat)) = ad := A3p ae
      have ar : (IntKind.i64.wrap (2 ^ min (ac).toNat 64)) = ad := by have h_ := ah; rw [Int.one_mul] at h_; exact h_
      have au : (ac) ≤ 64 → (IntKind.i64.wrap (2 ^ (ac).toNat)) = ad := fun hle_ => by have h_ := ai hle_; rw [Int.one_mul] at h_; exact h_
      have av : (wrap64 (1 * 2 ^ min (ac).toNat 64)) = ad := (A2w _).symm.trans ah
      have aw : (ac) ≤ 64 → (wrap64 (1 * 2 ^ (ac).toNat)) = ad := fun h_ => (A2w _).symm.trans (ai h_)
      by_cases c8 : a0 ≥ (wrap64 (-(ad)))
      ·rw [if_pos c8] at H; have ao : decide ((wrap64 (-(ad))) ≤ a0) = true := decide_eq_true c8; clear c8
       by_cases c9 : a0 < (ad)
       ·rw [if_pos c9] at H; have ap : decide (a0 < (ad)) = true := decide_eq_true c9; clear c9; obtain rfl := Option.some.inj H
        go_wp2_with (first | ((with_reducible refine A0f (f := 49) rfl ?_); refine A03 (some 12) rfl rfl Tryd.func49 (by kernel_rfl) rfl #[.int .i64 aa] rfl km ?_; (with_reducible refine (A2y.calls aa af _ A4.out).mono ?_); rintro e w' ⟨rfl, ⟨nd, rfl⟩⟩; refine ⟨_, rfl, ?_⟩))
        go_ret
        exact ⟨by first | rfl | (simp; done) | (simp only [← ag, ← ae] <;> (first | rfl | simp)) | (simp [*]; done), by repeat (first | exact A1i.refl _ | apply A1i.step)⟩
       ·rw [if_neg c9] at H; have ap : decide (a0 < (ad)) = false := decide_eq_false c9; clear c9; have H' := ak H; clear H
        go_wp2_with (first | ((with_reducible refine A0f (f := 49) rfl ?_); refine A03 (some 12) rfl rfl Tryd.func49 (by kernel_rfl) rfl #[.int .i64 aa] rfl km ?_; (with_reducible refine (A2y.calls aa af _ A4.out).mono ?_); rintro e w' ⟨rfl, ⟨nd, rfl⟩⟩; refine ⟨_, rfl, ?_⟩))
        go_roundg k1
        case measure => have := am.out; omega
        case rel => exact ⟨(wrap64 (aa + 1)), kE, H', ⟨by have := am.out; omega⟩, by repeat (first | exact A1i.refl _ | apply A1i.step)⟩
      ·rw [if_neg c8] at H; have ao : decide ((wrap64 (-(ad))) ≤ a0) = false := decide_eq_false c8; clear c8; have H' := ak H; clear H
       go_wp2_with (first | ((with_reducible refine A0f (f := 49) rfl ?_); refine A03 (some 12) rfl rfl Tryd.func49 (by kernel_rfl) rfl #[.int .i64 aa] rfl km ?_; (with_reducible refine (A2y.calls aa af _ A4.out).mono ?_); rintro e w' ⟨rfl, ⟨nd, rfl⟩⟩; refine ⟨_, rfl, ?_⟩))
       go_roundg k1
       case measure => have := am.out; omega
       case rel => exact ⟨(wrap64 (aa + 1)), kE, H', ⟨by have := am.out; omega⟩, by repeat (first | exact A1i.refl _ | apply A1i.step)⟩
     ·rw [if_neg c6] at H
      exact absurd H (by simp)
    ·rw [if_neg c3] at H; have an : decide (aa < 4) = false := decide_eq_false c3; clear c3; obtain rfl := Option.some.inj H
     go_wp2
     go_ret
     exact ⟨by first | rfl | (simp; done) | (simp [*]; done), by repeat (first | exact A1i.refl _ | apply A1i.step)⟩
mutual
def A17.j2 : Nat → List Int → Int → Int → Int → Option (Int × Int × Option Int)
 | 0, _, _, _, _ => none
 | k + 1, x0, x1, x7, x8 => (A2y.f x7).bind fun aa => ((A06.f k x0 (wrap64 (x1 + x8)) aa).bind fun ac => (if ac.2 = true then (if aa > 0 then (if 0 ≤ (wrap64 (64 - aa)) then ((A1q.f k (shr .i64 (wrap64 (shl .u64 ac.1 (wrap64 (64 - aa)))) (wrap64 (64 - aa)))).bind fun ad => (if ad = x7 then (some (shr .i64 (wrap64 (shl .u64 ac.1 (wrap64 (64 - aa)))) (wrap64 (64 - aa)), wrap64 (x8 + aa), none)) else (some (0, 0, some 3)))) else (none)) else ((A1q.f k (wrap64 (ac.1))).bind fun ae => (if ae = x7 then (some (wrap64 (ac.1), wrap64 (x8 + aa), none)) else (some (0, 0, some 3))))) else (some (0, 0, some 2))))
def A17.l0 : Nat → List Int → Int → Int → Int → Option (Int × Int × Option Int)
 | 0, _, _, _, _ => none
 | k + 1, x0, x1, x7, x8 => if x7 < 4 then ((A06.f k x0 (wrap64 (x1 + x8)) 1).bind fun aa => (if x1 < 0 then (A17.j1 k x0 x1 x7 x8 aa.1 true) else (A17.j1 k x0 x1 x7 x8 aa.1 (!aa.2)))) else (A17.j2 k x0 x1 x7 x8)
def A17.j1 : Nat → List Int → Int → Int → Int → Int → Bool → Option (Int × Int × Option Int)
 | 0, _, _, _, _, _, _ => none
 | k + 1, x0, x1, x7, x8, x9, aa => if aa = true then (some (0, 0, some 2)) else (if x9 = 0 then (A17.j2 k x0 x1 x7 (wrap64 (x8 + 1))) else (A17.l0 k x0 x1 (wrap64 (x7 + 1)) (wrap64 (x8 + 1))))
end
def A17.f (k : Nat) (l0 : List Int) (a1 : Int) : Option (Int × Int × Option Int) := A17.l0 k l0 a1 0 0
set_option maxHeartbeats 8000000 in
set_option maxRecDepth 100000 in
theorem A17.calls (k : Nat) (A0 : Option Addr) (c0 : Nat) (l0 : List Int) (a1 : Int) (r1 : Int) (r2 : Int) (r3 : Option Int) (w : World) (hr0 : Kd.C (Kd.int .u8) w A0 l0.length l0) (hc0 : l0.length ≤ c0) (h : A17.f k l0 a1 = some (r1, r2, r3)) :
  Calls Tryd.prog 46 #[.slice A0 l0.length c0, .int .i64 a1] w fun e w' => e = .returned (.tuple #[.int .i64 r1, .int .i64 r2, errW r3]) ∧ A1i w w' := by
 have hu27 := Tryd.underlying27; have hu54 := Tryd.underlying54; have a3 := ak hr0; have a4 := ak hc0; clear hr0 hc0; have H : (A17.l0 k l0 a1 0 0) = some (r1, r2, r3) := h; clear h; have aH := ak H; clear H
 go_enter Tryd.func46, Tryd.ntmps46
 go_upto_block 0 with (fail)
 go_cut [7, 8] (fun v7 v8 wc => ∃ (kq : Nat) (ac : Int) (ag : Int), v7 = .int .i64 ac ∧ v8 = .int .i64 ag ∧ A0e (A17.j2 kq l0 a1 ac ag = some (r1, r2, r3)) ∧ A0e (kq ≤ k) ∧ A1i w wc)
 case first =>
  have H := aH.out; clear aH; have H' := ak H; clear H
  go_wp2
  go_loopg [7, 8] k (fun kq v7 v8 w' => ∃ (am : Int) (an : Int), v7 = .int .i64 am ∧ v8 = .int .i64 an ∧ A0e (A17.l0 kq l0 a1 am an = some (r1, r2, r3)) ∧ A0e (kq ≤ k) ∧ A1i w w')
  case atStart => exact ⟨(0), (0), kE, kE, H', ⟨Nat.le_refl _⟩, by repeat (first | exact A1i.refl _ | apply A1i.step)⟩
  case round =>
   clear H'; obtain ⟨am, an, rfl, rfl, HA, a5, ⟨m1, rfl⟩⟩ := hrel
   cases gk with
   | zero => exact absurd HA.out (by simp [A17.l0])
   | succ k1 =>
    have H := HA.out; clear HA; simp only [A17.l0] at H
    by_cases c4 : am < 4
    ·rw [if_pos c4] at H; have au : decide (am < 4) = true := decide_eq_true c4; clear c4
     (first | rw [au] | (simp only [A2w, A3k]; rw [au]) | skip)
     replace H := bkH H; obtain ⟨⟨az, a7⟩, A5, H⟩ := H; (try dsimp only at H); have aI := ak H; clear H
     go_upto_region 4 with (first | ((with_reducible refine A0f (f := 24) rfl ?_); refine A03 (some 22) rfl rfl Tryd.func24 (by kernel_rfl) rfl #[.slice A0 l0.length c0, .int .i64 (wrap64 (a1 + an)), .int .i64 1] rfl km ?_; (with_reducible refine (A06.calls k1 _ _ l0 (wrap64 (a1 + an)) 1 az a7 _ ?ae ?af A5.out).mono ?_); (case ae => repeat (first | exact a3.out | (with_reducible refine Kd.A1v ?_ _) | (with_reducible refine Kd.A1w ?_ _) | (with_reducible refine Kd.A2e ?_))); (case af => exact a4.out); rintro e w' ⟨rfl, ⟨nd, rfl⟩⟩; refine ⟨_, rfl, ?_⟩))
     (try simp only [Act.put, List.setIfInBounds_toArray, List.set_cons_zero, List.set_cons_succ])
     go_cut [30] (fun aX wc => ∃ (kq : Nat) (ar : Bool), aX = .bool ar ∧ A0e (A17.j1 kq l0 a1 am an az ar = some (r1, r2, r3)) ∧ A0e (kq ≤ k1) ∧ A1i w wc)
     case first =>
      have H := aI.out; clear aI
      by_cases c7 : a1 < 0
      ·rw [if_pos c7] at H; have aw := decide_eq_true c7; clear c7
       (first | rw [aw] | (simp only [A2w, A3k]; rw [aw]) | skip)
       have H' := ak H; clear H
       go_wp2
       go_meet
       case rel => exact ⟨_, (true), kE, H', ⟨by have := a5.out; first | omega | exact Nat.le_refl _⟩, by repeat (first | exact A1i.refl _ | apply A1i.step)⟩
      ·rw [if_neg c7] at H; have aw := decide_eq_false c7; clear c7
       (first | rw [aw] | (simp only [A2w, A3k]; rw [aw]) | skip)
       have H' := ak H; clear H
       go_wp2
       go_meet
       case rel => exact ⟨_, (!a7), kE, H', ⟨by have := a5.out; first | omega | exact Nat.le_refl _⟩, by repeat (first | exact A1i.refl _ | apply A1i.step)⟩
     case rest =>
      clear aI; (try clear c4); (try clear au); obtain ⟨kq, ar, rfl, HA, aJ, ⟨mc5, rfl⟩⟩ := hcut
      cases kq with
      | zero => exact absurd HA.out (by simp [A17.j1])
      | succ aY =>
       have H := HA.out; clear HA; simp only [A17.j1] at H
       by_cases c8 : ar = true
       ·subst c8
        rw [if_pos rfl] at H; simp only [Option.some.injEq, Prod.mk.injEq] at H; obtain ⟨rfl, rfl, rfl⟩ := H
        go_wp2
        go_ret3
        exact ⟨by first | rfl | (simp; done) | (simp [*]; done), by repeat (first | exact A1i.refl _ | apply A1i.step)⟩
       ·replace c8 := Bool.eq_false_iff.mpr c8; subst c8
        rw [if_neg (show ¬ (false = true) by decide)] at H
        by_cases c9 : az = 0
        ·rw [if_pos c9] at H; obtain ⟨aK, aL⟩ := kqT c9; clear c9; have H' := ak H; clear H
         go_wp2
         go_meet
         case rel => exact ⟨_, (am), (wrap64 (an + 1)), kE, kE, H', ⟨by have := a5.out; have := aJ.out; first | omega | exact Nat.le_refl _⟩, by repeat (first | exact A1i.refl _ | apply A1i.step)⟩
        ·rw [if_neg c9] at H; obtain ⟨aK, aL⟩ := kqF c9; have H' := ak H; clear H
         go_wp2
         go_roundg aY
         case measure => have := a5.out; have := aJ.out; omega
         case rel => exact ⟨(wrap64 (am + 1)), (wrap64 (an + 1)), kE, kE, H', ⟨by have := a5.out; have := aJ.out; omega⟩, by repeat (first | exact A1i.refl _ | apply A1i.step)⟩
    ·rw [if_neg c4] at H; have au : decide (am < 4) = false := decide_eq_false c4; clear c4
     (first | rw [au] | (simp only [A2w, A3k]; rw [au]) | skip)
     have H' := ak H; clear H
     go_wp2
     go_meet
     case rel => exact ⟨_, (am), (an), kE, kE, H', ⟨by have := a5.out; first | omega | exact Nat.le_refl _⟩, by repeat (first | exact A1i.refl _ | apply A1i.step)⟩
 case rest =>
  clear aH; obtain ⟨kq, ac, ag, rfl, rfl, HA, aZ, ⟨mc2, rfl⟩⟩ := hcut
  cases kq with
  | zero => exact absurd HA.out (by simp [A17.j2])
  | succ av =>
   have H := HA.out; clear HA; simp only [A17.j2] at H; replace H := bkH H; obtain ⟨aa, ax, H⟩ := H; replace H := bkH H; obtain ⟨⟨ai, aM⟩, ay, H⟩ := H; (try dsimp only at H)
   by_cases aG : aM = true
   ·subst aG
    rw [if_pos rfl] at H
    by_cases a6 : aa > 0
    ·rw [if_pos a6] at H; have a8 : decide (0 < aa) = true := decide_eq_true a6; clear a6; obtain ⟨ad, al⟩ : ∃ j_ : Int, (wrap64 (64 - aa)) = j_ := ⟨_, rfl⟩
     replace H : (if 0 ≤ (ad) then ((A1q.f av (shr .i64 (wrap64 (shl .u64 ai (ad))) (ad))).bind fun ao => (if ao = ac then (some (shr .i64 (wrap64 (shl .u64 ai (ad))) (ad), wrap64 (ag + aa), none)) else (some (0, 0, some 3)))) else (none)) = some (r1, r2, r3) := by first | (rw [al] at H; exact H) | (simp only [al] at H ⊢; exact H)
     (try rw [al] at ax); (try rw [al] at ay); have aN : (IntKind.i64.wrap (64 - aa)) = ad := (A2w _).trans al
     by_cases a9 : 0 ≤ (ad)
     ·rw [if_pos a9] at H; have aS := eq_true a9; have aT := decide_eq_true a9; clear a9; obtain ⟨aq, aj⟩ : ∃ j_ : Int, (shl .u64 ai (ad)) = j_ := ⟨_, rfl⟩
      replace H : ((A1q.f av (shr .i64 (wrap64 (aq)) (ad))).bind fun ao => (if ao = ac then (some (shr .i64 (wrap64 (aq)) (ad), wrap64 (ag + aa), none)) else (some (0, 0, some 3)))) = some (r1, r2, r3) := by first | (rw [aj] at H; exact H) | (simp only [aj] at H ⊢; exact H)
      (try rw [aj] at ax); (try rw [aj] at ay); have aO : (IntKind.u64.wrap (ai * 2 ^ min (ad).toNat 64)) = aq := aj; have aP : (ad) ≤ 64 → (IntKind.u64.wrap (ai * 2 ^ (ad).toNat)) = aq := A3p aj; have aU := eq_true (kD : 0 ≤ (ad)); obtain ⟨ap, ah⟩ : ∃ j_ : Int, (shr .i64 (wrap64 (aq)) (ad)) = j_ := ⟨_, rfl⟩
      replace H : ((A1q.f av (ap)).bind fun ao => (if ao = ac then (some (ap, wrap64 (ag + aa), none)) else (some (0, 0, some 3)))) = some (r1, r2, r3) := by first | (rw [ah] at H; exact H) | (simp only [ah] at H ⊢; exact H)
      (try rw [ah] at ax); (try rw [ah] at ay); have aQ : ((wrap64 (aq)) / 2 ^ min (ad).toNat 64) = ap := ah; have aR : (ad) ≤ 64 → ((wrap64 (aq)) / 2 ^ (ad).toNat) = ap := shr_small ah; replace H := bkH H; obtain ⟨ao, aV, H⟩ := H
      by_cases aA : ao = ac
      ·rw [if_pos aA] at H; obtain ⟨aB, aC⟩ := kqT aA; clear aA; simp only [Option.some.injEq, Prod.mk.injEq] at H; obtain ⟨rfl, rfl, rfl⟩ := H
       go_wp2_with (first | ((with_reducible refine A0f (f := 49) rfl ?_); refine A03 (some 39) rfl rfl Tryd.func49 (by kernel_rfl) rfl #[.int .i64 ac] rfl km ?_; (with_reducible refine (A2y.calls ac aa _ ax.out).mono ?_); rintro e w' ⟨rfl, ⟨nd, rfl⟩⟩; refine ⟨_, rfl, ?_⟩) | ((with_reducible refine A0f (f := 24) rfl ?_); refine A03 (some 46) rfl rfl Tryd.func24 (by kernel_rfl) rfl #[.slice A0 l0.length c0, .int .i64 (wrap64 (a1 + ag)), .int .i64 aa] rfl km ?_; (with_reducible refine (A06.calls av _ _ l0 (wrap64 (a1 + ag)) aa ai true _ ?ae ?af ay.out).mono ?_); (case ae => repeat (first | exact a3.out | (with_reducible refine Kd.A1v ?_ _) | (with_reducible refine Kd.A1w ?_ _) | (with_reducible refine Kd.A2e ?_))); (case af => exact a4.out); rintro e w' ⟨rfl, ⟨nd, rfl⟩⟩; refine ⟨_, rfl, ?_⟩) | ((with_reducible refine A0f (f := 48) rfl ?_); refine A03 (some 65) rfl rfl Tryd.func48 (by kernel_rfl) rfl #[.int .i64 ap] rfl (by (try simp only [List.map_toArray, List.map_cons, List.map_nil]); first | done | (simp only [ah]; rfl) | rfl | (simp only [List.length_drop, List.length_take]; rfl)) ?_; (with_reducible refine (A1q.calls av ap ao _ aV.out).mono ?_); rintro e w' ⟨rfl, ⟨nd, rfl⟩⟩; refine ⟨_, rfl, ?_⟩))
       go_ret3
       exact ⟨by first | rfl | (simp; done) | (simp only [← al, ← aj, ← ah] <;> (first | rfl | simp)) | (simp [*]; done), by repeat (first | exact A1i.refl _ | apply A1i.step)⟩
      ·rw [if_neg aA] at H; obtain ⟨aB, aC⟩ := kqF aA; simp only [Option.some.injEq, Prod.mk.injEq] at H; obtain ⟨rfl, rfl, rfl⟩ := H
       go_wp2_with (first | ((with_reducible refine A0f (f := 49) rfl ?_); refine A03 (some 39) rfl rfl Tryd.func49 (by kernel_rfl) rfl #[.int .i64 ac] rfl km ?_; (with_reducible refine (A2y.calls ac aa _ ax.out).mono ?_); rintro e w' ⟨rfl, ⟨nd, rfl⟩⟩; refine ⟨_, rfl, ?_⟩) | ((with_reducible refine A0f (f := 24) rfl ?_); refine A03 (some 46) rfl rfl Tryd.func24 (by kernel_rfl) rfl #[.slice A0 l0.length c0, .int .i64 (wrap64 (a1 + ag)), .int .i64 aa] rfl km ?_; (with_reducible refine (A06.calls av _ _ l0 (wrap64 (a1 + ag)) aa ai true _ ?ae ?af ay.out).mono ?_); (case ae => repeat (first | exact a3.out | (with_reducible refine Kd.A1v ?_ _) | (with_reducible refine Kd.A1w ?_ _) | (with_reducible refine Kd.A2e ?_))); (case af => exact a4.out); rintro e w' ⟨rfl, ⟨nd, rfl⟩⟩; refine ⟨_, rfl, ?_⟩) | ((with_reducible refine A0f (f := 48) rfl ?_); refine A03 (some 65) rfl rfl Tryd.func48 (by kernel_rfl) rfl #[.int .i64 ap] rfl (by (try simp only [List.map_toArray, List.map_cons, List.map_nil]); first | done | (simp only [ah]; rfl) | rfl | (simp only [List.length_drop, List.length_take]; rfl)) ?_; (with_reducible refine (A1q.calls av ap ao _ aV.out).mono ?_); rintro e w' ⟨rfl, ⟨nd, rfl⟩⟩; refine ⟨_, rfl, ?_⟩))
       go_ret3
       exact ⟨by first | rfl | (simp; done) | (simp only [← al, ← aj, ← ah] <;> (first | rfl | simp)) | (simp [*]; done), by repeat (first | exact A1i.refl _ | apply A1i.step)⟩
     ·rw [if_neg a9] at H
      exact absurd H (by simp)
    ·rw [if_neg a6] at H; have a8 : decide (0 < aa) = false := decide_eq_false a6; clear a6; replace H := bkH H; obtain ⟨a2, aW, H⟩ := H
     by_cases aD : a2 = ac
     ·rw [if_pos aD] at H; obtain ⟨aE, aF⟩ := kqT aD; clear aD; simp only [Option.some.injEq, Prod.mk.injEq] at H; obtain ⟨rfl, rfl, rfl⟩ := H
      go_wp2_with (first | ((with_reducible refine A0f (f := 49) rfl ?_); refine A03 (some 39) rfl rfl Tryd.func49 (by kernel_rfl) rfl #[.int .i64 ac] rfl km ?_; (with_reducible refine (A2y.calls ac aa _ ax.out).mono ?_); rintro e w' ⟨rfl, ⟨nd, rfl⟩⟩; refine ⟨_, rfl, ?_⟩) | ((with_reducible refine A0f (f := 24) rfl ?_); refine A03 (some 46) rfl rfl Tryd.func24 (by kernel_rfl) rfl #[.slice A0 l0.length c0, .int .i64 (wrap64 (a1 + ag)), .int .i64 aa] rfl km ?_; (with_reducible refine (A06.calls av _ _ l0 (wrap64 (a1 + ag)) aa ai true _ ?ae ?af ay.out).mono ?_); (case ae => repeat (first | exact a3.out | (with_reducible refine Kd.A1v ?_ _) | (with_reducible refine Kd.A1w ?_ _) | (with_reducible refine Kd.A2e ?_))); (case af => exact a4.out); rintro e w' ⟨rfl, ⟨nd, rfl⟩⟩; refine ⟨_, rfl, ?_⟩) | ((with_reducible refine A0f (f := 48) rfl ?_); refine A03 (some 65) rfl rfl Tryd.func48 (by kernel_rfl) rfl #[.int .i64 (wrap64 (ai))] rfl km ?_; (with_reducible refine (A1q.calls av (wrap64 (ai)) a2 _ aW.out).mono ?_); rintro e w' ⟨rfl, ⟨nd, rfl⟩⟩; refine ⟨_, rfl, ?_⟩))
      go_ret3
      exact ⟨by first | rfl | (simp; done) | (simp [*]; done), by repeat (first | exact A1i.refl _ | apply A1i.step)⟩
     ·rw [if_neg aD] at H; obtain ⟨aE, aF⟩ := kqF aD; simp only [Option.some.injEq, Prod.mk.injEq] at H; obtain ⟨rfl, rfl, rfl⟩ := H
      go_wp2_with (first | ((with_reducible refine A0f (f := 49) rfl ?_); refine A03 (some 39) rfl rfl Tryd.func49 (by kernel_rfl) rfl #[.int .i64 ac] rfl km ?_; (with_reducible refine (A2y.calls ac aa _ ax.out).mono ?_); rintro e w' ⟨rfl, ⟨nd, rfl⟩⟩; refine ⟨_, rfl, ?_⟩) | ((with_reducible refine A0f (f := 24) rfl ?_); refine A03 (some 46) rfl rfl Tryd.func24 (by kernel_rfl) rfl #[.slice A0 l0.length c0, .int .i64 (wrap64 (a1 + ag)), .int .i64 aa] rfl km ?_; (with_reducible refine (A06.calls av _ _ l0 (wrap64 (a1 + ag)) aa ai true _ ?ae ?af ay.out).mono ?_); (case ae => repeat (first | exact a3.out | (with_reducible refine Kd.A1v ?_ _) | (with_reducible refine Kd.A1w ?_ _) | (with_reducible refine Kd.A2e ?_))); (case af => exact a4.out); rintro e w' ⟨rfl, ⟨nd, rfl⟩⟩; refine ⟨_, rfl, ?_⟩) | ((with_reducible refine A0f (f := 48) rfl ?_); refine A03 (some 65) rfl rfl Tryd.func48 (by kernel_rfl) rfl #[.int .i64 (wrap64 (ai))] rfl km ?_; (with_reducible refine (A1q.calls av (wrap64 (ai)) a2 _ aW.out).mono ?_); rintro e w' ⟨rfl, ⟨nd, rfl⟩⟩; refine ⟨_, rfl, ?_⟩))
      go_ret3
      exact ⟨by first | rfl | (simp; done) | (simp [*]; done), by repeat (first | exact A1i.refl _ | apply A1i.step)⟩
   ·replace aG := Bool.eq_false_iff.mpr aG; subst aG
    rw [if_neg (show ¬ (false = true) by decide)] at H; simp only [Option.some.injEq, Prod.mk.injEq] at H; obtain ⟨rfl, rfl, rfl⟩ := H
    go_wp2_with (first | ((with_reducible refine A0f (f := 49) rfl ?_); refine A03 (some 39) rfl rfl Tryd.func49 (by kernel_rfl) rfl #[.int .i64 ac] rfl km ?_; (with_reducible refine (A2y.calls ac aa _ ax.out).mono ?_); rintro e w' ⟨rfl, ⟨nd, rfl⟩⟩; refine ⟨_, rfl, ?_⟩) | ((with_reducible refine A0f (f := 24) rfl ?_); refine A03 (some 46) rfl rfl Tryd.func24 (by kernel_rfl) rfl #[.slice A0 l0.length c0, .int .i64 (wrap64 (a1 + ag)), .int .i64 aa] rfl km ?_; (with_reducible refine (A06.calls av _ _ l0 (wrap64 (a1 + ag)) aa ai false _ ?ae ?af ay.out).mono ?_); (case ae => repeat (first | exact a3.out | (with_reducible refine Kd.A1v ?_ _) | (with_reducible refine Kd.A1w ?_ _) | (with_reducible refine Kd.A2e ?_))); (case af => exact a4.out); rintro e w' ⟨rfl, ⟨nd, rfl⟩⟩; refine ⟨_, rfl, ?_⟩))
    go_ret3
    exact ⟨by first | rfl | (simp; done) | (simp [*]; done), by repeat (first | exact A1i.refl _ | apply A1i.step)⟩
end Go.Proofs.YtiahbcaoikoogabDoor.All
