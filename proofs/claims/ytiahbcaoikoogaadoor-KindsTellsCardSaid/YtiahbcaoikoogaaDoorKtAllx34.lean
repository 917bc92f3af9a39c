-- copied by a program of the session
import Derived.Test.YtiahbcaoikoogaaDoorKtAllx33
import Derived.Test.YtiahbcaoikoogaaDoorKtAllx26
namespace Go.Proofs.YtiahbcaoikoogaaDoor.All
open Go.RowKit Go.Proofs.YtiahbcaoikoogaaDoorW.PrintWords Go.Proofs.YtiahbcaoikoogaaDoorW.PrintLast Go.Proofs.YtiahbcaoikoogaaDoorW.PrintMore
attribute [local go_sem] A2f A2g A2w A2x A18 A19 A2h A2i
set_option linter.unusedVariables false
set_option linter.unusedSimpArgs false
mutual
def A2b.j2 : Nat → List Int → Int → Int → Int → Option (Int × Int × Option Int)
 | 0, _, _, _, _ => none
 | k + 1, x0, x1, x7, x8 => (A2u.f x7).bind fun aa => ((A01.f k x0 (wrap64 (x1 + x8)) aa).bind fun ac => (if ac.2 = true then (if aa > 0 then (if 0 ≤ (wrap64 (64 - aa)) then ((A1p.f k (shr .i64 (wrap64 (shl .u64 ac.1 (wrap64 (64 - aa)))) (wrap64 (64 - aa)))).bind fun ad => (if ad = x7 then (some (shr .i64 (wrap64 (shl .u64 ac.1 (wrap64 (64 - aa)))) (wrap64 (64 - aa)), wrap64 (x8 + aa), none)) else (some (0, 0, some 3)))) else (none)) else ((A1p.f k (wrap64 (ac.1))).bind fun ae => (if ae = x7 then (some (wrap64 (ac.1), wrap64 (x8 + aa), none)) else (some (0, 0, some 3))))) else (some (0, 0, some 2))))
def A2b.l0 : Nat → List Int → Int → Int → Int → Option (Int × Int × Option Int)
 | 0, _, _, _, _ => none
 | k + 1, x0, x1, x7, x8 => if x7 < 4 then ((A01.f k x0 (wrap64 (x1 + x8)) 1).bind fun aa => (if x1 < 0 then (A2b.j1 k x0 x1 x7 x8 aa.1 true) else (A2b.j1 k x0 x1 x7 x8 aa.1 (!aa.2)))) else (A2b.j2 k x0 x1 x7 x8)
def A2b.j1 : Nat → List Int → Int → Int → Int → Int → Bool → Option (Int × Int × Option Int)
 | 0, _, _, _, _, _, _ => none
 | k + 1, x0, x1, x7, x8, x9, aa => if aa = true then (some (0, 0, some 2)) else (if x9 = 0 then (A2b.j2 k x0 x1 x7 (wrap64 (x8 + 1))) else (A2b.l0 k x0 x1 (wrap64 (x7 + 1)) (wrap64 (x8 + 1))))
end
def A2b.f (k : Nat) (l0 : List Int) (a1 : Int) : Option (Int × Int × Option Int) := A2b.l0 k l0 a1 0 0
set_option maxHeartbeats 8000000 in
set_option maxRecDepth 100000 in
theorem A2b.calls (k : Nat) (A0 : Option Addr) (c0 : Nat) (l0 : List Int) (a1 : Int) (r1 : Int) (r2 : Int) (r3 : Option Int) (w : World) (hr0 : Kd.C (Kd.int .u8) w A0 l0.length l0) (hc0 : l0.length ≤ c0) (h : A2b.f k l0 a1 = some (r1, r2, r3)) :
  Calls Tryd.prog 69 #[.slice A0 l0.length c0, .int .i64 a1] w fun e w' => e = .returned (.tuple #[.int .i64 r1, .int .i64 r2, errW r3]) ∧ A1c w w' := by
 have hu37 := Tryd.underlying37; have hu95 := Tryd.underlying95; have a2 := ak hr0; have a3 := ak hc0; clear hr0 hc0; have H : (A2b.l0 k l0 a1 0 0) = some (r1, r2, r3) := h; clear h; have aG := ak H; clear H
 go_enter Tryd.func69, Tryd.ntmps69
 go_upto_block 0 with (fail)
 go_cut [7, 8] (fun v7 v8 wc => ∃ (kq : Nat) (ac : Int) (ag : Int), v7 = .int .i64 ac ∧ v8 = .int .i64 ag ∧ A0b (A2b.j2 kq l0 a1 ac ag = some (r1, r2, r3)) ∧ A0b (kq ≤ k) ∧ A1c w wc)
 case first =>
  have H := aG.out; clear aG; have H' := ak H; clear H
  go_wp2
  go_loopg [7, 8] k (fun kq v7 v8 w' => ∃ (x7_1 : Int) (am : Int), v7 = .int .i64 x7_1 ∧ v8 = .int .i64 am ∧ A0b (A2b.l0 kq l0 a1 x7_1 am = some (r1, r2, r3)) ∧ A0b (kq ≤ k) ∧ A1c w w')
  case atStart => exact ⟨(0), (0), kE, kE, H', ⟨Nat.le_refl _⟩, by repeat (first | exact A1c.refl _ | apply A1c.step)⟩
  case round =>
   clear H'; obtain ⟨x7_1, am, rfl, rfl, HA, a4, ⟨m1, rfl⟩⟩ := hrel
   cases gk with
   | zero => exact absurd HA.out (by simp [A2b.l0])
   | succ k1 =>
    have H := HA.out; clear HA; simp only [A2b.l0] at H
    by_cases c4 : x7_1 < 4
    ·rw [if_pos c4] at H; have ar := decide_eq_true c4; clear c4
     (first | rw [ar] | (simp only [A11, A2c]; rw [ar]) | skip)
     replace H := bkH H; obtain ⟨⟨ay, a6⟩, A5, H⟩ := H; (try dsimp only at H); have aH := ak H; clear H
     go_upto_region 4 with (first | ((with_reducible refine A0h (f := 49) rfl ?_); refine A1b (some 22) rfl rfl Tryd.func49 (by kernel_rfl) rfl #[.slice A0 l0.length c0, .int .i64 (wrap64 (a1 + am)), .int .i64 1] rfl km ?_; (with_reducible refine (A01.calls k1 _ _ l0 (wrap64 (a1 + am)) 1 ay a6 _ ?ae ?af A5.out).mono ?_); (case ae => repeat (first | exact a2.out | (with_reducible refine Kd.A1e ?_ _) | (with_reducible refine Kd.A1d ?_ _) | (with_reducible refine Kd.A1v ?_))); (case af => exact a3.out); rintro e w' ⟨rfl, ⟨nd, rfl⟩⟩; refine ⟨_, rfl, ?_⟩))
     (try simp only [Act.put, List.setIfInBounds_toArray, List.set_cons_zero, List.set_cons_succ])
     go_cut [30] (fun aW wc => ∃ (kq : Nat) (aq : Bool), aW = .bool aq ∧ A0b (A2b.j1 kq l0 a1 x7_1 am ay aq = some (r1, r2, r3)) ∧ A0b (kq ≤ k1) ∧ A1c w wc)
     case first =>
      have H := aH.out; clear aH
      by_cases c7 : a1 < 0
      ·rw [if_pos c7] at H; have av := decide_eq_true c7; clear c7
       (first | rw [av] | (simp only [A11, A2c]; rw [av]) | skip)
       have H' := ak H; clear H
       go_wp2
       go_meet
       case rel => exact ⟨_, (true), kE, H', ⟨by have := a4.out; first | omega | exact Nat.le_refl _⟩, by repeat (first | exact A1c.refl _ | apply A1c.step)⟩
      ·rw [if_neg c7] at H; have av := decide_eq_false c7; clear c7
       (first | rw [av] | (simp only [A11, A2c]; rw [av]) | skip)
       have H' := ak H; clear H
       go_wp2
       go_meet
       case rel => exact ⟨_, (!a6), kE, H', ⟨by have := a4.out; first | omega | exact Nat.le_refl _⟩, by repeat (first | exact A1c.refl _ | apply A1c.step)⟩
     case rest =>
      clear aH; (try clear c4); (try clear ar); obtain ⟨kq, aq, rfl, HA, aI, ⟨mc5, rfl⟩⟩ := hcut
      cases kq with
      | zero => exact absurd HA.out (by simp [A2b.j1])
      | succ aX =>
       have H := HA.out; clear HA; simp only [A2b.j1] at H
       by_cases c8 : aq = true
       ·subst c8
        rw [if_pos rfl] at H; simp only [Option.some.injEq, Prod.mk.injEq] at H; obtain ⟨rfl, rfl, rfl⟩ := H
        go_wp2
        go_ret3
        exact ⟨by first | rfl | (simp; done) | (simp [*]; done), by repeat (first | exact A1c.refl _ | apply A1c.step)⟩
       ·replace c8 := Bool.eq_false_iff.mpr c8; subst c8
        rw [if_neg (show ¬ (false = true) by decide)] at H
        by_cases c9 : ay = 0
        ·rw [if_pos c9] at H; obtain ⟨aJ, aK⟩ := kqT c9; clear c9; have H' := ak H; clear H
         go_wp2
         go_meet
         case rel => exact ⟨_, (x7_1), (wrap64 (am + 1)), kE, kE, H', ⟨by have := a4.out; have := aI.out; first | omega | exact Nat.le_refl _⟩, by repeat (first | exact A1c.refl _ | apply A1c.step)⟩
        ·rw [if_neg c9] at H; obtain ⟨aJ, aK⟩ := kqF c9; have H' := ak H; clear H
         go_wp2
         go_roundg aX
         case measure => have := a4.out; have := aI.out; omega
         case rel => exact ⟨(wrap64 (x7_1 + 1)), (wrap64 (am + 1)), kE, kE, H', ⟨by have := a4.out; have := aI.out; omega⟩, by repeat (first | exact A1c.refl _ | apply A1c.step)⟩
    ·rw [if_neg c4] at H; have ar := decide_eq_false c4; clear c4
     (first | rw [ar] | (simp only [A11, A2c]; rw [ar]) | skip)
     have H' := ak H; clear H
     go_wp2
     go_meet
     case rel => exact ⟨_, (x7_1), (am), kE, kE, H', ⟨by have := a4.out; first | omega | exact Nat.le_refl _⟩, by repeat (first | exact A1c.refl _ | apply A1c.step)⟩
 case rest =>
  clear aG; obtain ⟨kq, ac, ag, rfl, rfl, HA, aY, ⟨mc2, rfl⟩⟩ := hcut
  cases kq with
  | zero => exact absurd HA.out (by simp [A2b.j2])
  | succ au =>
   have H := HA.out; clear HA; simp only [A2b.j2] at H; replace H := bkH H; obtain ⟨aa, aw, H⟩ := H; replace H := bkH H; obtain ⟨⟨ai, aL⟩, ax, H⟩ := H; (try dsimp only at H)
   by_cases aF : aL = true
   ·subst aF
    rw [if_pos rfl] at H
    by_cases a5 : aa > 0
    ·rw [if_pos a5] at H; have a7 : decide (0 < aa) = true := decide_eq_true a5; clear a5; obtain ⟨ad, al⟩ : ∃ j_ : Int, (wrap64 (64 - aa)) = j_ := ⟨_, rfl⟩
     replace H : (if 0 ≤ (ad) then ((A1p.f au (shr .i64 (wrap64 (shl .u64 ai (ad))) (ad))).bind fun an => (if an = ac then (some (shr .i64 (wrap64 (shl .u64 ai (ad))) (ad), wrap64 (ag + aa), none)) else (some (0, 0, some 3)))) else (none)) = some (r1, r2, r3) := by first | (rw [al] at H; exact H) | (simp only [al] at H ⊢; exact H)
     (try rw [al] at aw); (try rw [al] at ax); have aM : (IntKind.i64.wrap (64 - aa)) = ad := (A11 _).trans al
     by_cases a8 : 0 ≤ (ad)
     ·rw [if_pos a8] at H; have aR := eq_true a8; have aS := decide_eq_true a8; clear a8; obtain ⟨ap, aj⟩ : ∃ j_ : Int, (shl .u64 ai (ad)) = j_ := ⟨_, rfl⟩
      replace H : ((A1p.f au (shr .i64 (wrap64 (ap)) (ad))).bind fun an => (if an = ac then (some (shr .i64 (wrap64 (ap)) (ad), wrap64 (ag + aa), none)) else (some (0, 0, some 3)))) = some (r1, r2, r3) := by first | (rw [aj] at H; exact H) | (simp only [aj] at H ⊢; exact H)
      (try rw [aj] at aw); (try rw [aj] at ax); have aN : (IntKind.u64.wrap (ai * 2 ^ min (ad).toNat 64)) = ap := aj; have aO : (ad) ≤ 64 → (IntKind.u64.wrap (ai * 2 ^ (ad).toNat)) = ap := shl_small aj; have aT := eq_true (kD : 0 ≤ (ad)); obtain ⟨ao, ah⟩ : ∃ j_ : Int, (shr .i64 (wrap64 (ap)) (ad)) = j_ := ⟨_, rfl⟩
      replace H : ((A1p.f au (ao)).bind fun an => (if an = ac then (some (ao, wrap64 (ag + aa), none)) else (some (0, 0, some 3)))) = some (r1, r2, r3) := by first | (rw [ah] at H; exact H) | (simp only [ah] at H ⊢; exact H)
      (try rw [ah] at aw); (try rw [ah] at ax); have aP : ((wrap64 (ap)) / 2 ^ min (ad).toNat 64) = ao := ah; have aQ : (ad) ≤ 64 → ((wrap64 (ap)) / 2 ^ (ad).toNat) = ao := shr_small ah; replace H := bkH H; obtain ⟨an, aU, H⟩ := H
      by_cases a9 : an = ac
      ·rw [if_pos a9] at H; obtain ⟨aA, aB⟩ := kqT a9; clear a9; simp only [Option.some.injEq, Prod.mk.injEq] at H; obtain ⟨rfl, rfl, rfl⟩ := H
       go_wp2_with (first | ((with_reducible refine A0h (f := 66) rfl ?_); refine A1b (some 39) rfl rfl Tryd.func66 (by kernel_rfl) rfl #[.int .i64 ac] rfl km ?_; (with_reducible refine (A2u.calls ac aa _ aw.out).mono ?_); rintro e w' ⟨rfl, ⟨nd, rfl⟩⟩; refine ⟨_, rfl, ?_⟩) | ((with_reducible refine A0h (f := 49) rfl ?_); refine A1b (some 46) rfl rfl Tryd.func49 (by kernel_rfl) rfl #[.slice A0 l0.length c0, .int .i64 (wrap64 (a1 + ag)), .int .i64 aa] rfl km ?_; (with_reducible refine (A01.calls au _ _ l0 (wrap64 (a1 + ag)) aa ai true _ ?ae ?af ax.out).mono ?_); (case ae => repeat (first | exact a2.out | (with_reducible refine Kd.A1e ?_ _) | (with_reducible refine Kd.A1d ?_ _) | (with_reducible refine Kd.A1v ?_))); (case af => exact a3.out); rintro e w' ⟨rfl, ⟨nd, rfl⟩⟩; refine ⟨_, rfl, ?_⟩) | ((with_reducible refine A0h (f := 65) rfl ?_); refine A1b (some 65) rfl rfl Tryd.func65 (by kernel_rfl) rfl #[.int .i64 ao] rfl (by (try simp only [List.map_toArray, List.map_cons, List.map_nil]); first | done | (simp only [ah]; rfl) | rfl | (simp only [List.length_drop, List.length_take]; rfl)) ?_; (with_reducible refine (A1p.calls au ao an _ aU.out).mono ?_); rintro e w' ⟨rfl, ⟨nd, rfl⟩⟩; refine ⟨_, rfl, ?_⟩))
       go_ret3
       exact ⟨by first | rfl | (simp; done) | (simp only [← al, ← aj, ← ah] <;> (first | rfl | simp)) | (simp [*]; done), by repeat (first | exact A1c.refl _ | apply A1c.step)⟩
      ·rw [if_neg a9] at H; obtain ⟨aA, aB⟩ := kqF a9; simp only [Option.some.injEq, Prod.mk.injEq] at H; obtain ⟨rfl, rfl, rfl⟩ := H
       go_wp2_with (first | ((with_reducible refine A0h (f := 66) rfl ?_); refine A1b (some 39) rfl rfl Tryd.func66 (by kernel_rfl) rfl #[.int .i64 ac] rfl km ?_; (with_reducible refine (A2u.calls ac aa _ aw.out).mono ?_); rintro e w' ⟨rfl, ⟨nd, rfl⟩⟩; refine ⟨_, rfl, ?_⟩) | ((with_reducible refine A0h (f := 49) rfl ?_); refine A1b (some 46) rfl rfl Tryd.func49 (by kernel_rfl) rfl #[.slice A0 l0.length c0, .int .i64 (wrap64 (a1 + ag)), .int .i64 aa] rfl km ?_; (with_reducible refine (A01.calls au _ _ l0 (wrap64 (a1 + ag)) aa ai true _ ?ae ?af ax.out).mono ?_); (case ae => repeat (first | exact a2.out | (with_reducible refine Kd.A1e ?_ _) | (with_reducible refine Kd.A1d ?_ _) | (with_reducible refine Kd.A1v ?_))); (case af => exact a3.out); rintro e w' ⟨rfl, ⟨nd, rfl⟩⟩; refine ⟨_, rfl, ?_⟩) | ((with_reducible refine A0h (f := 65) rfl ?_); refine A1b (some 65) rfl rfl Tryd.func65 (by kernel_rfl) rfl #[.int .i64 ao] rfl (by (try simp only [List.map_toArray, List.map_cons, List.map_nil]); first | done | (simp only [ah]; rfl) | rfl | (simp only [List.length_drop, List.length_take]; rfl)) ?_; (with_reducible refine (A1p.calls au ao an _ aU.out).mono ?_); rintro e w' ⟨rfl, ⟨nd, rfl⟩⟩; refine ⟨_, rfl, ?_⟩))
       go_ret3
       exact ⟨by first | rfl | (simp; done) | (simp only [← al, ← aj, ← ah] <;> (first | rfl | simp)) | (simp [*]; done), by repeat (first | exact A1c.refl _ | apply A1c.step)⟩
     ·rw [if_neg a8] at H
      exact absurd H (by simp)
    ·rw [if_neg a5] at H; have a7 : decide (0 < aa) = false := decide_eq_false a5; clear a5; replace H := bkH H; obtain ⟨az, aV, H⟩ := H
     by_cases aC : az = ac
     ·rw [if_pos aC] at H; obtain ⟨aD, aE⟩ := kqT aC; clear aC; simp only [Option.some.injEq, Prod.mk.injEq] at H; obtain ⟨rfl, rfl, rfl⟩ := H
      go_wp2_with (first | ((with_reducible refine A0h (f := 66) rfl ?_); refine A1b (some 39) rfl rfl Tryd.func66 (by kernel_rfl) rfl #[.int .i64 ac] rfl km ?_; (with_reducible refine (A2u.calls ac aa _ aw.out).mono ?_); rintro e w' ⟨rfl, ⟨nd, rfl⟩⟩; refine ⟨_, rfl, ?_⟩) | ((with_reducible refine A0h (f := 49) rfl ?_); refine A1b (some 46) rfl rfl Tryd.func49 (by kernel_rfl) rfl #[.slice A0 l0.length c0, .int .i64 (wrap64 (a1 + ag)), .int .i64 aa] rfl km ?_; (with_reducible refine (A01.calls au _ _ l0 (wrap64 (a1 + ag)) aa ai true _ ?ae ?af ax.out).mono ?_); (case ae => repeat (first | exact a2.out | (with_reducible refine Kd.A1e ?_ _) | (with_reducible refine Kd.A1d ?_ _) | (with_reducible refine Kd.A1v ?_))); (case af => exact a3.out); rintro e w' ⟨rfl, ⟨nd, rfl⟩⟩; refine ⟨_, rfl, ?_⟩) | ((with_reducible refine A0h (f := 65) rfl ?_); refine A1b (some 65) rfl rfl Tryd.func65 (by kernel_rfl) rfl #[.int .i64 (wrap64 (ai))] rfl km ?_; (with_reducible refine (A1p.calls au (wrap64 (ai)) az _ aV.out).mono ?_); rintro e w' ⟨rfl, ⟨nd, rfl⟩⟩; refine ⟨_, rfl, ?_⟩))
      go_ret3
      exact ⟨by first | rfl | (simp; done) | (simp [*]; done), by repeat (first | exact A1c.refl _ | apply A1c.step)⟩
     ·rw [if_neg aC] at H; obtain ⟨aD, aE⟩ := kqF aC; simp only [Option.some.injEq, Prod.mk.injEq] at H; obtain ⟨rfl, rfl, rfl⟩ := H
      go_wp2_with (first | ((with_reducible refine A0h (f := 66) rfl ?_); refine A1b (some 39) rfl rfl Tryd.func66 (by kernel_rfl) rfl #[.int .i64 ac] rfl km ?_; (with_reducible refine (A2u.calls ac aa _ aw.out).mono ?_); rintro e w' ⟨rfl, ⟨nd, rfl⟩⟩; refine ⟨_, rfl, ?_⟩) | ((with_reducible refine A0h (f := 49) rfl ?_); refine A1b (some 46) rfl rfl Tryd.func49 (by kernel_rfl) rfl #[.slice A0 l0.length c0, .int .i64 (wrap64 (a1 + ag)), .int .i64 aa] rfl km ?_; (with_reducible refine (A01.calls au _ _ l0 (wrap64 (a1 + ag)) aa ai true _ ?ae ?af ax.out).mono ?_); (case ae => repeat (first | exact a2.out | (with_reducible refine Kd.A1e ?_ _) | (with_reducible refine Kd.A1d ?_ _) | (with_reducible refine Kd.A1v ?_))); (case af => exact a3.out); rintro e w' ⟨rfl, ⟨nd, rfl⟩⟩; refine ⟨_, rfl, ?_⟩) | ((with_reducible refine A0h (f := 65) rfl ?_); refine A1b (some 65) rfl rfl Tryd.func65 (by kernel_rfl) rfl #[.int .i64 (wrap64 (ai))] rfl km ?_; (with_reducible refine (A1p.calls au (wrap64 (ai)) az _ aV.out).mono ?_); rintro e w' ⟨rfl, ⟨nd, rfl⟩⟩; refine ⟨_, rfl, ?_⟩))
      go_ret3
      exact ⟨by first | rfl | (simp; done) | (simp [*]; done), by repeat (first | exact A1c.refl _ | apply A1c.step)⟩
   ·replace aF := Bool.eq_false_iff.mpr aF; subst aF
    rw [if_neg (show ¬ (false = true) by decide)] at H; simp only [Option.some.injEq, Prod.mk.injEq] at H; obtain ⟨rfl, rfl, rfl⟩ := H
    go_wp2_with (first | ((with_reducible refine A0h (f := 66) rfl ?_); refine A1b (some 39) rfl rfl Tryd.func66 (by kernel_rfl) rfl #[.int .i64 ac] rfl km ?_; (with_reducible refine (A2u.calls ac aa _ aw.out).mono ?_); rintro e w' ⟨rfl, ⟨nd, rfl⟩⟩; refine ⟨_, rfl, ?_⟩) | ((with_reducible refine A0h (f := 49) rfl ?_); refine A1b (some 46) rfl rfl Tryd.func49 (by kernel_rfl) rfl #[.slice A0 l0.length c0, .int .i64 (wrap64 (a1 + ag)), .int .i64 aa] rfl km ?_; (with_reducible refine (A01.calls au _ _ l0 (wrap64 (a1 + ag)) aa ai false _ ?ae ?af ax.out).mono ?_); (case ae => repeat (first | exact a2.out | (with_reducible refine Kd.A1e ?_ _) | (with_reducible refine Kd.A1d ?_ _) | (with_reducible refine Kd.A1v ?_))); (case af => exact a3.out); rintro e w' ⟨rfl, ⟨nd, rfl⟩⟩; refine ⟨_, rfl, ?_⟩))
    go_ret3
    exact ⟨by first | rfl | (simp; done) | (simp [*]; done), by repeat (first | exact A1c.refl _ | apply A1c.step)⟩
end Go.Proofs.YtiahbcaoikoogaaDoor.All
