-- copied by a program of the session
import Derived.Test.YtodocfjbpkicgaaDoorKvAllx9
namespace Go.Proofs.YtodocfjbpkicgaaDoor.All
open Go.RowKit Go.Proofs.YtodocfjbpkicgaaDoorW.PrintWords Go.Proofs.YtodocfjbpkicgaaDoorW.PrintLast Go.Proofs.YtodocfjbpkicgaaDoorW.PrintMore
attribute [local go_sem] A17 A18 A2o A2p A1y A1z A19 A2a
set_option linter.unusedVariables false
set_option linter.unusedSimpArgs false
mutual
def A1t.j2 : Nat → List Int → Int → Int → Int → Option (Int × Int × Option Int)
 | 0, _, _, _, _ => none
 | k + 1, x0, x1, x7, x8 => (A16.f x7).bind fun aa => ((A02.f k x0 (wrap64 (x1 + x8)) aa).bind fun ac => (if ac.2 = true then (if aa > 0 then (if 0 ≤ (wrap64 (64 - aa)) then ((A1i.f k (shr .i64 (wrap64 (shl .u64 ac.1 (wrap64 (64 - aa)))) (wrap64 (64 - aa)))).bind fun ad => (if ad = x7 then (some (shr .i64 (wrap64 (shl .u64 ac.1 (wrap64 (64 - aa)))) (wrap64 (64 - aa)), wrap64 (x8 + aa), none)) else (some (0, 0, some 3)))) else (none)) else ((A1i.f k (wrap64 (ac.1))).bind fun ae => (if ae = x7 then (some (wrap64 (ac.1), wrap64 (x8 + aa), none)) else (some (0, 0, some 3))))) else (some (0, 0, some 2))))
def A1t.l0 : Nat → List Int → Int → Int → Int → Option (Int × Int × Option Int)
 | 0, _, _, _, _ => none
 | k + 1, x0, x1, x7, x8 => if x7 < 4 then ((A02.f k x0 (wrap64 (x1 + x8)) 1).bind fun aa => (if x1 < 0 then (A1t.j1 k x0 x1 x7 x8 aa.1 true) else (A1t.j1 k x0 x1 x7 x8 aa.1 (!aa.2)))) else (A1t.j2 k x0 x1 x7 x8)
def A1t.j1 : Nat → List Int → Int → Int → Int → Int → Bool → Option (Int × Int × Option Int)
 | 0, _, _, _, _, _, _ => none
 | k + 1, x0, x1, x7, x8, x9, aa => if aa = true then (some (0, 0, some 2)) else (if x9 = 0 then (A1t.j2 k x0 x1 x7 (wrap64 (x8 + 1))) else (A1t.l0 k x0 x1 (wrap64 (x7 + 1)) (wrap64 (x8 + 1))))
end
def A1t.f (k : Nat) (l0 : List Int) (a1 : Int) : Option (Int × Int × Option Int) := A1t.l0 k l0 a1 0 0
set_option maxHeartbeats 8000000 in
set_option maxRecDepth 100000 in
theorem A1t.calls (k : Nat) (A0 : Option Addr) (c0 : Nat) (l0 : List Int) (a1 : Int) (r1 : Int) (r2 : Int) (r3 : Option Int) (w : World) (hr0 : Kd.C (Kd.int .u8) w A0 l0.length l0) (hc0 : l0.length ≤ c0) (h : A1t.f k l0 a1 = some (r1, r2, r3)) :
  Calls Tryd.prog 83 #[.slice A0 l0.length c0, .int .i64 a1] w fun e w' => e = .returned (.tuple #[.int .i64 r1, .int .i64 r2, errW r3]) ∧ A09 w w' := by
 have hu38 := Tryd.underlying38; have hu94 := Tryd.underlying94; have a3 := ak hr0; have a4 := ak hc0; clear hr0 hc0; have H : (A1t.l0 k l0 a1 0 0) = some (r1, r2, r3) := h; clear h; have aH := ak H; clear H
 go_enter Tryd.func83, Tryd.ntmps83
 go_upto_block 0 with (fail)
 go_cut [7, 8] (fun v7 v8 wc => ∃ (kq : Nat) (ac : Int) (ag : Int), v7 = .int .i64 ac ∧ v8 = .int .i64 ag ∧ A0g (A1t.j2 kq l0 a1 ac ag = some (r1, r2, r3)) ∧ A0g (kq ≤ k) ∧ A09 w wc)
 case first =>
  have H := aH.out; clear aH; have H' := ak H; clear H
  go_wp2
  go_loopg [7, 8] k (fun kq v7 v8 w' => ∃ (ao : Int) (am : Int), v7 = .int .i64 ao ∧ v8 = .int .i64 am ∧ A0g (A1t.l0 kq l0 a1 ao am = some (r1, r2, r3)) ∧ A0g (kq ≤ k) ∧ A09 w w')
  case atStart => exact ⟨(0), (0), kE, kE, H', ⟨Nat.le_refl _⟩, by repeat (first | exact A09.refl _ | apply A09.step)⟩
  case round =>
   clear H'; obtain ⟨ao, am, rfl, rfl, HA, a5, ⟨m1, rfl⟩⟩ := hrel
   cases gk with
   | zero => exact absurd HA.out (by simp [A1t.l0])
   | succ k1 =>
    have H := HA.out; clear HA; simp only [A1t.l0] at H
    by_cases c4 : ao < 4
    ·rw [if_pos c4] at H; have av := decide_eq_true c4; clear c4
     (first | rw [av] | (simp only [A2b, A25]; rw [av]) | skip)
     replace H := bkH H; obtain ⟨⟨az, a7⟩, A5, H⟩ := H; (try dsimp only at H); have aI := ak H; clear H
     go_upto_region 4 with (first | ((with_reducible refine A0m (f := 82) rfl ?_); refine A07 (some 22) rfl rfl Tryd.func82 (by kernel_rfl) rfl #[.slice A0 l0.length c0, .int .i64 (wrap64 (a1 + am)), .int .i64 1] rfl km ?_; (with_reducible refine (A02.calls k1 _ _ l0 (wrap64 (a1 + am)) 1 az a7 _ ?ae ?af A5.out).mono ?_); (case ae => repeat (first | exact a3.out | (with_reducible refine Kd.A2r ?_ _) | (with_reducible refine Kd.A2v ?_ _) | (with_reducible refine Kd.A3c ?_))); (case af => exact a4.out); rintro e w' ⟨rfl, ⟨nd, rfl⟩⟩; refine ⟨_, rfl, ?_⟩))
     (try simp only [Act.put, List.setIfInBounds_toArray, List.set_cons_zero, List.set_cons_succ])
     go_cut [30] (fun aX wc => ∃ (kq : Nat) (ar : Bool), aX = .bool ar ∧ A0g (A1t.j1 kq l0 a1 ao am az ar = some (r1, r2, r3)) ∧ A0g (kq ≤ k1) ∧ A09 w wc)
     case first =>
      have H := aI.out; clear aI
      by_cases c7 : a1 < 0
      ·rw [if_pos c7] at H; have aw := decide_eq_true c7; clear c7
       (first | rw [aw] | (simp only [A2b, A25]; rw [aw]) | skip)
       have H' := ak H; clear H
       go_wp2
       go_meet
       case rel => exact ⟨_, (true), kE, H', ⟨by have := a5.out; first | omega | exact Nat.le_refl _⟩, by repeat (first | exact A09.refl _ | apply A09.step)⟩
      ·rw [if_neg c7] at H; have aw := decide_eq_false c7; clear c7
       (first | rw [aw] | (simp only [A2b, A25]; rw [aw]) | skip)
       have H' := ak H; clear H
       go_wp2
       go_meet
       case rel => exact ⟨_, (!a7), kE, H', ⟨by have := a5.out; first | omega | exact Nat.le_refl _⟩, by repeat (first | exact A09.refl _ | apply A09.step)⟩
     case rest =>
      clear aI; obtain ⟨kq, ar, rfl, HA, aJ, ⟨mc5, rfl⟩⟩ := hcut
      cases kq with
      | zero => exact absurd HA.out (by simp [A1t.j1])
      | succ aY =>
       have H := HA.out; clear HA; simp only [A1t.j1] at H
       by_cases c8 : ar = true
       ·subst c8
        rw [if_pos rfl] at H; simp only [Option.some.injEq, Prod.mk.injEq] at H; obtain ⟨rfl, rfl, rfl⟩ := H
        go_wp2
        go_ret3
        exact ⟨by first | rfl | (simp; done) | (simp [*]; done), by repeat (first | exact A09.refl _ | apply A09.step)⟩
       ·replace c8 := Bool.eq_false_iff.mpr c8; subst c8
        rw [if_neg (show ¬ (false = true) by decide)] at H
        by_cases c9 : az = 0
        ·rw [if_pos c9] at H; obtain ⟨aK, aL⟩ := kqT c9; clear c9; have H' := ak H; clear H
         go_wp2
         go_meet
         case rel => exact ⟨_, (ao), (wrap64 (am + 1)), kE, kE, H', ⟨by have := a5.out; have := aJ.out; first | omega | exact Nat.le_refl _⟩, by repeat (first | exact A09.refl _ | apply A09.step)⟩
        ·rw [if_neg c9] at H; obtain ⟨aK, aL⟩ := kqF c9; have H' := ak H; clear H
         go_wp2
         go_roundg aY
         case measure => have := a5.out; have := aJ.out; omega
         case rel => exact ⟨(wrap64 (ao + 1)), (wrap64 (am + 1)), kE, kE, H', ⟨by have := a5.out; have := aJ.out; omega⟩, by repeat (first | exact A09.refl _ | apply A09.step)⟩
    ·rw [if_neg c4] at H; have av := decide_eq_false c4; clear c4
     (first | rw [av] | (simp only [A2b, A25]; rw [av]) | skip)
     have H' := ak H; clear H
     go_wp2
     go_meet
     case rel => exact ⟨_, (ao), (am), kE, kE, H', ⟨by have := a5.out; first | omega | exact Nat.le_refl _⟩, by repeat (first | exact A09.refl _ | apply A09.step)⟩
 case rest =>
  clear aH; obtain ⟨kq, ac, ag, rfl, rfl, HA, aZ, ⟨mc2, rfl⟩⟩ := hcut
  cases kq with
  | zero => exact absurd HA.out (by simp [A1t.j2])
  | succ au =>
   have H := HA.out; clear HA; simp only [A1t.j2] at H; replace H := bkH H; obtain ⟨aa, ax, H⟩ := H; replace H := bkH H; obtain ⟨⟨ai, aM⟩, ay, H⟩ := H; (try dsimp only at H)
   by_cases aG : aM = true
   ·subst aG
    rw [if_pos rfl] at H
    by_cases a6 : aa > 0
    ·rw [if_pos a6] at H; have a8 : decide (0 < aa) = true := decide_eq_true a6; clear a6; obtain ⟨ad, al⟩ : ∃ j_ : Int, (wrap64 (64 - aa)) = j_ := ⟨_, rfl⟩
     replace H : (if 0 ≤ (ad) then ((A1i.f au (shr .i64 (wrap64 (shl .u64 ai (ad))) (ad))).bind fun an => (if an = ac then (some (shr .i64 (wrap64 (shl .u64 ai (ad))) (ad), wrap64 (ag + aa), none)) else (some (0, 0, some 3)))) else (none)) = some (r1, r2, r3) := by first | (rw [al] at H; exact H) | (simp only [al] at H ⊢; exact H)
     (try rw [al] at ax); (try rw [al] at ay); have aN : (IntKind.i64.wrap (64 - aa)) = ad := (A2b _).trans al
     by_cases a9 : 0 ≤ (ad)
     ·rw [if_pos a9] at H; have aS := eq_true a9; have aT := decide_eq_true a9; clear a9; obtain ⟨aq, aj⟩ : ∃ j_ : Int, (shl .u64 ai (ad)) = j_ := ⟨_, rfl⟩
      replace H : ((A1i.f au (shr .i64 (wrap64 (aq)) (ad))).bind fun an => (if an = ac then (some (shr .i64 (wrap64 (aq)) (ad), wrap64 (ag + aa), none)) else (some (0, 0, some 3)))) = some (r1, r2, r3) := by first | (rw [aj] at H; exact H) | (simp only [aj] at H ⊢; exact H)
      (try rw [aj] at ax); (try rw [aj] at ay); have aO : (IntKind.u64.wrap (ai * 2 ^ min (ad).toNat 64)) = aq := aj; have aP : (ad) ≤ 64 → (IntKind.u64.wrap (ai * 2 ^ (ad).toNat)) = aq := A3i aj; have aU := eq_true (kD : 0 ≤ (ad)); obtain ⟨ap, ah⟩ : ∃ j_ : Int, (shr .i64 (wrap64 (aq)) (ad)) = j_ := ⟨_, rfl⟩
      replace H : ((A1i.f au (ap)).bind fun an => (if an = ac then (some (ap, wrap64 (ag + aa), none)) else (some (0, 0, some 3)))) = some (r1, r2, r3) := by first | (rw [ah] at H; exact H) | (simp only [ah] at H ⊢; exact H)
      (try rw [ah] at ax); (try rw [ah] at ay); have aQ : ((wrap64 (aq)) / 2 ^ min (ad).toNat 64) = ap := ah; have aR : (ad) ≤ 64 → ((wrap64 (aq)) / 2 ^ (ad).toNat) = ap := shr_small ah; replace H := bkH H; obtain ⟨an, aV, H⟩ := H
      by_cases aA : an = ac
      ·rw [if_pos aA] at H; obtain ⟨aB, aC⟩ := kqT aA; clear aA; simp only [Option.some.injEq, Prod.mk.injEq] at H; obtain ⟨rfl, rfl, rfl⟩ := H
       go_wp2_with (first | ((with_reducible refine A0m (f := 107) rfl ?_); refine A07 (some 39) rfl rfl Tryd.func107 (by kernel_rfl) rfl #[.int .i64 ac] rfl km ?_; (with_reducible refine (A16.calls ac aa _ ax.out).mono ?_); rintro e w' ⟨rfl, ⟨nd, rfl⟩⟩; refine ⟨_, rfl, ?_⟩) | ((with_reducible refine A0m (f := 82) rfl ?_); refine A07 (some 46) rfl rfl Tryd.func82 (by kernel_rfl) rfl #[.slice A0 l0.length c0, .int .i64 (wrap64 (a1 + ag)), .int .i64 aa] rfl km ?_; (with_reducible refine (A02.calls au _ _ l0 (wrap64 (a1 + ag)) aa ai true _ ?ae ?af ay.out).mono ?_); (case ae => repeat (first | exact a3.out | (with_reducible refine Kd.A2r ?_ _) | (with_reducible refine Kd.A2v ?_ _) | (with_reducible refine Kd.A3c ?_))); (case af => exact a4.out); rintro e w' ⟨rfl, ⟨nd, rfl⟩⟩; refine ⟨_, rfl, ?_⟩) | ((with_reducible refine A0m (f := 108) rfl ?_); refine A07 (some 65) rfl rfl Tryd.func108 (by kernel_rfl) rfl #[.int .i64 ap] rfl (by (try simp only [List.map_toArray, List.map_cons, List.map_nil]); first | done | (simp only [ah]; rfl) | rfl | (simp only [List.length_drop, List.length_take]; rfl)) ?_; (with_reducible refine (A1i.calls au ap an _ aV.out).mono ?_); rintro e w' ⟨rfl, ⟨nd, rfl⟩⟩; refine ⟨_, rfl, ?_⟩))
       go_ret3
       exact ⟨by first | rfl | (simp; done) | (simp only [← al, ← aj, ← ah] <;> (first | rfl | simp)) | (simp [*]; done), by repeat (first | exact A09.refl _ | apply A09.step)⟩
      ·rw [if_neg aA] at H; obtain ⟨aB, aC⟩ := kqF aA; simp only [Option.some.injEq, Prod.mk.injEq] at H; obtain ⟨rfl, rfl, rfl⟩ := H
       go_wp2_with (first | ((with_reducible refine A0m (f := 107) rfl ?_); refine A07 (some 39) rfl rfl Tryd.func107 (by kernel_rfl) rfl #[.int .i64 ac] rfl km ?_; (with_reducible refine (A16.calls ac aa _ ax.out).mono ?_); rintro e w' ⟨rfl, ⟨nd, rfl⟩⟩; refine ⟨_, rfl, ?_⟩) | ((with_reducible refine A0m (f := 82) rfl ?_); refine A07 (some 46) rfl rfl Tryd.func82 (by kernel_rfl) rfl #[.slice A0 l0.length c0, .int .i64 (wrap64 (a1 + ag)), .int .i64 aa] rfl km ?_; (with_reducible refine (A02.calls au _ _ l0 (wrap64 (a1 + ag)) aa ai true _ ?ae ?af ay.out).mono ?_); (case ae => repeat (first | exact a3.out | (with_reducible refine Kd.A2r ?_ _) | (with_reducible refine Kd.A2v ?_ _) | (with_reducible refine Kd.A3c ?_))); (case af => exact a4.out); rintro e w' ⟨rfl, ⟨nd, rfl⟩⟩; refine ⟨_, rfl, ?_⟩) | ((with_reducible refine A0m (f := 108) rfl ?_); refine A07 (some 65) rfl rfl Tryd.func108 (by kernel_rfl) rfl #[.int .i64 ap] rfl (by (try simp only [List.map_toArray, List.map_cons, List.map_nil]); first | done | (simp only [ah]; rfl) | rfl | (simp only [List.length_drop, List.length_take]; rfl)) ?_; (with_reducible refine (A1i.calls au ap an _ aV.out).mono ?_); rintro e w' ⟨rfl, ⟨nd, rfl⟩⟩; refine ⟨_, rfl, ?_⟩))
       go_ret3
       exact ⟨by first | rfl | (simp; done) | (simp only [← al, ← aj, ← ah] <;> (first | rfl | simp)) | (simp [*]; done), by repeat (first | exact A09.refl _ | apply A09.step)⟩
     ·rw [if_neg a9] at H
      exact absurd H (by simp)
    ·rw [if_neg a6] at H; have a8 : decide (0 < aa) = false := decide_eq_false a6; clear a6; replace H := bkH H; obtain ⟨a2, aW, H⟩ := H
     by_cases aD : a2 = ac
     ·rw [if_pos aD] at H; obtain ⟨aE, aF⟩ := kqT aD; clear aD; simp only [Option.some.injEq, Prod.mk.injEq] at H; obtain ⟨rfl, rfl, rfl⟩ := H
      go_wp2_with (first | ((with_reducible refine A0m (f := 107) rfl ?_); refine A07 (some 39) rfl rfl Tryd.func107 (by kernel_rfl) rfl #[.int .i64 ac] rfl km ?_; (with_reducible refine (A16.calls ac aa _ ax.out).mono ?_); rintro e w' ⟨rfl, ⟨nd, rfl⟩⟩; refine ⟨_, rfl, ?_⟩) | ((with_reducible refine A0m (f := 82) rfl ?_); refine A07 (some 46) rfl rfl Tryd.func82 (by kernel_rfl) rfl #[.slice A0 l0.length c0, .int .i64 (wrap64 (a1 + ag)), .int .i64 aa] rfl km ?_; (with_reducible refine (A02.calls au _ _ l0 (wrap64 (a1 + ag)) aa ai true _ ?ae ?af ay.out).mono ?_); (case ae => repeat (first | exact a3.out | (with_reducible refine Kd.A2r ?_ _) | (with_reducible refine Kd.A2v ?_ _) | (with_reducible refine Kd.A3c ?_))); (case af => exact a4.out); rintro e w' ⟨rfl, ⟨nd, rfl⟩⟩; refine ⟨_, rfl, ?_⟩) | ((with_reducible refine A0m (f := 108) rfl ?_); refine A07 (some 65) rfl rfl Tryd.func108 (by kernel_rfl) rfl #[.int .i64 (wrap64 (ai))] rfl km ?_; (with_reducible refine (A1i.calls au (wrap64 (ai)) a2 _ aW.out).mono ?_); rintro e w' ⟨rfl, ⟨nd, rfl⟩⟩; refine ⟨_, rfl, ?_⟩))
      go_ret3
      exact ⟨by first | rfl | (simp; done) | (simp [*]; done), by repeat (first | exact A09.refl _ | apply A09.step)⟩
     ·rw [if_neg aD] at H; obtain ⟨aE, aF⟩ := kqF aD; simp only [Option.some.injEq, Prod.mk.injEq] at H; obtain ⟨rfl, rfl, rfl⟩ := H
      go_wp2_with (first | ((with_reducible refine A0m (f := 107) rfl ?_); refine A07 (some 39) rfl rfl Tryd.func107 (by kernel_rfl) rfl #[.int .i64 ac] rfl km ?_; (with_reducible refine (A16.calls ac aa _ ax.out).mono ?_); rintro e w' ⟨rfl, ⟨nd, rfl⟩⟩; refine ⟨_, rfl, ?_⟩) | ((with_reducible refine A0m (f := 82) rfl ?_); refine A07 (some 46) rfl rfl Tryd.func82 (by kernel_rfl) rfl #[.slice A0 l0.length c0, .int .i64 (wrap64 (a1 + ag)), .int .i64 aa] rfl km ?_; (with_reducible refine (A02.calls au _ _ l0 (wrap64 (a1 + ag)) aa ai true _ ?ae ?af ay.out).mono ?_); (case ae => repeat (first | exact a3.out | (with_reducible refine Kd.A2r ?_ _) | (with_reducible refine Kd.A2v ?_ _) | (with_reducible refine Kd.A3c ?_))); (case af => exact a4.out); rintro e w' ⟨rfl, ⟨nd, rfl⟩⟩; refine ⟨_, rfl, ?_⟩) | ((with_reducible refine A0m (f := 108) rfl ?_); refine A07 (some 65) rfl rfl Tryd.func108 (by kernel_rfl) rfl #[.int .i64 (wrap64 (ai))] rfl km ?_; (with_reducible refine (A1i.calls au (wrap64 (ai)) a2 _ aW.out).mono ?_); rintro e w' ⟨rfl, ⟨nd, rfl⟩⟩; refine ⟨_, rfl, ?_⟩))
      go_ret3
      exact ⟨by first | rfl | (simp; done) | (simp [*]; done), by repeat (first | exact A09.refl _ | apply A09.step)⟩
   ·replace aG := Bool.eq_false_iff.mpr aG; subst aG
    rw [if_neg (show ¬ (false = true) by decide)] at H; simp only [Option.some.injEq, Prod.mk.injEq] at H; obtain ⟨rfl, rfl, rfl⟩ := H
    go_wp2_with (first | ((with_reducible refine A0m (f := 107) rfl ?_); refine A07 (some 39) rfl rfl Tryd.func107 (by kernel_rfl) rfl #[.int .i64 ac] rfl km ?_; (with_reducible refine (A16.calls ac aa _ ax.out).mono ?_); rintro e w' ⟨rfl, ⟨nd, rfl⟩⟩; refine ⟨_, rfl, ?_⟩) | ((with_reducible refine A0m (f := 82) rfl ?_); refine A07 (some 46) rfl rfl Tryd.func82 (by kernel_rfl) rfl #[.slice A0 l0.length c0, .int .i64 (wrap64 (a1 + ag)), .int .i64 aa] rfl km ?_; (with_reducible refine (A02.calls au _ _ l0 (wrap64 (a1 + ag)) aa ai false _ ?ae ?af ay.out).mono ?_); (case ae => repeat (first | exact a3.out | (with_reducible refine Kd.A2r ?_ _) | (with_reducible refine Kd.A2v ?_ _) | (with_reducible refine Kd.A3c ?_))); (case af => exact a4.out); rintro e w' ⟨rfl, ⟨nd, rfl⟩⟩; refine ⟨_, rfl, ?_⟩))
    go_ret3
    exact ⟨by first | rfl | (simp; done) | (simp [*]; done), by repeat (first | exact A09.refl _ | apply A09.step)⟩
end Go.Proofs.YtodocfjbpkicgaaDoor.All
