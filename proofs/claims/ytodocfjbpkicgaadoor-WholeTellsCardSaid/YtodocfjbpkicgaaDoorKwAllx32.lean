-- copied by a program of the session
import Derived.Test.YtodocfjbpkicgaaDoorKwAllx9
set_option linter.unusedSimpArgs false
set_option linter.unusedVariables false
set_option maxHeartbeats 8000000
set_option maxRecDepth 100000
namespace Go.Proofs.YtodocfjbpkicgaaDoor.All
open Go.RowKit Go.Zw Go.Zl Go.Zm
attribute [local go_sem] A2h A2r
mutual
def A12.j2 : Nat → List Int → Int → Int → Int → Option (Int × Int × Option Int)
 | 0, _, _, _, _ => none
 | k + 1, x0, x1, x7, x8 => (A3i.f x7).bind fun aa => ((A0z.f k x0 (wrap64 (x1 + x8)) aa).bind fun ac => (if ac.2 = true then (if aa > 0 then (if 0 ≤ (wrap64 (64 - aa)) then ((A19.f k (shr .i64 (wrap64 (shl .u64 ac.1 (wrap64 (64 - aa)))) (wrap64 (64 - aa)))).bind fun ad => (if ad = x7 then (some (shr .i64 (wrap64 (shl .u64 ac.1 (wrap64 (64 - aa)))) (wrap64 (64 - aa)), wrap64 (x8 + aa), none)) else (some (0, 0, some 3)))) else (none)) else ((A19.f k (wrap64 (ac.1))).bind fun ae => (if ae = x7 then (some (wrap64 (ac.1), wrap64 (x8 + aa), none)) else (some (0, 0, some 3))))) else (some (0, 0, some 2))))
def A12.l0 : Nat → List Int → Int → Int → Int → Option (Int × Int × Option Int)
 | 0, _, _, _, _ => none
 | k + 1, x0, x1, x7, x8 => if x7 < 4 then ((A0z.f k x0 (wrap64 (x1 + x8)) 1).bind fun aa => (if x1 < 0 then (A12.j1 k x0 x1 x7 x8 aa.1 true) else (A12.j1 k x0 x1 x7 x8 aa.1 (!aa.2)))) else (A12.j2 k x0 x1 x7 x8)
def A12.j1 : Nat → List Int → Int → Int → Int → Int → Bool → Option (Int × Int × Option Int)
 | 0, _, _, _, _, _, _ => none
 | k + 1, x0, x1, x7, x8, x9, aa => if aa = true then (some (0, 0, some 2)) else (if x9 = 0 then (A12.j2 k x0 x1 x7 (wrap64 (x8 + 1))) else (A12.l0 k x0 x1 (wrap64 (x7 + 1)) (wrap64 (x8 + 1))))
end
def A12.f (k : Nat) (l0 : List Int) (a1 : Int) : Option (Int × Int × Option Int) := A12.l0 k l0 a1 0 0
theorem A12.A2x : ∀ k, (∀ y0 y1 y2 y3, LeO (A12.j2 k y0 y1 y2 y3) (A12.j2 (k + 1) y0 y1 y2 y3)) ∧ (∀ y0 y1 y2 y3, LeO (A12.l0 k y0 y1 y2 y3) (A12.l0 (k + 1) y0 y1 y2 y3)) ∧ (∀ y0 y1 y2 y3 y4 y5, LeO (A12.j1 k y0 y1 y2 y3 y4 y5) (A12.j1 (k + 1) y0 y1 y2 y3 y4 y5))
 | 0 => ⟨fun _ _ _ _ r h => by simp [A12.j2] at h, fun _ _ _ _ r h => by simp [A12.l0] at h, fun _ _ _ _ _ _ r h => by simp [A12.j1] at h⟩
 | k + 1 => by
  obtain ⟨ih0, ih1, ih2⟩ := A12.A2x k
  refine ⟨?_, ?_, ?_⟩ <;> intros <;> (first | unfold A12.j2 | unfold A12.l0 | unfold A12.j1) <;> (
   repeat' first
   | with_reducible apply ih0
   | with_reducible apply ih1
   | with_reducible apply ih2
   | with_reducible apply A0z.mono
   | with_reducible apply A19.mono
   | (with_reducible exact LeO.refl _)
   | (with_reducible exact LeO.none _)
   | (with_reducible refine LeO.ite ?_ ?_)
   | (with_reducible refine LeO.bind ?_ (fun _ => ?_))
   | exact LeO.none _
   | refine LeO.ite ?_ ?_
   | refine LeO.bind ?_ (fun _ => ?_))
theorem A12.mono : ∀ a0 a1 k, LeO (A12.f k a0 a1) (A12.f (k + 1) a0 a1) := by
 intro a0 a1 k
 obtain ⟨ih0, ih1, ih2⟩ := A12.A2x k
 unfold A12.f
 repeat' first
   | with_reducible apply ih0
   | with_reducible apply ih1
   | with_reducible apply ih2
   | with_reducible apply A0z.mono
   | with_reducible apply A19.mono
   | (with_reducible exact LeO.refl _)
   | (with_reducible exact LeO.none _)
   | (with_reducible refine LeO.ite ?_ ?_)
   | (with_reducible refine LeO.bind ?_ (fun _ => ?_))
   | exact LeO.none _
   | refine LeO.ite ?_ ?_
   | refine LeO.bind ?_ (fun _ => ?_)
theorem A12.calls (k : Nat) (A0 : Option Addr) (c0 : Nat) (l0 : List Int) (a1 : Int) (r1 : Int) (r2 : Int) (r3 : Option Int) (w : World) (hr0 : Kd.C (Kd.int .u8) w A0 l0.length l0) (hc0 : l0.length ≤ c0) (h : A12.f k l0 a1 = some (r1, r2, r3)) :
  Calls Tryd.prog 83 #[.slice A0 l0.length c0, .int .i64 a1] w fun e w' => e = .returned (.tuple #[.int .i64 r1, .int .i64 r2, errW r3]) ∧ A0q w w' := by
 have hu38 := Tryd.underlying38; have hu94 := Tryd.underlying94; have ay := ak hr0; have az := ak hc0; clear hr0 hc0; have H := h; clear h; unfold A12.f at H; have aE := ak H; clear H
 go_enter Tryd.func83, Tryd.ntmps83
 go_upto_block 0 with (fail)
 go_cut [7, 8] (fun v7 v8 wc => ∃ (kq : Nat) (af : Int) (x8_2 : Int), v7 = .int .i64 af ∧ v8 = .int .i64 x8_2 ∧ A0b (A12.j2 kq l0 a1 af x8_2 = some (r1, r2, r3)) ∧ A0b (kq ≤ k) ∧ A0q w wc)
 case first =>
  have H := aE.out; clear aE; have H' := ak H; clear H
  go_wp2
  go_loopg [7, 8] k (fun kq v7 v8 w' => ∃ (x7_1 : Int) (x8_1 : Int), v7 = .int .i64 x7_1 ∧ v8 = .int .i64 x8_1 ∧ A0b (A12.l0 kq l0 a1 x7_1 x8_1 = some (r1, r2, r3)) ∧ A0b (kq ≤ k) ∧ A0q w w')
  case atStart => exact ⟨(0), (0), kE, kE, H', ⟨Nat.le_refl _⟩, by repeat (first | exact A0q.refl _ | apply A0q.step)⟩
  case round =>
   clear H'; obtain ⟨x7_1, x8_1, rfl, rfl, HA, a2, ⟨m1, rfl⟩⟩ := hrel
   cases gk with
   | zero => exact absurd HA.out (by simp [A12.l0])
   | succ k1 =>
    have H := HA.out; clear HA; simp only [A12.l0] at H
    by_cases c4 : x7_1 < 4
    ·rw [kIp c4] at H; have an := kTt c4; clear c4
     (first | rw [an] | (simp only [A2i, A2u]; rw [an]) | skip)
     replace H := bkH H; obtain ⟨⟨av, a4⟩, A5, H⟩ := H; (try dsimp only at H); have aF := ak H; clear H
     go_upto_region 4 with (first | ((with_reducible refine A0l (f := 82) rfl ?_); refine A1d (some 22) rfl rfl Tryd.func82 (by kernel_rfl) rfl #[.slice A0 l0.length c0, .int .i64 (wrap64 (a1 + x8_1)), .int .i64 1] rfl km ?_; (with_reducible refine (A0z.calls k1 _ _ l0 (wrap64 (a1 + x8_1)) 1 av a4 _ ?ac ?ad A5.out).mono ?_); (case ac => exact kC ay.out); (case ad => exact az.out); rintro e w' ⟨rfl, ⟨nd, rfl⟩⟩; refine ⟨_, rfl, ?_⟩))
     (try simp only [Act.put, List.setIfInBounds_toArray, List.set_cons_zero, List.set_cons_succ])
     go_cut [30] (fun aU wc => ∃ (kq : Nat) (al : Bool), aU = .bool al ∧ A0b (A12.j1 kq l0 a1 x7_1 x8_1 av al = some (r1, r2, r3)) ∧ A0b (kq ≤ k1) ∧ A0q w wc)
     case first =>
      have H := aF.out; clear aF
      by_cases c7 : a1 < 0
      ·rw [kIp c7] at H; have ao := kTt c7; clear c7
       (first | rw [ao] | (simp only [A2i, A2u]; rw [ao]) | skip)
       have H' := ak H; clear H
       go_wp2
       go_meet
       case rel => exact ⟨_, (true), kE, H', ⟨by have := a2.out; first | omega | exact Nat.le_refl _⟩, by repeat (first | exact A0q.refl _ | apply A0q.step)⟩
      rw [kIn c7] at H; have ao := kFf c7; clear c7
      (first | rw [ao] | (simp only [A2i, A2u]; rw [ao]) | skip)
      have H' := ak H; clear H
      go_wp2
      go_meet
      case rel => exact ⟨_, (!a4), kE, H', ⟨by have := a2.out; first | omega | exact Nat.le_refl _⟩, by repeat (first | exact A0q.refl _ | apply A0q.step)⟩
     case rest =>
      clear aF; obtain ⟨kq, al, rfl, HA, aG, ⟨mc5, rfl⟩⟩ := hcut
      cases kq with
      | zero => exact absurd HA.out (by simp [A12.j1])
      | succ aV =>
       have H := HA.out; clear HA; simp only [A12.j1] at H
       by_cases c8 : al = true
       ·subst c8
        rw [if_pos rfl] at H; obtain ⟨rfl, rfl, rfl⟩ := kI3 H
        go_wp2
        go_ret3
        exact ⟨by first | rfl | (simp; done) | (simp [*]; done), by repeat (first | exact A0q.refl _ | apply A0q.step)⟩
       replace c8 := Bool.eq_false_iff.mpr c8; subst c8
       rw [if_neg (show ¬ (false = true) by decide)] at H
       by_cases c9 : av = 0
       ·rw [kIp c9] at H; obtain ⟨aH, aI⟩ := kqT c9; clear c9; have H' := ak H; clear H
        go_wp2
        go_meet
        case rel => exact ⟨_, (x7_1), (wrap64 (x8_1 + 1)), kE, kE, H', ⟨by have := a2.out; have := aG.out; first | omega | exact Nat.le_refl _⟩, by repeat (first | exact A0q.refl _ | apply A0q.step)⟩
       rw [kIn c9] at H; obtain ⟨aH, aI⟩ := kqF c9; have H' := ak H; clear H
       go_wp2
       go_roundg aV
       case measure => have := a2.out; have := aG.out; omega
       case rel => exact ⟨(wrap64 (x7_1 + 1)), (wrap64 (x8_1 + 1)), kE, kE, H', ⟨by have := a2.out; have := aG.out; omega⟩, by repeat (first | exact A0q.refl _ | apply A0q.step)⟩
    rw [kIn c4] at H; have an := kFf c4; clear c4
    (first | rw [an] | (simp only [A2i, A2u]; rw [an]) | skip)
    have H' := ak H; clear H
    go_wp2
    go_meet
    case rel => exact ⟨_, (x7_1), (x8_1), kE, kE, H', ⟨by have := a2.out; first | omega | exact Nat.le_refl _⟩, by repeat (first | exact A0q.refl _ | apply A0q.step)⟩
 case rest =>
  clear aE; obtain ⟨kq, af, x8_2, rfl, rfl, HA, aW, ⟨mc2, rfl⟩⟩ := hcut
  cases kq with
  | zero => exact absurd HA.out (by simp [A12.j2])
  | succ aq =>
   have H := HA.out; clear HA; simp only [A12.j2] at H; replace H := bkH H; obtain ⟨aa, ar, H⟩ := H; replace H := bkH H; obtain ⟨⟨ah, aJ⟩, au, H⟩ := H; (try dsimp only at H)
   by_cases aD : aJ = true
   ·subst aD
    rw [if_pos rfl] at H
    by_cases a3 : aa > 0
    ·rw [kIp a3] at H; have a5 : decide (0 < aa) = true := kTt a3; clear a3; obtain ⟨ai, aj⟩ := kX (wrap64 (64 - aa))
     (first | rw [aj] at H | simp only [aj] at H)
     (try rw [aj] at ar); (try rw [aj] at au); have aK : (IntKind.i64.wrap (64 - aa)) = ai := (A2i _).trans aj
     by_cases a6 : 0 ≤ (ai)
     ·rw [kIp a6] at H; have aP := kEt a6; have aQ := kTt a6; clear a6; obtain ⟨ap, ag⟩ := kX (shl .u64 ah (ai))
      (first | rw [ag] at H | simp only [ag] at H)
      (try rw [ag] at ar); (try rw [ag] at au); have aL : (IntKind.u64.wrap (ah * 2 ^ min (ai).toNat 64)) = ap := ag; have aM : (ai) ≤ 64 → (IntKind.u64.wrap (ah * 2 ^ (ai).toNat)) = ap := shl_small ag; have aR := eq_true (kD : 0 ≤ (ai)); obtain ⟨am, ae⟩ := kX (shr .i64 (wrap64 (ap)) (ai))
      (first | rw [ae] at H | simp only [ae] at H)
      (try rw [ae] at ar); (try rw [ae] at au); have aN : ((wrap64 (ap)) / 2 ^ min (ai).toNat 64) = am := ae; have aO : (ai) ≤ 64 → ((wrap64 (ap)) / 2 ^ (ai).toNat) = am := shr_small ae; replace H := bkH H; obtain ⟨aw, aS, H⟩ := H
      by_cases a7 : aw = af
      ·rw [kIp a7] at H; obtain ⟨a8, a9⟩ := kqT a7; clear a7; obtain ⟨rfl, rfl, rfl⟩ := kI3 H
       go_wp2_with (first | ((with_reducible refine A0l (f := 107) rfl ?_); refine A1d (some 39) rfl rfl Tryd.func107 (by kernel_rfl) rfl #[.int .i64 af] rfl km ?_; (with_reducible refine (A3i.calls af aa _ ar.out).mono ?_); rintro e w' ⟨rfl, ⟨nd, rfl⟩⟩; refine ⟨_, rfl, ?_⟩) | ((with_reducible refine A0l (f := 82) rfl ?_); refine A1d (some 46) rfl rfl Tryd.func82 (by kernel_rfl) rfl #[.slice A0 l0.length c0, .int .i64 (wrap64 (a1 + x8_2)), .int .i64 aa] rfl km ?_; (with_reducible refine (A0z.calls aq _ _ l0 (wrap64 (a1 + x8_2)) aa ah true _ ?ac ?ad au.out).mono ?_); (case ac => exact kC ay.out); (case ad => exact az.out); rintro e w' ⟨rfl, ⟨nd, rfl⟩⟩; refine ⟨_, rfl, ?_⟩) | ((with_reducible refine A0l (f := 108) rfl ?_); refine A1d (some 65) rfl rfl Tryd.func108 (by kernel_rfl) rfl #[.int .i64 am] rfl (by (try simp only [List.map_toArray, List.map_cons, List.map_nil]); first | done | (simp only [ae]; rfl) | rfl | (simp only [List.length_drop, List.length_take]; rfl)) ?_; (with_reducible refine (A19.calls aq am aw _ aS.out).mono ?_); rintro e w' ⟨rfl, ⟨nd, rfl⟩⟩; refine ⟨_, rfl, ?_⟩))
       go_ret3
       exact ⟨by first | rfl | (simp; done) | (simp only [← aj, ← ag, ← ae] <;> (first | rfl | simp)) | (simp [*]; done), by repeat (first | exact A0q.refl _ | apply A0q.step)⟩
      rw [kIn a7] at H; obtain ⟨a8, a9⟩ := kqF a7; obtain ⟨rfl, rfl, rfl⟩ := kI3 H
      go_wp2_with (first | ((with_reducible refine A0l (f := 107) rfl ?_); refine A1d (some 39) rfl rfl Tryd.func107 (by kernel_rfl) rfl #[.int .i64 af] rfl km ?_; (with_reducible refine (A3i.calls af aa _ ar.out).mono ?_); rintro e w' ⟨rfl, ⟨nd, rfl⟩⟩; refine ⟨_, rfl, ?_⟩) | ((with_reducible refine A0l (f := 82) rfl ?_); refine A1d (some 46) rfl rfl Tryd.func82 (by kernel_rfl) rfl #[.slice A0 l0.length c0, .int .i64 (wrap64 (a1 + x8_2)), .int .i64 aa] rfl km ?_; (with_reducible refine (A0z.calls aq _ _ l0 (wrap64 (a1 + x8_2)) aa ah true _ ?ac ?ad au.out).mono ?_); (case ac => exact kC ay.out); (case ad => exact az.out); rintro e w' ⟨rfl, ⟨nd, rfl⟩⟩; refine ⟨_, rfl, ?_⟩) | ((with_reducible refine A0l (f := 108) rfl ?_); refine A1d (some 65) rfl rfl Tryd.func108 (by kernel_rfl) rfl #[.int .i64 am] rfl (by (try simp only [List.map_toArray, List.map_cons, List.map_nil]); first | done | (simp only [ae]; rfl) | rfl | (simp only [List.length_drop, List.length_take]; rfl)) ?_; (with_reducible refine (A19.calls aq am aw _ aS.out).mono ?_); rintro e w' ⟨rfl, ⟨nd, rfl⟩⟩; refine ⟨_, rfl, ?_⟩))
      go_ret3
      exact ⟨by first | rfl | (simp; done) | (simp only [← aj, ← ag, ← ae] <;> (first | rfl | simp)) | (simp [*]; done), by repeat (first | exact A0q.refl _ | apply A0q.step)⟩
     exact (kA a6 H).elim
    rw [kIn a3] at H; have a5 : decide (0 < aa) = false := kFf a3; clear a3; replace H := bkH H; obtain ⟨ax, aT, H⟩ := H
    by_cases aA : ax = af
    ·rw [kIp aA] at H; obtain ⟨aB, aC⟩ := kqT aA; clear aA; obtain ⟨rfl, rfl, rfl⟩ := kI3 H
     go_wp2_with (first | ((with_reducible refine A0l (f := 107) rfl ?_); refine A1d (some 39) rfl rfl Tryd.func107 (by kernel_rfl) rfl #[.int .i64 af] rfl km ?_; (with_reducible refine (A3i.calls af aa _ ar.out).mono ?_); rintro e w' ⟨rfl, ⟨nd, rfl⟩⟩; refine ⟨_, rfl, ?_⟩) | ((with_reducible refine A0l (f := 82) rfl ?_); refine A1d (some 46) rfl rfl Tryd.func82 (by kernel_rfl) rfl #[.slice A0 l0.length c0, .int .i64 (wrap64 (a1 + x8_2)), .int .i64 aa] rfl km ?_; (with_reducible refine (A0z.calls aq _ _ l0 (wrap64 (a1 + x8_2)) aa ah true _ ?ac ?ad au.out).mono ?_); (case ac => exact kC ay.out); (case ad => exact az.out); rintro e w' ⟨rfl, ⟨nd, rfl⟩⟩; refine ⟨_, rfl, ?_⟩) | ((with_reducible refine A0l (f := 108) rfl ?_); refine A1d (some 65) rfl rfl Tryd.func108 (by kernel_rfl) rfl #[.int .i64 (wrap64 (ah))] rfl km ?_; (with_reducible refine (A19.calls aq (wrap64 (ah)) ax _ aT.out).mono ?_); rintro e w' ⟨rfl, ⟨nd, rfl⟩⟩; refine ⟨_, rfl, ?_⟩))
     go_ret3
     exact ⟨by first | rfl | (simp; done) | (simp [*]; done), by repeat (first | exact A0q.refl _ | apply A0q.step)⟩
    rw [kIn aA] at H; obtain ⟨aB, aC⟩ := kqF aA; obtain ⟨rfl, rfl, rfl⟩ := kI3 H
    go_wp2_with (first | ((with_reducible refine A0l (f := 107) rfl ?_); refine A1d (some 39) rfl rfl Tryd.func107 (by kernel_rfl) rfl #[.int .i64 af] rfl km ?_; (with_reducible refine (A3i.calls af aa _ ar.out).mono ?_); rintro e w' ⟨rfl, ⟨nd, rfl⟩⟩; refine ⟨_, rfl, ?_⟩) | ((with_reducible refine A0l (f := 82) rfl ?_); refine A1d (some 46) rfl rfl Tryd.func82 (by kernel_rfl) rfl #[.slice A0 l0.length c0, .int .i64 (wrap64 (a1 + x8_2)), .int .i64 aa] rfl km ?_; (with_reducible refine (A0z.calls aq _ _ l0 (wrap64 (a1 + x8_2)) aa ah true _ ?ac ?ad au.out).mono ?_); (case ac => exact kC ay.out); (case ad => exact az.out); rintro e w' ⟨rfl, ⟨nd, rfl⟩⟩; refine ⟨_, rfl, ?_⟩) | ((with_reducible refine A0l (f := 108) rfl ?_); refine A1d (some 65) rfl rfl Tryd.func108 (by kernel_rfl) rfl #[.int .i64 (wrap64 (ah))] rfl km ?_; (with_reducible refine (A19.calls aq (wrap64 (ah)) ax _ aT.out).mono ?_); rintro e w' ⟨rfl, ⟨nd, rfl⟩⟩; refine ⟨_, rfl, ?_⟩))
    go_ret3
    exact ⟨by first | rfl | (simp; done) | (simp [*]; done), by repeat (first | exact A0q.refl _ | apply A0q.step)⟩
   replace aD := Bool.eq_false_iff.mpr aD; subst aD
   rw [if_neg (show ¬ (false = true) by decide)] at H; obtain ⟨rfl, rfl, rfl⟩ := kI3 H
   go_wp2_with (first | ((with_reducible refine A0l (f := 107) rfl ?_); refine A1d (some 39) rfl rfl Tryd.func107 (by kernel_rfl) rfl #[.int .i64 af] rfl km ?_; (with_reducible refine (A3i.calls af aa _ ar.out).mono ?_); rintro e w' ⟨rfl, ⟨nd, rfl⟩⟩; refine ⟨_, rfl, ?_⟩) | ((with_reducible refine A0l (f := 82) rfl ?_); refine A1d (some 46) rfl rfl Tryd.func82 (by kernel_rfl) rfl #[.slice A0 l0.length c0, .int .i64 (wrap64 (a1 + x8_2)), .int .i64 aa] rfl km ?_; (with_reducible refine (A0z.calls aq _ _ l0 (wrap64 (a1 + x8_2)) aa ah false _ ?ac ?ad au.out).mono ?_); (case ac => exact kC ay.out); (case ad => exact az.out); rintro e w' ⟨rfl, ⟨nd, rfl⟩⟩; refine ⟨_, rfl, ?_⟩))
   go_ret3
   exact ⟨by first | rfl | (simp; done) | (simp [*]; done), by repeat (first | exact A0q.refl _ | apply A0q.step)⟩
end Go.Proofs.YtodocfjbpkicgaaDoor.All
