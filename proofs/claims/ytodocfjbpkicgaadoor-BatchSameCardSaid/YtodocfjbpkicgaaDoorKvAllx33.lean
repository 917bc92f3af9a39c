-- copied by a program of the session
import Derived.Test.YtodocfjbpkicgaaDoorKvAllx4
import Derived.Test.YtodocfjbpkicgaaDoorKvAllx2
section
namespace Go.Proofs.YtodocfjbpkicgaaDoor.All
open Go.RowKit Go.Proofs.YtodocfjbpkicgaaDoorW.PrintWords Go.Proofs.YtodocfjbpkicgaaDoorW.PrintLast Go.Proofs.YtodocfjbpkicgaaDoorW.PrintMore
attribute [local go_sem] A17 A18 A2o A2p A1y A1z A19 A2a
set_option linter.unusedVariables false
set_option linter.unusedSimpArgs false
attribute [local go_sem high] eqA42
def A04.l0 : Nat → List (S42) → List (S42) → Int → Option (Int)
 | 0, _, _, _ => none
 | k + 1, x0, x1, x5 => if x5 < (x0.length : Int) then (if 0 ≤ x5 then (if x5 < (x1.length : Int) then (if (!(((A2h x0 x5).f0) == ((A2h x1 x5).f0)) || (!(((A2h x0 x5).f1) == ((A2h x1 x5).f1)))) = true then (some 0) else (A04.l0 k x0 x1 (wrap64 (x5 + 1)))) else (none)) else (none)) else (some 1)
def A04.f (k : Nat) (l0 : List (S42)) (l1 : List (S42)) : Option (Int) := if (l0.length : Int) = (l1.length : Int) then (A04.l0 k l0 l1 0) else (some 0)
theorem A04.A2w : ∀ k, (∀ y0 y1 y2, LeO (A04.l0 k y0 y1 y2) (A04.l0 (k + 1) y0 y1 y2))
 | 0 => fun _ _ _ r h => by simp [A04.l0] at h
 | k + 1 => by
  have ih0 := A04.A2w k <;> intros <;> (first | unfold A04.l0) <;> (
   repeat' first
   | (with_reducible exact ih0 _ _ _)
   | (with_reducible exact LeO.refl _)
   | (with_reducible exact LeO.none _)
   | (with_reducible refine LeO.ite ?_ ?_)
   | (with_reducible refine LeO.bind ?_ (fun _ => ?_))
   | exact ih0 _ _ _
   | exact LeO.none _
   | refine LeO.ite ?_ ?_
   | refine LeO.bind ?_ (fun _ => ?_))
theorem A04.mono : ∀ a0 a1 k, LeO (A04.f k a0 a1) (A04.f (k + 1) a0 a1) := by
 intro a0 a1 k
 have ih0 := A04.A2w k
 unfold A04.f
 repeat' first
   | (with_reducible exact ih0 _ _ _)
   | (with_reducible exact LeO.refl _)
   | (with_reducible exact LeO.none _)
   | (with_reducible refine LeO.ite ?_ ?_)
   | (with_reducible refine LeO.bind ?_ (fun _ => ?_))
   | exact ih0 _ _ _
   | exact LeO.none _
   | refine LeO.ite ?_ ?_
   | refine LeO.bind ?_ (fun _ => ?_)
set_option maxHeartbeats 8000000 in
set_option maxRecDepth 100000 in
theorem A04.calls (k : Nat) (A0 : Option Addr) (c0 : Nat) (l0 : List (S42)) (A1 : Option Addr) (c1 : Nat) (l1 : List (S42)) (r : Int) (w : World) (hr0 : Kd.C k42 w A0 l0.length l0) (hc0 : l0.length ≤ c0) (hr1 : Kd.C k42 w A1 l1.length l1) (hc1 : l1.length ≤ c1) (h : A04.f k l0 l1 = some r) :
  Calls Tryd.prog 16 #[.slice A0 l0.length c0, .slice A1 l1.length c1] w fun e w' => e = .returned (.int .i64 r) ∧ A09 w w' := by
 have hu42 := Tryd.underlying42; have ax := ak hr0; have a3 := ak hc0; clear hr0 hc0; have ay := ak hr1; have a4 := ak hc1; clear hr1 hc1; have H : (if (l0.length : Int) = (l1.length : Int) then (A04.l0 k l0 l1 0) else (some 0)) = some r := h; clear h
 by_cases c3 : (l0.length : Int) = (l1.length : Int)
 ·rw [if_pos c3] at H; obtain ⟨aq, ar⟩ := kqT c3
  have au : (l0.length == l1.length) = true := by first | simpa using c3 | (simp at c3 ⊢; omega)
  clear c3; have H' := ak H; clear H
  go_enter Tryd.func16, Tryd.ntmps16
  go_wp2
  repeat ((first | go_quiet (fail) | go_region); try go_wp2)
  go_loopg [5] k (fun kq v5 w' => ∃ (x5_1 : Int), v5 = .int .i64 x5_1 ∧ A0g (A04.l0 kq l0 l1 x5_1 = some r) ∧ A0g (kq ≤ k) ∧ A09 w w')
  case atStart => exact ⟨(0), kE, H', ⟨Nat.le_refl _⟩, by repeat (first | exact A09.refl _ | apply A09.step)⟩
  case round =>
   clear H'; obtain ⟨x5_1, rfl, HA, az, ⟨m1, rfl⟩⟩ := hrel
   cases gk with
   | zero => exact absurd HA.out (by simp [A04.l0])
   | succ k1 =>
    have H := HA.out; clear HA; simp only [A04.l0] at H
    by_cases c4 : x5_1 < (l0.length : Int)
    ·rw [if_pos c4] at H; have av : decide (x5_1 < (l0.length : Int)) = true := decide_eq_true c4; clear c4
     by_cases c5 : 0 ≤ x5_1
     ·rw [if_pos c5] at H; have a1 := decide_eq_true c5; clear c5
      by_cases c6 : x5_1 < (l1.length : Int)
      ·rw [if_pos c6] at H; have a2 : decide (x5_1 < (l1.length : Int)) = true := decide_eq_true c6; clear c6
       by_cases c7 : (!(((A2h l0 x5_1).f0) == ((A2h l1 x5_1).f0)) || (!(((A2h l0 x5_1).f1) == ((A2h l1 x5_1).f1)))) = true
       ·rw [if_pos c7] at H; have aw : (!(((A2h l0 x5_1).f0) == ((A2h l1 x5_1).f0)) || (!(((A2h l0 x5_1).f1) == ((A2h l1 x5_1).f1)))) = true := c7; clear c7; obtain rfl := Option.some.inj H; have af : 0 ≤ (x5_1 : Int) := kD; have ad : x5_1 < (l0.length : Int) := kD; obtain ⟨ao, am, ah, ai⟩ := at_T42 ax.out x5_1 af ad
        cases am
        replace af := eq_true af
        (try (have aa := ad; simp only [List.length_drop, List.length_take] at aa; replace aa := eq_true aa)); replace ad := eq_true ad
        have ag : 0 ≤ (x5_1 : Int) := kD; have ae : x5_1 < (l1.length : Int) := kD; obtain ⟨ap, an, aj, al⟩ := at_T42 ay.out x5_1 ag ae
        cases an
        replace ag := eq_true ag
        (try (have ac := ae; simp only [List.length_drop, List.length_take] at ac; replace ac := eq_true ac)); replace ae := eq_true ae
        go_wp2
        repeat ((first | go_quiet (fail) | go_region); try go_wp2)
        go_ret
        exact ⟨by first | rfl | (simp; done) | (simp [*]; done), by repeat (first | exact A09.refl _ | apply A09.step)⟩
       ·rw [if_neg c7] at H
        have aw : (!(((A2h l0 x5_1).f0) == ((A2h l1 x5_1).f0)) || (!(((A2h l0 x5_1).f1) == ((A2h l1 x5_1).f1)))) = false := by simpa using c7
        clear c7; have H' := ak H; clear H; have af : 0 ≤ (x5_1 : Int) := kD; have ad : x5_1 < (l0.length : Int) := kD; obtain ⟨ao, am, ah, ai⟩ := at_T42 ax.out x5_1 af ad
        cases am
        replace af := eq_true af
        (try (have aa := ad; simp only [List.length_drop, List.length_take] at aa; replace aa := eq_true aa)); replace ad := eq_true ad
        have ag : 0 ≤ (x5_1 : Int) := kD; have ae : x5_1 < (l1.length : Int) := kD; obtain ⟨ap, an, aj, al⟩ := at_T42 ay.out x5_1 ag ae
        cases an
        replace ag := eq_true ag
        (try (have ac := ae; simp only [List.length_drop, List.length_take] at ac; replace ac := eq_true ac)); replace ae := eq_true ae
        go_wp2
        repeat ((first | go_quiet (fail) | go_region); try go_wp2)
        go_roundg k1
        case measure => have := az.out; omega
        case rel => exact ⟨(wrap64 (x5_1 + 1)), kE, H', ⟨by have := az.out; omega⟩, by repeat (first | exact A09.refl _ | apply A09.step)⟩
      ·rw [if_neg c6] at H
       exact absurd H (by simp)
     ·rw [if_neg c5] at H
      exact absurd H (by simp)
    ·rw [if_neg c4] at H; have av : decide (x5_1 < (l0.length : Int)) = false := decide_eq_false c4; clear c4; obtain rfl := Option.some.inj H
     go_wp2
     repeat ((first | go_quiet (fail) | go_region); try go_wp2)
     go_ret
     exact ⟨by first | rfl | (simp; done) | (simp [*]; done), by repeat (first | exact A09.refl _ | apply A09.step)⟩
 ·rw [if_neg c3] at H; obtain ⟨aq, ar⟩ := kqF c3
  have au : (l0.length == l1.length) = false := by first | simpa using c3 | (simp at c3 ⊢; omega)
  obtain rfl := Option.some.inj H
  go_enter Tryd.func16, Tryd.ntmps16
  go_wp2
  repeat ((first | go_quiet (fail) | go_region); try go_wp2)
  go_ret
  exact ⟨by first | rfl | (simp; done) | (simp [*]; done), by repeat (first | exact A09.refl _ | apply A09.step)⟩
end Go.Proofs.YtodocfjbpkicgaaDoor.All
end
section
namespace Go.Proofs.YtodocfjbpkicgaaDoor.All
open Go.RowKit Go.Proofs.YtodocfjbpkicgaaDoorW.PrintWords Go.Proofs.YtodocfjbpkicgaaDoorW.PrintLast Go.Proofs.YtodocfjbpkicgaaDoorW.PrintMore
attribute [local go_sem] A17 A18 A2o A2p A1y A1z A19 A2a
set_option linter.unusedVariables false
set_option linter.unusedSimpArgs false
def A26.f (a0 : Int) : Option (Bool) := if a0 = 1 then (some true) else (some (a0 == 2))
set_option maxHeartbeats 8000000 in
set_option maxRecDepth 100000 in
theorem A26.calls (a0 : Int) (r : Bool) (w : World) (h : A26.f a0 = some r) :
  Calls Tryd.prog 50 #[.int .i64 a0] w fun e w' => e = .returned (.bool r) ∧ A09 w w' := by
 have H : (if a0 = 1 then (some true) else (some (a0 == 2))) = some r := h; clear h
 by_cases c2 : a0 = 1
 ·rw [if_pos c2] at H; obtain ⟨aa, ac⟩ := kqT c2; clear c2; obtain rfl := Option.some.inj H
  go_enter Tryd.func50, Tryd.ntmps50
  go_wp2
  go_ret
  exact ⟨by first | rfl | (simp; done) | (simp [*]; done), by repeat (first | exact A09.refl _ | apply A09.step)⟩
 ·rw [if_neg c2] at H; obtain ⟨aa, ac⟩ := kqF c2; obtain rfl := Option.some.inj H
  go_enter Tryd.func50, Tryd.ntmps50
  go_wp2
  go_ret
  exact ⟨by first | rfl | (simp; done) | (simp [*]; done), by repeat (first | exact A09.refl _ | apply A09.step)⟩
def A3p.f (k : Nat) (l0 : List Int) (a1 : Int) : Option (Int × Int × Int × Option Int) := (A02.f k l0 a1 64).bind fun aa => (if aa.2 = true then ((A02.f k l0 (wrap64 (a1 + 64)) 64).bind fun ac => (if ac.2 = true then (some (wrap64 (aa.1), ac.1, 128, none)) else (some (0, 0, 0, some 2)))) else (some (0, 0, 0, some 2)))
set_option maxHeartbeats 8000000 in
set_option maxRecDepth 100000 in
theorem A3p.calls (k : Nat) (A0 : Option Addr) (c0 : Nat) (l0 : List Int) (a1 : Int) (r1 : Int) (r2 : Int) (r3 : Int) (r4 : Option Int) (w : World) (hr0 : Kd.C (Kd.int .u8) w A0 l0.length l0) (hc0 : l0.length ≤ c0) (h : A3p.f k l0 a1 = some (r1, r2, r3, r4)) :
  Calls Tryd.prog 51 #[.slice A0 l0.length c0, .int .i64 a1] w fun e w' => e = .returned (.tuple #[.agg #[.int .i64 r1, .int .u64 r2], .int .i64 r3, errW r4]) ∧ Below w.heap.size w w' := by
 have hu42 := Tryd.underlying42; have hu38 := Tryd.underlying38; have hu94 := Tryd.underlying94; have ao := ak hr0; have ap := ak hc0; clear hr0 hc0; have HB := ak (Below.refl w.heap.size w); have H : ((A02.f k l0 a1 64).bind fun ai => (if ai.2 = true then ((A02.f k l0 (wrap64 (a1 + 64)) 64).bind fun aj => (if aj.2 = true then (some (wrap64 (ai.1), aj.1, 128, none)) else (some (0, 0, 0, some 2)))) else (some (0, 0, 0, some 2)))) = some (r1, r2, r3, r4) := h; clear h; replace H := bkH H; obtain ⟨⟨ah, a3⟩, A3, H⟩ := H; (try dsimp only at H)
 by_cases c4 : a3 = true
 ·subst c4
  rw [if_pos rfl] at H; replace H := bkH H; obtain ⟨⟨an, a4⟩, A5, H⟩ := H; (try dsimp only at H)
  by_cases c6 : a4 = true
  ·subst c6
   rw [if_pos rfl] at H; simp only [Option.some.injEq, Prod.mk.injEq] at H; obtain ⟨rfl, rfl, rfl, rfl⟩ := H
   go_enter Tryd.func51, Tryd.ntmps51
   go_wp2_with (first | ((with_reducible refine A0s (N := 4) rfl ?_); refine bxe 4 #[.int .i64 0, .int .u64 0] 42 (h := ?_); intro ac hg w7 hbox hb; have aa := ak (hbox); have al := kG hg HB; have am := kG hg HB; replace HB := kH HB hb; clear hb hbox hg) | ((with_reducible refine A0m (f := 82) rfl ?_); refine A07 (some 13) rfl rfl Tryd.func82 (by kernel_rfl) rfl #[.slice A0 l0.length c0, .int .i64 a1, .int .i64 64] rfl km ?_; (with_reducible refine (A02.calls k _ _ l0 a1 64 ah true _ ?ad ?ae A3.out).mono ?_); (case ad => repeat (first | exact (Kd.A15 ao.out HB.out) | (with_reducible refine Kd.A2r ?_ _) | (with_reducible refine Kd.A2v ?_ _) | (with_reducible refine Kd.A3c ?_))); (case ae => exact ap.out); rintro e w' ⟨rfl, ⟨nd, rfl⟩⟩; refine ⟨_, rfl, ?_⟩; (try (rw [A2m w7]; generalize hq_ : World.drewN w7 _ = w7; have af : A0g (w7.heap[ac]? = some (.cells #[.int .i64 0, .int .u64 0] 42 (0, 0))) := ⟨by rw [← hq_]; exact (kb aa)⟩; have ag : A0g (Below w.heap.size w w7) := ⟨by rw [← hq_]; exact (kl HB)⟩; clear aa HB hq_; have aa := af; have HB := ag; clear af ag))) | ((with_reducible refine A0m (f := 82) rfl ?_); refine A07 (some 24) rfl rfl Tryd.func82 (by kernel_rfl) rfl #[.slice A0 l0.length c0, .int .i64 (wrap64 (a1 + 64)), .int .i64 64] rfl km ?_; (with_reducible refine (A02.calls k _ _ l0 (wrap64 (a1 + 64)) 64 an true _ ?ad ?ae A5.out).mono ?_); (case ad => repeat (first | exact (Kd.A15 ao.out HB.out) | (with_reducible refine Kd.A2r ?_ _) | (with_reducible refine Kd.A2v ?_ _) | (with_reducible refine Kd.A3c ?_))); (case ae => exact ap.out); rintro e w' ⟨rfl, ⟨nd, rfl⟩⟩; refine ⟨_, rfl, ?_⟩; (try (rw [A2m w7]; generalize hq_ : World.drewN w7 _ = w7; have af : A0g (w7.heap[ac]? = some (.cells #[.int .i64 0, .int .u64 0] 42 (0, 0))) := ⟨by rw [← hq_]; exact (kb aa)⟩; have ag : A0g (Below w.heap.size w w7) := ⟨by rw [← hq_]; exact (kl HB)⟩; clear aa HB hq_; have aa := af; have HB := ag; clear af ag)); obtain ⟨a5, a6⟩ := kc2 aa; obtain ⟨a7, a8⟩ := kf2 aa))
   refine bodyPost_ret (results_ctt rfl _ _ ac 42 #[.int .i64 (wrap64 (ah)), .int .u64 an] (0, 0) _ rfl (kb aa) Tryd.underlying42 rfl (by kernel_rfl)) rfl ?_
   exact ⟨kF, (kl HB)⟩
  ·replace c6 := Bool.eq_false_iff.mpr c6; subst c6
   rw [if_neg (show ¬ (false = true) by decide)] at H; simp only [Option.some.injEq, Prod.mk.injEq] at H; obtain ⟨rfl, rfl, rfl, rfl⟩ := H
   go_enter Tryd.func51, Tryd.ntmps51
   go_wp2_with (first | ((with_reducible refine A0s (N := 4) rfl ?_); refine bxe 4 #[.int .i64 0, .int .u64 0] 42 (h := ?_); intro ac hg w9 hbox hb; have aa := ak (hbox); have al := kG hg HB; have am := kG hg HB; replace HB := kH HB hb; clear hb hbox hg) | ((with_reducible refine A0m (f := 82) rfl ?_); refine A07 (some 13) rfl rfl Tryd.func82 (by kernel_rfl) rfl #[.slice A0 l0.length c0, .int .i64 a1, .int .i64 64] rfl km ?_; (with_reducible refine (A02.calls k _ _ l0 a1 64 ah true _ ?ad ?ae A3.out).mono ?_); (case ad => repeat (first | exact (Kd.A15 ao.out HB.out) | (with_reducible refine Kd.A2r ?_ _) | (with_reducible refine Kd.A2v ?_ _) | (with_reducible refine Kd.A3c ?_))); (case ae => exact ap.out); rintro e w' ⟨rfl, ⟨nd, rfl⟩⟩; refine ⟨_, rfl, ?_⟩; (try (rw [A2m w9]; generalize hq_ : World.drewN w9 _ = w9; have af : A0g (w9.heap[ac]? = some (.cells #[.int .i64 0, .int .u64 0] 42 (0, 0))) := ⟨by rw [← hq_]; exact (kb aa)⟩; have ag : A0g (Below w.heap.size w w9) := ⟨by rw [← hq_]; exact (kl HB)⟩; clear aa HB hq_; have aa := af; have HB := ag; clear af ag))) | ((with_reducible refine A0m (f := 82) rfl ?_); refine A07 (some 24) rfl rfl Tryd.func82 (by kernel_rfl) rfl #[.slice A0 l0.length c0, .int .i64 (wrap64 (a1 + 64)), .int .i64 64] rfl km ?_; (with_reducible refine (A02.calls k _ _ l0 (wrap64 (a1 + 64)) 64 an false _ ?ad ?ae A5.out).mono ?_); (case ad => repeat (first | exact (Kd.A15 ao.out HB.out) | (with_reducible refine Kd.A2r ?_ _) | (with_reducible refine Kd.A2v ?_ _) | (with_reducible refine Kd.A3c ?_))); (case ae => exact ap.out); rintro e w' ⟨rfl, ⟨nd, rfl⟩⟩; refine ⟨_, rfl, ?_⟩; (try (rw [A2m w9]; generalize hq_ : World.drewN w9 _ = w9; have af : A0g (w9.heap[ac]? = some (.cells #[.int .i64 0, .int .u64 0] 42 (0, 0))) := ⟨by rw [← hq_]; exact (kb aa)⟩; have ag : A0g (Below w.heap.size w w9) := ⟨by rw [← hq_]; exact (kl HB)⟩; clear aa HB hq_; have aa := af; have HB := ag; clear af ag)); obtain ⟨ar, au⟩ := kc2 aa; obtain ⟨av, aw⟩ := kf2 aa))
   refine bodyPost_ret (results_ctt rfl _ _ ac 42 #[.int .i64 0, .int .u64 0] (0, 0) _ rfl (kb aa) Tryd.underlying42 rfl (by kernel_rfl)) rfl ?_
   exact ⟨kF, (kl HB)⟩
 ·replace c4 := Bool.eq_false_iff.mpr c4; subst c4
  rw [if_neg (show ¬ (false = true) by decide)] at H; simp only [Option.some.injEq, Prod.mk.injEq] at H; obtain ⟨rfl, rfl, rfl, rfl⟩ := H
  go_enter Tryd.func51, Tryd.ntmps51
  go_wp2_with (first | ((with_reducible refine A0s (N := 4) rfl ?_); refine bxe 4 #[.int .i64 0, .int .u64 0] 42 (h := ?_); intro ac hg aq hbox hb; have aa := ak (hbox); have al := kG hg HB; have am := kG hg HB; replace HB := kH HB hb; clear hb hbox hg) | ((with_reducible refine A0m (f := 82) rfl ?_); refine A07 (some 13) rfl rfl Tryd.func82 (by kernel_rfl) rfl #[.slice A0 l0.length c0, .int .i64 a1, .int .i64 64] rfl km ?_; (with_reducible refine (A02.calls k _ _ l0 a1 64 ah false _ ?ad ?ae A3.out).mono ?_); (case ad => repeat (first | exact (Kd.A15 ao.out HB.out) | (with_reducible refine Kd.A2r ?_ _) | (with_reducible refine Kd.A2v ?_ _) | (with_reducible refine Kd.A3c ?_))); (case ae => exact ap.out); rintro e w' ⟨rfl, ⟨nd, rfl⟩⟩; refine ⟨_, rfl, ?_⟩; (try (rw [A2m aq]; generalize hq_ : World.drewN aq _ = aq; have af : A0g (aq.heap[ac]? = some (.cells #[.int .i64 0, .int .u64 0] 42 (0, 0))) := ⟨by rw [← hq_]; exact (kb aa)⟩; have ag : A0g (Below w.heap.size w aq) := ⟨by rw [← hq_]; exact (kl HB)⟩; clear aa HB hq_; have aa := af; have HB := ag; clear af ag)); obtain ⟨ax, ay⟩ := kc2 aa; obtain ⟨az, a2⟩ := kf2 aa))
  refine bodyPost_ret (results_ctt rfl _ _ ac 42 #[.int .i64 0, .int .u64 0] (0, 0) _ rfl (kb aa) Tryd.underlying42 rfl (by kernel_rfl)) rfl ?_
  exact ⟨kF, (kl HB)⟩
def A2c.f (a0 : Int) : Option (Int × Int × Int × Int × Int × Option Int) := some (0, 0, 0, 0, 0, some a0)
set_option maxHeartbeats 8000000 in
set_option maxRecDepth 100000 in
theorem A2c.calls (a0 : Int) (r1 : Int) (r2 : Int) (r3 : Int) (r4 : Int) (r5 : Int) (r6 : Option Int) (w : World) (h : A2c.f a0 = some (r1, r2, r3, r4, r5, r6)) :
  Calls Tryd.prog 109 #[.int .i64 a0] w fun e w' => e = .returned (.tuple #[.int .u64 r1, .agg #[.int .u64 r2, .int .i64 r3, .int .i64 r4], .int .i64 r5, errW r6]) ∧ Below w.heap.size w w' := by
 have hu30 := Tryd.underlying30; have hu38 := Tryd.underlying38; have hu94 := Tryd.underlying94; have HB := ak (Below.refl w.heap.size w); have H : (some (0, 0, 0, 0, 0, some a0)) = some (r1, r2, r3, r4, r5, r6) := h; clear h; simp only [Option.some.injEq, Prod.mk.injEq] at H; obtain ⟨rfl, rfl, rfl, rfl, rfl, rfl⟩ := H
 go_enter Tryd.func109, Tryd.ntmps109
 go_wp2_with (first | ((with_reducible refine A0s (N := 3) rfl ?_); refine bxe 3 #[.int .u64 0, .int .i64 0, .int .i64 0] 30 (h := ?_); intro ac hg w2 hbox hb; have aa := ak (hbox); have aj := kG hg HB; have al := kG hg HB; replace HB := kH HB hb; clear hb hbox hg; obtain ⟨ad, ae, af⟩ := kc3 aa; obtain ⟨ag, ah, ai⟩ := kf3 aa))
 refine bodyPost_ret (A06 (rs := [.tmp 2, .cell 3 30, .tmp 4, .tmp 5]) rfl (by simp) (.tmp (.cell ac 30 #[.int .u64 0, .int .i64 0, .int .i64 0] (0, 0) _ rfl (kb aa) Tryd.underlying30 rfl (by kernel_rfl) (.tmp (.tmp .nil))))) rfl ?_
 exact ⟨kF, (kl HB)⟩
def A0t (w0 W : World) (g : Nat) (f0 : List Int) (f1 : Int) (f2 : Bool) : Prop := ∃ A0 c0, W.heap[g]? = some (.cells #[.slice A0 f0.length c0, .int .i64 f1, .bool f2] 194 (0, 0)) ∧ w0.heap.size ≤ g ∧ Kd.C (Kd.int .u8) w0 A0 f0.length f0 ∧ f0.length ≤ c0
theorem A0t.grown {w0 W : World} {g : Nat} {f0 : List Int} {f1 : Int} {f2 : Bool} {W1 : World} {row : Option Nat} (h : A0t w0 W g f0 f1 f2) (hw : W.grownBy W1 row) (hne : some g ≠ row) : A0t w0 W1 g f0 f1 f2 := by
 obtain ⟨A0, c0, hb, hg, hr0, hl0⟩ := h
 exact ⟨A0, c0, blk_grown hb hw hne, hg, hr0, hl0⟩
theorem A0t.kept {w0 W : World} {g : Nat} {f0 : List Int} {f1 : Int} {f2 : Bool} {W1 : World} {S : Nat → Prop} (h : A0t w0 W g f0 f1 f2) (hk : Kept W W1 S) (hne : ¬ S g) : A0t w0 W1 g f0 f1 f2 := by
 obtain ⟨A0, c0, hb, hg, hr0, hl0⟩ := h
 exact ⟨A0, c0, blk_kept hb hk hne, hg, hr0, hl0⟩
theorem A0t.below {w0 W : World} {g : Nat} {f0 : List Int} {f1 : Int} {f2 : Bool} {W1 : World} (h : A0t w0 W g f0 f1 f2) (hw : Below W.heap.size W W1) : A0t w0 W1 g f0 f1 f2 := h.grown (grown_of_below hw none) (by simp)
theorem A0t.alloc {w0 W : World} {g : Nat} {f0 : List Int} {f1 : Int} {f2 : Bool} (h : A0t w0 W g f0 f1 f2) (o : Obj) : A0t w0 (W.alloc o) g f0 f1 f2 := h.below (A0i (Below.refl _ _) o)
theorem A0t.drewN {w0 W : World} {g : Nat} {f0 : List Int} {f1 : Int} {f2 : Bool} (h : A0t w0 W g f0 f1 f2) (m : Nat) : A0t w0 (W.drewN m) g f0 f1 f2 := h
theorem A0t.drew {w0 W : World} {g : Nat} {f0 : List Int} {f1 : Int} {f2 : Bool} (h : A0t w0 W g f0 f1 f2) : A0t w0 W.drew g f0 f1 f2 := h
theorem A0t.at_ {w0 W : World} {g : Nat} {f0 : List Int} {f1 : Int} {f2 : Bool} {w' : World} {m : Nat} (hq : W.drewN m = w') (h : A0t w0 W g f0 f1 f2) : A0t w0 w' g f0 f1 f2 := by subst hq; exact A0t.drewN h m
theorem A0t.apart {w0 W : World} {g : Nat} {f0 : List Int} {f1 : Int} {f2 : Bool} {α : Type} {d : Kd α} {e : Nat} {base : Nat} {ok : Nat → Prop} {v : Value} {xs : List α} (h : A0t w0 W g f0 f1 f2) (ho : d.R e W base ok v xs) (ht : ∀ q, q ∈ e :: d.E → q ≠ 194) : d.R e W base (fun k => ok k ∧ k ≠ g) v xs := by
 obtain ⟨A0, c0, hb, hg, hr0, hl0⟩ := h
 exact Kd.A1c ho hb ht
theorem A0t.own_ne {w0 W : World} {g : Nat} {f0 : List Int} {f1 : Int} {f2 : Bool} {α : Type} {d : Kd α} {e : Nat} {base : Nat} {ok : Nat → Prop} {v : Value} {xs : List α} (h : A0t w0 W g f0 f1 f2) (ho : d.R e W base ok v xs) (ht : e ≠ 194) : some g ≠ v.ownBlock := by
 obtain ⟨A0, c0, hb, hg, hr0, hl0⟩ := h
 exact Kd.R_ne ho hb ht
theorem A0t.lt {w0 W : World} {g : Nat} {f0 : List Int} {f1 : Int} {f2 : Bool} (h : A0t w0 W g f0 f1 f2) : g < W.heap.size := by
 obtain ⟨A0, c0, hb, hg, hr0, hl0⟩ := h
 exact A24 hb
theorem A0t.ge {w0 W : World} {g : Nat} {f0 : List Int} {f1 : Int} {f2 : Bool} (h : A0t w0 W g f0 f1 f2) : w0.heap.size ≤ g := by
 obtain ⟨A0, c0, hb, hg, hr0, hl0⟩ := h
 exact hg
theorem A0t.ne_blk {w0 W : World} {g : Nat} {f0 : List Int} {f1 : Int} {f2 : Bool} {a : Nat} {cs : Array Value} {t : TypeId} {fr : Nat × Nat} (h : A0t w0 W g f0 f1 f2) (hb2 : W.heap[a]? = some (.cells cs t fr)) (ht : t ≠ 194) : g ≠ a := by
 obtain ⟨A0, c0, hb, hg, hr0, hl0⟩ := h
 rintro rfl
 rw [hb] at hb2
 injection hb2 with hb2
 injection hb2 with _ ht2
 exact ht ht2.symm
theorem A0t.far {w0 W : World} {g : Nat} {f0 : List Int} {f1 : Int} {f2 : Bool} {p : Addr} (h : A0t w0 W g f0 f1 f2) (hne : g ≠ p.block) (u : Value) : A0t w0 (W.setCell p u) g f0 f1 f2 := by
 obtain ⟨A0, c0, hb, hg, hr0, hl0⟩ := h
 exact ⟨A0, c0, blk_far hb hne u, hg, hr0, hl0⟩
theorem A20 {W : World} {g : Nat} {A0 : Option Addr} {c0 : Nat} {f0 : List Int} {f1 : Int} {f2 : Bool} (h : W.heap[g]? = some (.cells #[.slice A0 f0.length c0, .int .i64 f1, .bool f2] 194 (0, 0))) : W.cell? ⟨g, 0, none⟩ = some (.slice A0 f0.length c0) := (A1v h 0).trans rfl
theorem A0t.set_0 {w0 W : World} {g : Nat} {f0 : List Int} {f1 : Int} {f2 : Bool} (h : A0t w0 W g f0 f1 f2) {A_ : Option Addr} {n_ c_ : Nat} {x : List Int} (hr_ : Kd.C (Kd.int .u8) w0 A_ x.length x) (hl_ : x.length ≤ c_) (hn_ : n_ = x.length) : A0t w0 (W.setCell ⟨g, 0, none⟩ (.slice A_ n_ c_)) g x f1 f2 := by
 subst hn_
 obtain ⟨A0, c0, hb, hg, hr0, hl0⟩ := h
 exact ⟨A_, c_, by simpa using blk_set hb 0 (.slice A_ x.length c_), hg, hr_, hl_⟩
theorem A22 {W : World} {g : Nat} {A0 : Option Addr} {c0 : Nat} {f0 : List Int} {f1 : Int} {f2 : Bool} (h : W.heap[g]? = some (.cells #[.slice A0 f0.length c0, .int .i64 f1, .bool f2] 194 (0, 0))) : W.cell? ⟨g, 1, none⟩ = some (.int .i64 f1) := (A1v h 1).trans rfl
theorem A0t.set_1 {w0 W : World} {g : Nat} {f0 : List Int} {f1 : Int} {f2 : Bool} (h : A0t w0 W g f0 f1 f2) (x : Int) : A0t w0 (W.setCell ⟨g, 1, none⟩ (.int .i64 x)) g f0 x f2 := by
 obtain ⟨A0, c0, hb, hg, hr0, hl0⟩ := h
 exact ⟨A0, c0, by simpa using blk_set hb 1 (.int .i64 x), hg, hr0, hl0⟩
theorem A23 {W : World} {g : Nat} {A0 : Option Addr} {c0 : Nat} {f0 : List Int} {f1 : Int} {f2 : Bool} (h : W.heap[g]? = some (.cells #[.slice A0 f0.length c0, .int .i64 f1, .bool f2] 194 (0, 0))) : W.cell? ⟨g, 2, none⟩ = some (.bool f2) := (A1v h 2).trans rfl
theorem A0t.set_2 {w0 W : World} {g : Nat} {f0 : List Int} {f1 : Int} {f2 : Bool} (h : A0t w0 W g f0 f1 f2) (x : Bool) : A0t w0 (W.setCell ⟨g, 2, none⟩ (.bool x)) g f0 f1 x := by
 obtain ⟨A0, c0, hb, hg, hr0, hl0⟩ := h
 exact ⟨A0, c0, by simpa using blk_set hb 2 (.bool x), hg, hr0, hl0⟩
theorem A0t.farA {w0 W : World} {g g' j : Nat} {u : Value} {f0 : List Int} {f1 : Int} {f2 : Bool} (h : A0t w0 W g f0 f1 f2) (hne : A0g (g ≠ g')) : A0t w0 (W.setCell ⟨g', j, none⟩ u) g f0 f1 f2 := h.far (by exact hne.out) u
theorem A0t.k {w0 W W' : World} {g : Nat} {f0 f0' : List Int} {f1 f1' : Int} {f2 f2' : Bool} (h : A0g (A0t w0 W g f0 f1 f2)) (hh : A0t w0 W g f0 f1 f2 → A0t w0 W' g f0' f1' f2' := by (intro h0_; repeat (first | (with_reducible first | exact h0_ | apply A0t.alloc | apply A0t.drewN | apply A0t.drew | apply A0t.set_1 | apply A0t.set_2 | refine A0t.farA ?_ (by assumption)) | exact h0_))) : A0t w0 W' g f0' f1' f2' := hh h.out
theorem A0t.kl {w W W' : World} (h : A0g (Below w.heap.size w W)) (hh : Below w.heap.size w W → Below w.heap.size w W' := by (intro h0_; repeat (first | (with_reducible first | exact h0_ | apply A0i | apply A0d | apply A0e | refine A0a ?_ (A0t.ge (A0g.out (by assumption))) | refine A0a ?_ (A0g.out (by assumption))) | exact h0_))) : Below w.heap.size w W' := hh h.out
def A1p.f (k : Nat) (ac : List Int) (ad : Int) (ae : Bool) (a1 : Int) : Option (Int × List Int × Int × Bool) := (A02.f k ac ad a1).bind fun aa => (if ae = true then (some (aa.1, ac, wrap64 (ad + a1), aa.2)) else (some (aa.1, ac, wrap64 (ad + a1), false)))
set_option maxHeartbeats 8000000 in
set_option maxRecDepth 100000 in
theorem A1p.calls (k : Nat) (g : Nat) (ad : List Int) (ae : Int) (ai : Bool) (a1 : Int) (r1 : Int) (r2 : List Int) (r3 : Int) (r4 : Bool) (w0 w : World) (hI : A0t w0 w g ad ae ai) (hB : Below w0.heap.size w0 w) (h : A1p.f k ad ae ai a1 = some (r1, r2, r3, r4)) :
  Calls Tryd.prog 110 #[.pointer (some ⟨g, 0, none⟩), .int .i64 a1] w fun e w' => e = .returned (.int .u64 r1) ∧ A0t w0 w' g r2 r3 r4 ∧ Below w0.heap.size w0 w' ∧ A0f w w' g none := by
 have aj := ak hI; have HK := ak (A0f.refl w g none); have HL := ak hB.size; clear hI; have HW0 := ak hB.size; have HB := ak hB; clear hB; have H : ((A02.f k ad ae a1).bind fun ah => (if ai = true then (some (ah.1, ad, wrap64 (ae + a1), ah.2)) else (some (ah.1, ad, wrap64 (ae + a1), false)))) = some (r1, r2, r3, r4) := h; clear h; replace H := bkH H; obtain ⟨⟨af, ag⟩, A3, H⟩ := H; (try dsimp only at H)
 by_cases c4 : ai = true
 ·subst c4
  rw [if_pos rfl] at H; simp only [Option.some.injEq, Prod.mk.injEq] at H; obtain ⟨rfl, rfl, rfl, rfl⟩ := H; obtain ⟨ASz5_0, cSz5_0, HGz5, hgz5, HSz5_0, HLSz5_0⟩ := aj.out; have al := A20 HGz5; have am := A22 HGz5; have an := A23 HGz5; have ao := A0c HGz5 0; have ap := A0c HGz5 1; have aq := A0c HGz5 2; clear HGz5 hgz5
  go_enter Tryd.func110, Tryd.ntmps110
  go_wp2_with (first | (go_at_call 82; (with_reducible refine (A02.calls k _ _ ad ae a1 af ag _ ?aa ?ac A3.out).mono ?_); (case aa => exact Kd.A15 HSz5_0 (A0t.kl HB)); (case ac => exact HLSz5_0); rintro e w' ⟨rfl, ⟨nd, rfl⟩⟩; (try first | exact ⟨rfl, _, World.drewN_drewN _ _ _⟩ | exact ⟨rfl, _, Eq.trans (World.drewN_drewN _ _ _) (congrArg (World.drewN _) (Nat.add_assoc _ _ _))⟩)))
  repeat (go_quiet (first | (go_at_call 82; (with_reducible refine (A02.calls k _ _ ad ae a1 af ag _ ?aa ?ac A3.out).mono ?_); (case aa => exact Kd.A15 HSz5_0 (A0t.kl HB)); (case ac => exact HLSz5_0); rintro e w' ⟨rfl, ⟨nd, rfl⟩⟩; (try first | exact ⟨rfl, _, World.drewN_drewN _ _ _⟩ | exact ⟨rfl, _, Eq.trans (World.drewN_drewN _ _ _) (congrArg (World.drewN _) (Nat.add_assoc _ _ _))⟩))); try go_wp2_with (first | (go_at_call 82; (with_reducible refine (A02.calls k _ _ ad ae a1 af ag _ ?aa ?ac A3.out).mono ?_); (case aa => exact Kd.A15 HSz5_0 (A0t.kl HB)); (case ac => exact HLSz5_0); rintro e w' ⟨rfl, ⟨nd, rfl⟩⟩; (try first | exact ⟨rfl, _, World.drewN_drewN _ _ _⟩ | exact ⟨rfl, _, Eq.trans (World.drewN_drewN _ _ _) (congrArg (World.drewN _) (Nat.add_assoc _ _ _))⟩))))
  go_ret
  exact ⟨kF, (A0t.k aj), (A0t.kl HB), (kk HK)⟩
 ·replace c4 := Bool.eq_false_iff.mpr c4; subst c4
  rw [if_neg (show ¬ (false = true) by decide)] at H; simp only [Option.some.injEq, Prod.mk.injEq] at H; obtain ⟨rfl, rfl, rfl, rfl⟩ := H; obtain ⟨ASz6_0, cSz6_0, HGz6, hgz6, HSz6_0, HLSz6_0⟩ := aj.out; have ar := A20 HGz6; have au := A22 HGz6; have av := A23 HGz6; have aw := A0c HGz6 0; have ax := A0c HGz6 1; have ay := A0c HGz6 2; clear HGz6 hgz6
  go_enter Tryd.func110, Tryd.ntmps110
  go_wp2_with (first | (go_at_call 82; (with_reducible refine (A02.calls k _ _ ad ae a1 af ag _ ?aa ?ac A3.out).mono ?_); (case aa => exact Kd.A15 HSz6_0 (A0t.kl HB)); (case ac => exact HLSz6_0); rintro e w' ⟨rfl, ⟨nd, rfl⟩⟩; (try first | exact ⟨rfl, _, World.drewN_drewN _ _ _⟩ | exact ⟨rfl, _, Eq.trans (World.drewN_drewN _ _ _) (congrArg (World.drewN _) (Nat.add_assoc _ _ _))⟩)))
  repeat (go_quiet (first | (go_at_call 82; (with_reducible refine (A02.calls k _ _ ad ae a1 af ag _ ?aa ?ac A3.out).mono ?_); (case aa => exact Kd.A15 HSz6_0 (A0t.kl HB)); (case ac => exact HLSz6_0); rintro e w' ⟨rfl, ⟨nd, rfl⟩⟩; (try first | exact ⟨rfl, _, World.drewN_drewN _ _ _⟩ | exact ⟨rfl, _, Eq.trans (World.drewN_drewN _ _ _) (congrArg (World.drewN _) (Nat.add_assoc _ _ _))⟩))); try go_wp2_with (first | (go_at_call 82; (with_reducible refine (A02.calls k _ _ ad ae a1 af ag _ ?aa ?ac A3.out).mono ?_); (case aa => exact Kd.A15 HSz6_0 (A0t.kl HB)); (case ac => exact HLSz6_0); rintro e w' ⟨rfl, ⟨nd, rfl⟩⟩; (try first | exact ⟨rfl, _, World.drewN_drewN _ _ _⟩ | exact ⟨rfl, _, Eq.trans (World.drewN_drewN _ _ _) (congrArg (World.drewN _) (Nat.add_assoc _ _ _))⟩))))
  go_ret
  exact ⟨kF, (A0t.k aj), (A0t.kl HB), (kk HK)⟩
end Go.Proofs.YtodocfjbpkicgaaDoor.All
end
