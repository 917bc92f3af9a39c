-- copied by a program of the session
import Derived.Test.YtiahbcaoikoogabDoorKnAllx3
section
namespace Go.Proofs.YtiahbcaoikoogabDoor.All
open Go.RowKit Go.Proofs.YtiahbcaoikoogabDoorW.PrintWords Go.Proofs.YtiahbcaoikoogabDoorW.PrintLast Go.Proofs.YtiahbcaoikoogabDoorW.PrintMore
attribute [local go_sem] A2m A2n A25 A26 A2b A2c A2o A2p
set_option linter.unusedVariables false
set_option linter.unusedSimpArgs false
def tab_row.f (a0 : Int) : Option (Int × Int) := if a0 < 128 then (some (1, 0)) else (if a0 < 192 then (some (2, 7)) else (if a0 < 224 then (some (3, 9)) else (if a0 < 240 then (some (4, 12)) else (some (4, 64)))))
set_option maxHeartbeats 8000000 in
set_option maxRecDepth 100000 in
theorem tab_row.calls (a0 : Int) (r1 : Int) (r2 : Int) (w : World) (h : tab_row.f a0 = some (r1, r2)) :
  Calls Tryd.prog 58 #[.int .u64 a0] w fun e w' => e = .returned (.agg #[.int .i64 r1, .int .i64 r2]) ∧ Below w.heap.size w w' := by
 have hu114 := Tryd.underlying114; have HB := ak (Below.refl w.heap.size w); have H : (if a0 < 128 then (some (1, 0)) else (if a0 < 192 then (some (2, 7)) else (if a0 < 224 then (some (3, 9)) else (if a0 < 240 then (some (4, 12)) else (some (4, 64)))))) = some (r1, r2) := h; clear h
 by_cases c2 : a0 < 128
 ·rw [if_pos c2] at H; have aw : decide (a0 < 128) = true := decide_eq_true c2; clear c2; simp only [Option.some.injEq, Prod.mk.injEq] at H; obtain ⟨rfl, rfl⟩ := H
  go_enter Tryd.func58, Tryd.ntmps58
  go_wp2_with (first | ((with_reducible refine A0p (N := 2) rfl ?_); refine bxe 2 #[.int .i64 0, .int .i64 0] 114 (h := ?_); intro ac hg w3 hbox hb; have aa := ak (hbox); have ad := kG hg HB; have ae := kG hg HB; replace HB := kH HB hb; clear hb hbox hg; obtain ⟨ax, ay⟩ := kc2 aa; obtain ⟨az, a1⟩ := kf2 aa))
  refine bodyPost_ret (results_cell_row rfl _ _ ac 114 #[.int .i64 1, .int .i64 0] (0, 0) _ rfl (kb aa) Tryd.underlying114 rfl (by kernel_rfl)) rfl ?_
  exact ⟨kF, (kl HB)⟩
 ·rw [if_neg c2] at H; have aw : decide (a0 < 128) = false := decide_eq_false c2; clear c2
  by_cases c5 : a0 < 192
  ·rw [if_pos c5] at H; have a2 := decide_eq_true c5; clear c5; simp only [Option.some.injEq, Prod.mk.injEq] at H; obtain ⟨rfl, rfl⟩ := H
   go_enter Tryd.func58, Tryd.ntmps58
   go_wp2_with (first | ((with_reducible refine A0p (N := 2) rfl ?_); refine bxe 2 #[.int .i64 0, .int .i64 0] 114 (h := ?_); intro ac hg w6 hbox hb; have aa := ak (hbox); have ad := kG hg HB; have ae := kG hg HB; replace HB := kH HB hb; clear hb hbox hg; obtain ⟨a3, a4⟩ := kc2 aa; obtain ⟨a5, a6⟩ := kf2 aa))
   refine bodyPost_ret (results_cell_row rfl _ _ ac 114 #[.int .i64 2, .int .i64 7] (0, 0) _ rfl (kb aa) Tryd.underlying114 rfl (by kernel_rfl)) rfl ?_
   exact ⟨kF, (kl HB)⟩
  ·rw [if_neg c5] at H; have a2 := decide_eq_false c5; clear c5
   by_cases c8 : a0 < 224
   ·rw [if_pos c8] at H; have a7 := decide_eq_true c8; clear c8; simp only [Option.some.injEq, Prod.mk.injEq] at H; obtain ⟨rfl, rfl⟩ := H
    go_enter Tryd.func58, Tryd.ntmps58
    go_wp2_with (first | ((with_reducible refine A0p (N := 2) rfl ?_); refine bxe 2 #[.int .i64 0, .int .i64 0] 114 (h := ?_); intro ac hg w9 hbox hb; have aa := ak (hbox); have ad := kG hg HB; have ae := kG hg HB; replace HB := kH HB hb; clear hb hbox hg; obtain ⟨ah, ai⟩ := kc2 aa; obtain ⟨aj, al⟩ := kf2 aa))
    refine bodyPost_ret (results_cell_row rfl _ _ ac 114 #[.int .i64 3, .int .i64 9] (0, 0) _ rfl (kb aa) Tryd.underlying114 rfl (by kernel_rfl)) rfl ?_
    exact ⟨kF, (kl HB)⟩
   ·rw [if_neg c8] at H; have a7 := decide_eq_false c8; clear c8
    by_cases af : a0 < 240
    ·rw [if_pos af] at H; have ag := decide_eq_true af; clear af; simp only [Option.some.injEq, Prod.mk.injEq] at H; obtain ⟨rfl, rfl⟩ := H
     go_enter Tryd.func58, Tryd.ntmps58
     go_wp2_with (first | ((with_reducible refine A0p (N := 2) rfl ?_); refine bxe 2 #[.int .i64 0, .int .i64 0] 114 (h := ?_); intro ac hg a8 hbox hb; have aa := ak (hbox); have ad := kG hg HB; have ae := kG hg HB; replace HB := kH HB hb; clear hb hbox hg; obtain ⟨am, an⟩ := kc2 aa; obtain ⟨ao, ap⟩ := kf2 aa))
     refine bodyPost_ret (results_cell_row rfl _ _ ac 114 #[.int .i64 4, .int .i64 12] (0, 0) _ rfl (kb aa) Tryd.underlying114 rfl (by kernel_rfl)) rfl ?_
     exact ⟨kF, (kl HB)⟩
    ·rw [if_neg af] at H; have ag := decide_eq_false af; clear af; simp only [Option.some.injEq, Prod.mk.injEq] at H; obtain ⟨rfl, rfl⟩ := H
     go_enter Tryd.func58, Tryd.ntmps58
     go_wp2_with (first | ((with_reducible refine A0p (N := 2) rfl ?_); refine bxe 2 #[.int .i64 0, .int .i64 0] 114 (h := ?_); intro ac hg a9 hbox hb; have aa := ak (hbox); have ad := kG hg HB; have ae := kG hg HB; replace HB := kH HB hb; clear hb hbox hg; obtain ⟨aq, ar⟩ := kc2 aa; obtain ⟨au, av⟩ := kf2 aa))
     refine bodyPost_ret (results_cell_row rfl _ _ ac 114 #[.int .i64 4, .int .i64 64] (0, 0) _ rfl (kb aa) Tryd.underlying114 rfl (by kernel_rfl)) rfl ?_
     exact ⟨kF, (kl HB)⟩
def A2a.f (a0 : Int) (a1 : Int) : Option (Int) := if a1 = 0 then (none) else (if (Int.tmod a0 a1) < 0 then (some (wrap64 ((Int.tmod a0 a1) + a1))) else (some (Int.tmod a0 a1)))
set_option maxHeartbeats 8000000 in
set_option maxRecDepth 100000 in
theorem A2a.calls (a0 : Int) (a1 : Int) (r : Int) (w : World) (h : A2a.f a0 a1 = some r) :
  Calls Tryd.prog 21 #[.int .i64 a0, .int .i64 a1] w fun e w' => e = .returned (.int .i64 r) ∧ A1i w w' := by
 have H : (if a1 = 0 then (none) else (if (Int.tmod a0 a1) < 0 then (some (wrap64 ((Int.tmod a0 a1) + a1))) else (some (Int.tmod a0 a1)))) = some r := h; clear h
 by_cases c3 : a1 = 0
 ·rw [if_pos c3] at H
  exact absurd H (by simp)
 ·rw [if_neg c3] at H; obtain ⟨ac, ad⟩ := kqF c3
  by_cases c4 : (Int.tmod a0 a1) < 0
  ·rw [if_pos c4] at H; have aa : decide ((Int.tmod a0 a1) < 0) = true := decide_eq_true c4; clear c4; obtain rfl := Option.some.inj H
   go_enter Tryd.func21, Tryd.ntmps21
   go_wp2
   go_ret
   exact ⟨by first | rfl | (simp; done) | (simp [*]; done), by repeat (first | exact A1i.refl _ | apply A1i.step)⟩
  ·rw [if_neg c4] at H; have aa : decide ((Int.tmod a0 a1) < 0) = false := decide_eq_false c4; clear c4; obtain rfl := Option.some.inj H
   go_enter Tryd.func21, Tryd.ntmps21
   go_wp2
   go_ret
   exact ⟨by first | rfl | (simp; done) | (simp [*]; done), by repeat (first | exact A1i.refl _ | apply A1i.step)⟩
def A2z.f (a0 : Int) : Option (Bool) := if a0 = 1 then (some true) else (some (a0 == 2))
set_option maxHeartbeats 8000000 in
set_option maxRecDepth 100000 in
theorem A2z.calls (a0 : Int) (r : Bool) (w : World) (h : A2z.f a0 = some r) :
  Calls Tryd.prog 30 #[.int .i64 a0] w fun e w' => e = .returned (.bool r) ∧ A1i w w' := by
 have H : (if a0 = 1 then (some true) else (some (a0 == 2))) = some r := h; clear h
 by_cases c2 : a0 = 1
 ·rw [if_pos c2] at H; obtain ⟨aa, ac⟩ := kqT c2; clear c2; obtain rfl := Option.some.inj H
  go_enter Tryd.func30, Tryd.ntmps30
  go_wp2
  go_ret
  exact ⟨by first | rfl | (simp; done) | (simp [*]; done), by repeat (first | exact A1i.refl _ | apply A1i.step)⟩
 ·rw [if_neg c2] at H; obtain ⟨aa, ac⟩ := kqF c2; obtain rfl := Option.some.inj H
  go_enter Tryd.func30, Tryd.ntmps30
  go_wp2
  go_ret
  exact ⟨by first | rfl | (simp; done) | (simp [*]; done), by repeat (first | exact A1i.refl _ | apply A1i.step)⟩
def A31.f (k : Nat) (l0 : List Int) (a1 : Int) : Option (Int × Int × Int × Option Int) := (A06.f k l0 a1 64).bind fun aa => (if aa.2 = true then ((A06.f k l0 (wrap64 (a1 + 64)) 64).bind fun ac => (if ac.2 = true then (some (wrap64 (aa.1), ac.1, 128, none)) else (some (0, 0, 0, some 2)))) else (some (0, 0, 0, some 2)))
set_option maxHeartbeats 8000000 in
set_option maxRecDepth 100000 in
theorem A31.calls (k : Nat) (A0 : Option Addr) (c0 : Nat) (l0 : List Int) (a1 : Int) (r1 : Int) (r2 : Int) (r3 : Int) (r4 : Option Int) (w : World) (hr0 : Kd.C (Kd.int .u8) w A0 l0.length l0) (hc0 : l0.length ≤ c0) (h : A31.f k l0 a1 = some (r1, r2, r3, r4)) :
  Calls Tryd.prog 31 #[.slice A0 l0.length c0, .int .i64 a1] w fun e w' => e = .returned (.tuple #[.agg #[.int .i64 r1, .int .u64 r2], .int .i64 r3, errW r4]) ∧ Below w.heap.size w w' := by
 have hu48 := Tryd.underlying48; have hu27 := Tryd.underlying27; have hu54 := Tryd.underlying54; have ao := ak hr0; have ap := ak hc0; clear hr0 hc0; have HB := ak (Below.refl w.heap.size w); have H : ((A06.f k l0 a1 64).bind fun ai => (if ai.2 = true then ((A06.f k l0 (wrap64 (a1 + 64)) 64).bind fun aj => (if aj.2 = true then (some (wrap64 (ai.1), aj.1, 128, none)) else (some (0, 0, 0, some 2)))) else (some (0, 0, 0, some 2)))) = some (r1, r2, r3, r4) := h; clear h; replace H := bkH H; obtain ⟨⟨ah, a3⟩, A3, H⟩ := H; (try dsimp only at H)
 by_cases c4 : a3 = true
 ·subst c4
  rw [if_pos rfl] at H; replace H := bkH H; obtain ⟨⟨an, a4⟩, A5, H⟩ := H; (try dsimp only at H)
  by_cases c6 : a4 = true
  ·subst c6
   rw [if_pos rfl] at H; simp only [Option.some.injEq, Prod.mk.injEq] at H; obtain ⟨rfl, rfl, rfl, rfl⟩ := H
   go_enter Tryd.func31, Tryd.ntmps31
   go_wp2_with (first | ((with_reducible refine A0p (N := 4) rfl ?_); refine bxe 4 #[.int .i64 0, .int .u64 0] 48 (h := ?_); intro ac hg w7 hbox hb; have aa := ak (hbox); have al := kG hg HB; have am := kG hg HB; replace HB := kH HB hb; clear hb hbox hg) | ((with_reducible refine A0f (f := 24) rfl ?_); refine A03 (some 13) rfl rfl Tryd.func24 (by kernel_rfl) rfl #[.slice A0 l0.length c0, .int .i64 a1, .int .i64 64] rfl km ?_; (with_reducible refine (A06.calls k _ _ l0 a1 64 ah true _ ?ad ?ae A3.out).mono ?_); (case ad => repeat (first | exact (Kd.A2g ao.out HB.out) | (with_reducible refine Kd.A1v ?_ _) | (with_reducible refine Kd.A1w ?_ _) | (with_reducible refine Kd.A2e ?_))); (case ae => exact ap.out); rintro e w' ⟨rfl, ⟨nd, rfl⟩⟩; refine ⟨_, rfl, ?_⟩; (try (rw [A2r w7]; generalize hq_ : World.drewN w7 _ = w7; have af : A0e (w7.heap[ac]? = some (.cells #[.int .i64 0, .int .u64 0] 48 (0, 0))) := ⟨by rw [← hq_]; exact (kb aa)⟩; have ag : A0e (Below w.heap.size w w7) := ⟨by rw [← hq_]; exact (kl HB)⟩; clear aa HB hq_; have aa := af; have HB := ag; clear af ag))) | ((with_reducible refine A0f (f := 24) rfl ?_); refine A03 (some 24) rfl rfl Tryd.func24 (by kernel_rfl) rfl #[.slice A0 l0.length c0, .int .i64 (wrap64 (a1 + 64)), .int .i64 64] rfl km ?_; (with_reducible refine (A06.calls k _ _ l0 (wrap64 (a1 + 64)) 64 an true _ ?ad ?ae A5.out).mono ?_); (case ad => repeat (first | exact (Kd.A2g ao.out HB.out) | (with_reducible refine Kd.A1v ?_ _) | (with_reducible refine Kd.A1w ?_ _) | (with_reducible refine Kd.A2e ?_))); (case ae => exact ap.out); rintro e w' ⟨rfl, ⟨nd, rfl⟩⟩; refine ⟨_, rfl, ?_⟩; (try (rw [A2r w7]; generalize hq_ : World.drewN w7 _ = w7; have af : A0e (w7.heap[ac]? = some (.cells #[.int .i64 0, .int .u64 0] 48 (0, 0))) := ⟨by rw [← hq_]; exact (kb aa)⟩; have ag : A0e (Below w.heap.size w w7) := ⟨by rw [← hq_]; exact (kl HB)⟩; clear aa HB hq_; have aa := af; have HB := ag; clear af ag)); obtain ⟨a5, a6⟩ := kc2 aa; obtain ⟨a7, a8⟩ := kf2 aa))
   refine bodyPost_ret (results_ctt rfl _ _ ac 48 #[.int .i64 (wrap64 (ah)), .int .u64 an] (0, 0) _ rfl (kb aa) Tryd.underlying48 rfl (by kernel_rfl)) rfl ?_
   exact ⟨kF, (kl HB)⟩
  ·replace c6 := Bool.eq_false_iff.mpr c6; subst c6
   rw [if_neg (show ¬ (false = true) by decide)] at H; simp only [Option.some.injEq, Prod.mk.injEq] at H; obtain ⟨rfl, rfl, rfl, rfl⟩ := H
   go_enter Tryd.func31, Tryd.ntmps31
   go_wp2_with (first | ((with_reducible refine A0p (N := 4) rfl ?_); refine bxe 4 #[.int .i64 0, .int .u64 0] 48 (h := ?_); intro ac hg w9 hbox hb; have aa := ak (hbox); have al := kG hg HB; have am := kG hg HB; replace HB := kH HB hb; clear hb hbox hg) | ((with_reducible refine A0f (f := 24) rfl ?_); refine A03 (some 13) rfl rfl Tryd.func24 (by kernel_rfl) rfl #[.slice A0 l0.length c0, .int .i64 a1, .int .i64 64] rfl km ?_; (with_reducible refine (A06.calls k _ _ l0 a1 64 ah true _ ?ad ?ae A3.out).mono ?_); (case ad => repeat (first | exact (Kd.A2g ao.out HB.out) | (with_reducible refine Kd.A1v ?_ _) | (with_reducible refine Kd.A1w ?_ _) | (with_reducible refine Kd.A2e ?_))); (case ae => exact ap.out); rintro e w' ⟨rfl, ⟨nd, rfl⟩⟩; refine ⟨_, rfl, ?_⟩; (try (rw [A2r w9]; generalize hq_ : World.drewN w9 _ = w9; have af : A0e (w9.heap[ac]? = some (.cells #[.int .i64 0, .int .u64 0] 48 (0, 0))) := ⟨by rw [← hq_]; exact (kb aa)⟩; have ag : A0e (Below w.heap.size w w9) := ⟨by rw [← hq_]; exact (kl HB)⟩; clear aa HB hq_; have aa := af; have HB := ag; clear af ag))) | ((with_reducible refine A0f (f := 24) rfl ?_); refine A03 (some 24) rfl rfl Tryd.func24 (by kernel_rfl) rfl #[.slice A0 l0.length c0, .int .i64 (wrap64 (a1 + 64)), .int .i64 64] rfl km ?_; (with_reducible refine (A06.calls k _ _ l0 (wrap64 (a1 + 64)) 64 an false _ ?ad ?ae A5.out).mono ?_); (case ad => repeat (first | exact (Kd.A2g ao.out HB.out) | (with_reducible refine Kd.A1v ?_ _) | (with_reducible refine Kd.A1w ?_ _) | (with_reducible refine Kd.A2e ?_))); (case ae => exact ap.out); rintro e w' ⟨rfl, ⟨nd, rfl⟩⟩; refine ⟨_, rfl, ?_⟩; (try (rw [A2r w9]; generalize hq_ : World.drewN w9 _ = w9; have af : A0e (w9.heap[ac]? = some (.cells #[.int .i64 0, .int .u64 0] 48 (0, 0))) := ⟨by rw [← hq_]; exact (kb aa)⟩; have ag : A0e (Below w.heap.size w w9) := ⟨by rw [← hq_]; exact (kl HB)⟩; clear aa HB hq_; have aa := af; have HB := ag; clear af ag)); obtain ⟨ar, au⟩ := kc2 aa; obtain ⟨av, aw⟩ := kf2 aa))
   refine bodyPost_ret (results_ctt rfl _ _ ac 48 #[.int .i64 0, .int .u64 0] (0, 0) _ rfl (kb aa) Tryd.underlying48 rfl (by kernel_rfl)) rfl ?_
   exact ⟨kF, (kl HB)⟩
 ·replace c4 := Bool.eq_false_iff.mpr c4; subst c4
  rw [if_neg (show ¬ (false = true) by decide)] at H; simp only [Option.some.injEq, Prod.mk.injEq] at H; obtain ⟨rfl, rfl, rfl, rfl⟩ := H
  go_enter Tryd.func31, Tryd.ntmps31
  go_wp2_with (first | ((with_reducible refine A0p (N := 4) rfl ?_); refine bxe 4 #[.int .i64 0, .int .u64 0] 48 (h := ?_); intro ac hg aq hbox hb; have aa := ak (hbox); have al := kG hg HB; have am := kG hg HB; replace HB := kH HB hb; clear hb hbox hg) | ((with_reducible refine A0f (f := 24) rfl ?_); refine A03 (some 13) rfl rfl Tryd.func24 (by kernel_rfl) rfl #[.slice A0 l0.length c0, .int .i64 a1, .int .i64 64] rfl km ?_; (with_reducible refine (A06.calls k _ _ l0 a1 64 ah false _ ?ad ?ae A3.out).mono ?_); (case ad => repeat (first | exact (Kd.A2g ao.out HB.out) | (with_reducible refine Kd.A1v ?_ _) | (with_reducible refine Kd.A1w ?_ _) | (with_reducible refine Kd.A2e ?_))); (case ae => exact ap.out); rintro e w' ⟨rfl, ⟨nd, rfl⟩⟩; refine ⟨_, rfl, ?_⟩; (try (rw [A2r aq]; generalize hq_ : World.drewN aq _ = aq; have af : A0e (aq.heap[ac]? = some (.cells #[.int .i64 0, .int .u64 0] 48 (0, 0))) := ⟨by rw [← hq_]; exact (kb aa)⟩; have ag : A0e (Below w.heap.size w aq) := ⟨by rw [← hq_]; exact (kl HB)⟩; clear aa HB hq_; have aa := af; have HB := ag; clear af ag)); obtain ⟨ax, ay⟩ := kc2 aa; obtain ⟨az, a2⟩ := kf2 aa))
  refine bodyPost_ret (results_ctt rfl _ _ ac 48 #[.int .i64 0, .int .u64 0] (0, 0) _ rfl (kb aa) Tryd.underlying48 rfl (by kernel_rfl)) rfl ?_
  exact ⟨kF, (kl HB)⟩
end Go.Proofs.YtiahbcaoikoogabDoor.All
end
