-- copied by a program of the session
import Derived.Test.YtiahbcaoikoogaaDoorKtAllx19
section
namespace Go.Proofs.YtiahbcaoikoogaaDoor.All
open Go.RowKit Go.Proofs.YtiahbcaoikoogaaDoorW.PrintWords Go.Proofs.YtiahbcaoikoogaaDoorW.PrintLast Go.Proofs.YtiahbcaoikoogaaDoorW.PrintMore
attribute [local go_sem] A2f A2g A2w A2x A18 A19 A2h A2i
set_option linter.unusedVariables false
set_option linter.unusedSimpArgs false
def A3g.f (aa : Int) (a0_1 : Int) (ac : Int) : Option (Int × Int × Int) := some (aa, a0_1, ac)
set_option maxHeartbeats 8000000 in
set_option maxRecDepth 100000 in
theorem A3g.calls (ae : Int) (a0_1 : Int) (af : Int) (r1 : Int) (r2 : Int) (r3 : Int) (w : World) (h : A3g.f ae a0_1 af = some (r1, r2, r3)) :
  Calls Tryd.prog 12 #[.agg #[.int .u64 ae, .int .i64 a0_1, .int .i64 af]] w fun e w' => e = .returned (.agg #[.int .u64 r1, .int .i64 r2, .int .i64 r3]) ∧ Below w.heap.size w w' := by
 have hu24 := Tryd.underlying24; have hu27 := Tryd.underlying27; have HB := ak (Below.refl w.heap.size w); have H : (some (ae, a0_1, af)) = some (r1, r2, r3) := h; clear h; simp only [Option.some.injEq, Prod.mk.injEq] at H; obtain ⟨rfl, rfl, rfl⟩ := H
 go_enter Tryd.func12, Tryd.ntmps12
 go_wp2_with (first | ((with_reducible refine A0q (N := 1) rfl ?_); refine bxe 1 #[.int .u64 ae, .int .i64 a0_1, .int .i64 af] 24 (h := ?_); intro ax hg w2 hbox hb; have aa := ak (hbox); have ay := kG hg HB; have az := kG hg HB; replace HB := kH HB hb; clear hb hbox hg) | ((with_reducible refine A0q (N := 2) rfl ?_); refine bxe 2 #[.int .u64 0, .int .i64 0, .int .i64 0] 27 (h := ?_); intro ah hg w3 hbox hb; have ag := ak (hbox); have a1 := kG hg HB; have a2 := kG hg HB; replace HB := kH HB hb; obtain ⟨ac, ad⟩ := kN hg aa; replace aa := kB aa hb; clear hb hbox hg; have a3 := ac.out; have a4 := ad.out; obtain ⟨ai, aj, al⟩ := kc3 aa; obtain ⟨am, an, ao⟩ := kf3 aa; obtain ⟨ap, aq, ar⟩ := kc3 ag; obtain ⟨au, av, aw⟩ := kf3 ag))
 refine bodyPost_ret (results_cell_row rfl _ _ ah 27 #[.int .u64 ae, .int .i64 a0_1, .int .i64 af] (0, 0) _ rfl (kb ag) Tryd.underlying27 rfl (by kernel_rfl)) rfl ?_
 exact ⟨kF, (kl HB)⟩
def A1s.f (ac : Int) (a0_1 : Int) (ad : Int) (ae : Int) (af : Int) (ag : Int) (ah : Int) (ai : Int) : Option (Int × Int × Int × Int × Int × Int × Int × Int) := (A3g.f ag ah ai).bind fun aa => (some (ac, a0_1, ad, ae, af, aa.1, aa.2.1, aa.2.2))
def A1s.T1 : Bool × List (List Nat × List Nat) := (true, [([], []), ([0], [0]), ([], []), ([2], [2]), ([], []), ([4], [4]), ([], []), ([6], [6]), ([], []), ([8], [8]), ([], []), ([10], [10]), ([11], [11]), ([1, 3, 5, 7, 9, 12], [1, 3, 5, 7, 9, 12]), ([13, 12, 0, 1, 2, 3, 4, 5, 6, 7, 8, 9, 10, 11, 12, 13], [13])])
def A1s.B1 : List Nat := [0, 1, 0, 4, 0, 16, 0, 64, 0, 256, 0, 1024, 3072, 8191, 16383]
theorem A1s.tab1 : rtab .any (opsOf Tryd.f27 1) = A1s.T1 := by kernel_rfl
theorem A1s.bits1 : A2o A1s.T1.2 A1s.B1 = true := by kernel_rfl
set_option maxHeartbeats 8000000 in
set_option maxRecDepth 100000 in
theorem A1s.calls (ai : Int) (a0_1 : Int) (aj : Int) (al : Int) (am : Int) (af : Int) (ag : Int) (ah : Int) (r1 : Int) (r2 : Int) (r3 : Int) (r4 : Int) (r5 : Int) (r6 : Int) (r7 : Int) (r8 : Int) (w : World) (h : A1s.f ai a0_1 aj al am af ag ah = some (r1, r2, r3, r4, r5, r6, r7, r8)) :
  Calls Tryd.prog 27 #[.agg #[.int .i64 ai, .int .i64 a0_1, .int .i64 aj, .int .u64 al, .int .u64 am, .int .u64 af, .int .i64 ag, .int .i64 ah]] w fun e w' => e = .returned (.agg #[.int .i64 r1, .int .i64 r2, .int .i64 r3, .int .u64 r4, .int .u64 r5, .int .u64 r6, .int .i64 r7, .int .i64 r8]) ∧ Below w.heap.size w w' := by
 have hu53 := Tryd.underlying53; have hu55 := Tryd.underlying55; have hu24 := Tryd.underlying24; have HB := ak (Below.refl w.heap.size w); have H : ((A3g.f af ag ah).bind fun ap => (some (ai, a0_1, aj, al, am, ap.1, ap.2.1, ap.2.2))) = some (r1, r2, r3, r4, r5, r6, r7, r8) := h; clear h; replace H := bkH H; obtain ⟨⟨aq, ar, au⟩, A2, H⟩ := H; (try dsimp only at H); simp only [Option.some.injEq, Prod.mk.injEq] at H; obtain ⟨rfl, rfl, rfl, rfl, rfl, rfl, rfl, rfl⟩ := H
 go_enter Tryd.func27, Tryd.ntmps27
 try go_wp2_with (first | ((with_reducible refine A0q (N := 1) rfl ?_); refine bxe 1 #[.int .i64 ai, .int .i64 a0_1, .int .i64 aj, .int .u64 al, .int .u64 am, .int .u64 af, .int .i64 ag, .int .i64 ah] 53 (h := ?_); intro ad hg w3 hbox hb; have ae := ak (hbox); have ax := kG hg HB; have ay := kG hg HB; replace HB := kH HB hb; clear hb hbox hg) | ((with_reducible refine A0q (N := 2) rfl ?_); refine bxe 2 #[.int .i64 0, .int .i64 0, .int .i64 0, .int .u64 0, .int .u64 0, .int .u64 0, .int .i64 0, .int .i64 0] 55 (h := ?_); intro ac hg w4 hbox hb; have aa := ak (hbox); have az := kG hg HB; have a1 := kG hg HB; replace HB := kH HB hb; obtain ⟨an, ao⟩ := kN hg ae; replace ae := kB ae hb; clear hb hbox hg))
 replace ae := ak (A0f ae.out); replace aa := ak (A0f aa.out); replace HB := ak (A0j HB.out)
 refine A2d (n := 15) (S := fun w' => w'.cell? ⟨ad, 0, none⟩ = some (.int .i64 ai) ∧ w'.cell? ⟨ad, 1, none⟩ = some (.int .i64 a0_1) ∧ w'.cell? ⟨ad, 2, none⟩ = some (.int .i64 aj) ∧ w'.cell? ⟨ad, 3, none⟩ = some (.int .u64 al) ∧ w'.cell? ⟨ad, 4, none⟩ = some (.int .u64 am) ∧ w'.cell? ⟨ad, 5, none⟩ = some (.int .u64 af) ∧ w'.cell? ⟨ad, 6, none⟩ = some (.int .i64 ag) ∧ w'.cell? ⟨ad, 7, none⟩ = some (.int .i64 ah)) (ds := []) (bl 15 0) (by kernel_rfl) rfl rfl kz (fun hHeld => ?_); refine A1q A1s.tab1 A1s.bits1 (fun HT_ HW_ => ?_)
 generalize w4.drew = w5 at ae aa HB hHeld ⊢; refine pu 0 (some 3) (bl 15 1) (h := ?_); refine pu 2 (some 5) (bl 15 5) (h := ?_); refine pu 4 (some 7) (bl 15 21) (h := ?_); refine pu 6 (some 9) (bl 15 85) (h := ?_); refine pu 8 (some 11) (bl 15 341) (h := ?_); refine pu 10 (some 13) (bl 15 1365) (h := ?_); refine ta 1 (some 4) (bl 15 1367) (h := ?_); refine ta 3 (some 6) (bl 15 1375) (h := ?_); refine ta 5 (some 8) (bl 15 1407) (h := ?_); refine ta 7 (some 10) (bl 15 1535) (h := ?_); refine ta 9 (some 12) (bl 15 2047) (h := ?_); refine ta 11 (some 14) (bl 15 4095) (h := ?_); refine one_ (i := 12) (N := some 15) (bl 15 8191) rfl rfl (A1h HT_.out (by kernel_rfl)) (by decide) (fun K hK => ?_); refine A29 Tryd.func12 (by kernel_rfl) rfl #[.agg #[.int .u64 af, .int .i64 ag, .int .i64 ah]] (by rfl) rfl rfl km ?_
 with_reducible refine (A3g.calls af ag ah aq ar au _ A2.out).mono ?_
 rintro e w6 ⟨rfl, hb⟩; refine ⟨_, rfl, ?_⟩; replace ae := kB ae hb; replace aa := kB aa hb; replace HB := kH HB hb; (try clear hb); refine hK.out _ _ kz (fun hHeld => ?_); clear hK K; refine nm (some 15) (h := ?_)
 refine pu 13 (some 16) (bl 15 16383) (h := ?_); refine one_ (i := 14) (N := none) (bl 15 32767) rfl rfl (A1h HT_.out (by kernel_rfl)) (by decide) (fun K hK => ?_); have aF : w6.cell? ⟨ac, 0, none⟩ = some (.int .i64 0) := (A0e aa.out 0).trans rfl; have a7 := A0c aa.out 0; have av := an.out; have aw := ao.out; have aG : w6.cell? ⟨ac, 1, none⟩ = some (.int .i64 0) := (A0e aa.out 1).trans rfl; have a8 := A0c aa.out 1; have aH : w6.cell? ⟨ac, 2, none⟩ = some (.int .i64 0) := (A0e aa.out 2).trans rfl; have a9 := A0c aa.out 2; have aA : w6.cell? ⟨ac, 3, none⟩ = some (.int .u64 0) := (A0e aa.out 3).trans rfl; have a2 := A0c aa.out 3; have aB : w6.cell? ⟨ac, 4, none⟩ = some (.int .u64 0) := (A0e aa.out 4).trans rfl; have a3 := A0c aa.out 4; have aC : w6.cell? ⟨ac, 5, none⟩ = some (.int .u64 0) := (A0e aa.out 5).trans rfl; have a4 := A0c aa.out 5; have aD : w6.cell? ⟨ac, 6, none⟩ = some (.int .i64 0) := (A0e aa.out 6).trans rfl; have a5 := A0c aa.out 6; have aE : w6.cell? ⟨ac, 7, none⟩ = some (.int .i64 0) := (A0e aa.out 7).trans rfl; have a6 := A0c aa.out 7; refine A3k (w1 := ?_) (by rfl) rfl ?_ ?_
 rotate_left
 ·go_simp
  rfl
 refine hK.out _ _ (ks hHeld) (fun hHeld => ?_); clear hK K; refine A28 (A2a HT_.out (by kernel_rfl)) ?_
 try go_wp2
 refine bodyPost_ret (results_cell_row rfl _ _ ac 55 #[.int .i64 ai, .int .i64 a0_1, .int .i64 aj, .int .u64 al, .int .u64 am, .int .u64 aq, .int .i64 ar, .int .i64 au] (0, 0) _ rfl (kb aa) Tryd.underlying55 rfl (by kernel_rfl)) rfl ?_
 exact ⟨kF, (kl HB)⟩
end Go.Proofs.YtiahbcaoikoogaaDoor.All
end
section
namespace Go.Proofs.YtiahbcaoikoogaaDoor.All
open Go.RowKit Go.Proofs.YtiahbcaoikoogaaDoorW.PrintWords Go.Proofs.YtiahbcaoikoogaaDoorW.PrintLast Go.Proofs.YtiahbcaoikoogaaDoorW.PrintMore
attribute [local go_sem] A2f A2g A2w A2x A18 A19 A2h A2i
set_option linter.unusedVariables false
set_option linter.unusedSimpArgs false
mutual
def A01.j0 : Nat → List Int → Int → Int → Bool → Option (Int × Bool)
 | 0, _, _, _, _ => none
 | k + 1, x0, x1, x2, aa => if aa = true then (some (0, false)) else (A01.l0 k x0 x1 x2 0 x1)
def A01.l0 : Nat → List Int → Int → Int → Int → Int → Option (Int × Bool)
 | 0, _, _, _, _, _ => none
 | k + 1, x0, x1, x2, x8, x9 => if x9 < (wrap64 (x1 + x2)) then (if 0 ≤ (wrap64 (Int.tdiv x9 8)) then (if (wrap64 (Int.tdiv x9 8)) < (x0.length : Int) then (if 0 ≤ (wrap64 (7 - (Int.tmod x9 8))) then (A01.l0 k x0 x1 x2 (Go.bits .or .u64 (IntKind.u64.wrap (x8 * 2)) (IntKind.u64.wrap (Go.bits .and .u8 (shr .u8 (rd x0 (wrap64 (Int.tdiv x9 8))) (wrap64 (7 - (Int.tmod x9 8)))) 1))) (wrap64 (x9 + 1))) else (none)) else (none)) else (none)) else (some (x8, true))
end
def A01.f (k : Nat) (l0 : List Int) (a1 : Int) (a2 : Int) : Option (Int × Bool) := if a2 < 0 then (A01.j0 k l0 a1 a2 true) else (if a2 > 64 then (A01.j0 k l0 a1 a2 true) else (if a1 < 0 then (A01.j0 k l0 a1 a2 true) else (if a1 > (wrap64 (8 * (l0.length : Int))) then (A01.j0 k l0 a1 a2 true) else (A01.j0 k l0 a1 a2 (decide (a2 > (wrap64 ((wrap64 (8 * (l0.length : Int))) - a1))))))))
set_option maxHeartbeats 8000000 in
set_option maxRecDepth 100000 in
theorem A01.calls (k : Nat) (A0 : Option Addr) (c0 : Nat) (l0 : List Int) (a1 : Int) (a2 : Int) (r1 : Int) (r2 : Bool) (w : World) (hr0 : Kd.C (Kd.int .u8) w A0 l0.length l0) (hc0 : l0.length ≤ c0) (h : A01.f k l0 a1 a2 = some (r1, r2)) :
  Calls Tryd.prog 49 #[.slice A0 l0.length c0, .int .i64 a1, .int .i64 a2] w fun e w' => e = .returned (.tuple #[.int .u64 r1, .bool r2]) ∧ A1c w w' := by
 have aG := ak hr0; have aI := ak hc0; clear hr0 hc0; have H : (if a2 < 0 then (A01.j0 k l0 a1 a2 true) else (if a2 > 64 then (A01.j0 k l0 a1 a2 true) else (if a1 < 0 then (A01.j0 k l0 a1 a2 true) else (if a1 > (wrap64 (8 * (l0.length : Int))) then (A01.j0 k l0 a1 a2 true) else (A01.j0 k l0 a1 a2 (decide (a2 > (wrap64 ((wrap64 (8 * (l0.length : Int))) - a1))))))))) = some (r1, r2) := h; clear h; have aw := ak H; clear H
 go_enter Tryd.func49, Tryd.ntmps49
 go_upto_region 1 with (fail)
 go_cut [35] (fun aH wc => ∃ (kq : Nat) (ag : Bool), aH = .bool ag ∧ A0b (A01.j0 kq l0 a1 a2 ag = some (r1, r2)) ∧ A0b (kq ≤ k) ∧ A1c w wc)
 case first =>
  have H := aw.out; clear aw
  by_cases c5 : a2 < 0
  ·rw [if_pos c5] at H; have ah := decide_eq_true c5; clear c5
   (first | rw [ah] | (simp only [A11, A2c]; rw [ah]) | skip)
   have H' := ak H; clear H
   go_wp2
   go_meet
   case rel => exact ⟨_, (true), kE, H', ⟨by first | omega | exact Nat.le_refl _⟩, by repeat (first | exact A1c.refl _ | apply A1c.step)⟩
  ·rw [if_neg c5] at H; have ah := decide_eq_false c5; clear c5
   (first | rw [ah] | (simp only [A11, A2c]; rw [ah]) | skip)
   by_cases c6 : a2 > 64
   ·rw [if_pos c6] at H; have ax : decide (64 < a2) = true := decide_eq_true c6; clear c6; have H' := ak H; clear H
    go_wp2
    go_meet
    case rel => exact ⟨_, (true), kE, H', ⟨by first | omega | exact Nat.le_refl _⟩, by repeat (first | exact A1c.refl _ | apply A1c.step)⟩
   ·rw [if_neg c6] at H; have ax : decide (64 < a2) = false := decide_eq_false c6; clear c6
    by_cases c7 : a1 < 0
    ·rw [if_pos c7] at H; have ay := decide_eq_true c7; clear c7; have H' := ak H; clear H
     go_wp2
     go_meet
     case rel => exact ⟨_, (true), kE, H', ⟨by first | omega | exact Nat.le_refl _⟩, by repeat (first | exact A1c.refl _ | apply A1c.step)⟩
    ·rw [if_neg c7] at H; have ay := decide_eq_false c7; clear c7
     by_cases c8 : a1 > (wrap64 (8 * (l0.length : Int)))
     ·rw [if_pos c8] at H; have az : decide ((wrap64 (8 * (l0.length : Int))) < a1) = true := decide_eq_true c8; clear c8; have H' := ak H; clear H
      go_wp2
      go_meet
      case rel => exact ⟨_, (true), kE, H', ⟨by first | omega | exact Nat.le_refl _⟩, by repeat (first | exact A1c.refl _ | apply A1c.step)⟩
     ·rw [if_neg c8] at H; have az : decide ((wrap64 (8 * (l0.length : Int))) < a1) = false := decide_eq_false c8; clear c8; have H' := ak H; clear H
      go_wp2
      go_meet
      case rel => exact ⟨_, (decide (a2 > (wrap64 ((wrap64 (8 * (l0.length : Int))) - a1)))), kE, H', ⟨by first | omega | exact Nat.le_refl _⟩, by repeat (first | exact A1c.refl _ | apply A1c.step)⟩
 case rest =>
  clear aw; obtain ⟨kq, ag, rfl, HA, a8, ⟨mc3, rfl⟩⟩ := hcut
  cases kq with
  | zero => exact absurd HA.out (by simp [A01.j0])
  | succ a9 =>
   have H := HA.out; clear HA; simp only [A01.j0] at H
   by_cases c9 : ag = true
   ·subst c9
    rw [if_pos rfl] at H; simp only [Option.some.injEq, Prod.mk.injEq] at H; obtain ⟨rfl, rfl⟩ := H
    go_wp2
    go_ret2
    exact ⟨by first | rfl | (simp; done) | (simp [*]; done), by repeat (first | exact A1c.refl _ | apply A1c.step)⟩
   ·replace c9 := Bool.eq_false_iff.mpr c9; subst c9
    rw [if_neg (show ¬ (false = true) by decide)] at H; have H' := ak H; clear H
    go_wp2
    go_loopg [8, 9] a9 (fun kq v8 v9 w' => ∃ (af : Int) (aa : Int), v8 = .int .u64 af ∧ v9 = .int .i64 aa ∧ A0b (A01.l0 kq l0 a1 a2 af aa = some (r1, r2)) ∧ A0b (kq ≤ a9) ∧ A1c w w')
    case atStart => exact ⟨(0), (a1), kE, kE, H', ⟨Nat.le_refl _⟩, by repeat (first | exact A1c.refl _ | apply A1c.step)⟩
    case round =>
     clear H'; (try clear c9); obtain ⟨af, aa, rfl, rfl, HA, aA, ⟨m2, rfl⟩⟩ := hrel
     cases gk with
     | zero => exact absurd HA.out (by simp [A01.l0])
     | succ k2 =>
      have H := HA.out; clear HA; simp only [A01.l0] at H
      by_cases c10 : aa < (wrap64 (a1 + a2))
      ·rw [if_pos c10] at H; have ap := decide_eq_true c10; clear c10; obtain ⟨ac, ai⟩ : ∃ j_ : Int, (wrap64 (Int.tdiv aa 8)) = j_ := ⟨_, rfl⟩
       replace H : (if 0 ≤ (ac) then (if (ac) < (l0.length : Int) then (if 0 ≤ (wrap64 (7 - (Int.tmod aa 8))) then (A01.l0 k2 l0 a1 a2 (Go.bits .or .u64 (IntKind.u64.wrap (af * 2)) (IntKind.u64.wrap (Go.bits .and .u8 (shr .u8 (rd l0 (ac)) (wrap64 (7 - (Int.tmod aa 8)))) 1))) (wrap64 (aa + 1))) else (none)) else (none)) else (none)) = some (r1, r2) := by first | (rw [ai] at H; exact H) | (simp only [ai] at H ⊢; exact H)
       have a3 : (IntKind.i64.wrap (Int.tdiv aa 8)) = ac := (A11 _).trans ai
       by_cases ar : 0 ≤ (ac)
       ·rw [if_pos ar] at H; have aB := decide_eq_true ar; clear ar
        by_cases au : (ac) < (l0.length : Int)
        ·rw [if_pos au] at H; have aC := decide_eq_true au; clear au; obtain ⟨ad, aj⟩ : ∃ j_ : Int, (wrap64 (7 - (Int.tmod aa 8))) = j_ := ⟨_, rfl⟩
         replace H : (if 0 ≤ (ad) then (A01.l0 k2 l0 a1 a2 (Go.bits .or .u64 (IntKind.u64.wrap (af * 2)) (IntKind.u64.wrap (Go.bits .and .u8 (shr .u8 (rd l0 (ac)) (ad)) 1))) (wrap64 (aa + 1))) else (none)) = some (r1, r2) := by first | (rw [aj] at H; exact H) | (simp only [aj] at H ⊢; exact H)
         have a4 : (IntKind.i64.wrap (7 - (Int.tmod aa 8))) = ad := (A11 _).trans aj
         by_cases aq : 0 ≤ (ad)
         ·rw [if_pos aq] at H; have aD := eq_true aq; have aE := decide_eq_true aq; clear aq; obtain ⟨am, ae⟩ : ∃ j_ : Int, (shr .u8 (rd l0 (ac)) (ad)) = j_ := ⟨_, rfl⟩
          replace H : (A01.l0 k2 l0 a1 a2 (Go.bits .or .u64 (IntKind.u64.wrap (af * 2)) (IntKind.u64.wrap (Go.bits .and .u8 (am) 1))) (wrap64 (aa + 1))) = some (r1, r2) := by first | (rw [ae] at H; exact H) | (simp only [ae] at H ⊢; exact H)
          have a5 : ((rd l0 (ac)) / 2 ^ min (ad).toNat 8) = am := ae; have a6 : (ad) ≤ 8 → ((rd l0 (ac)) / 2 ^ (ad).toNat) = am := shr_small ae; have H' := ak H; clear H; have ao : 0 ≤ ((ac) : Int) := kD; have an : (ac) < (l0.length : Int) := kD; obtain ⟨aF, a7, av⟩ := Kd.A33 aG.out (ac) ao an
          cases a7
          replace ao := eq_true ao
          (try (have al := an; simp only [List.length_drop, List.length_take] at al; replace al := eq_true al)); replace an := eq_true an
          go_wp2
          go_roundg k2
          case measure => have := a8.out; have := aA.out; omega
          case rel => exact ⟨(Go.bits .or .u64 (IntKind.u64.wrap (af * 2)) (IntKind.u64.wrap (Go.bits .and .u8 (am) 1))), (wrap64 (aa + 1)), (by first | rfl | (simp; done) | (simp only [← ae] <;> (first | rfl | simp)) | (simp [*]; done)), kE, H', ⟨by have := a8.out; have := aA.out; omega⟩, by repeat (first | exact A1c.refl _ | apply A1c.step)⟩
         ·rw [if_neg aq] at H
          exact absurd H (by simp)
        ·rw [if_neg au] at H
         exact absurd H (by simp)
       ·rw [if_neg ar] at H
        exact absurd H (by simp)
      ·rw [if_neg c10] at H; have ap := decide_eq_false c10; clear c10; simp only [Option.some.injEq, Prod.mk.injEq] at H; obtain ⟨rfl, rfl⟩ := H
       go_wp2
       go_ret2
       exact ⟨by first | rfl | (simp; done) | (simp [*]; done), by repeat (first | exact A1c.refl _ | apply A1c.step)⟩
end Go.Proofs.YtiahbcaoikoogaaDoor.All
end
section
namespace Go.Proofs.YtiahbcaoikoogaaDoor.All
open Go.RowKit Go.Proofs.YtiahbcaoikoogaaDoorW.PrintWords Go.Proofs.YtiahbcaoikoogaaDoorW.PrintLast Go.Proofs.YtiahbcaoikoogaaDoorW.PrintMore
attribute [local go_sem] A2f A2g A2w A2x A18 A19 A2h A2i
set_option linter.unusedVariables false
set_option linter.unusedSimpArgs false
def A4a.f (k : Nat) (l0 : List Int) (a1 : Int) : Option (Int × Int × Int × Option Int) := (A01.f k l0 a1 64).bind fun aa => (if aa.2 = true then ((A01.f k l0 (wrap64 (a1 + 64)) 64).bind fun ac => (if ac.2 = true then (some (wrap64 (aa.1), ac.1, 128, none)) else (some (0, 0, 0, some 2)))) else (some (0, 0, 0, some 2)))
set_option maxHeartbeats 8000000 in
set_option maxRecDepth 100000 in
theorem A4a.calls (k : Nat) (A0 : Option Addr) (c0 : Nat) (l0 : List Int) (a1 : Int) (r1 : Int) (r2 : Int) (r3 : Int) (r4 : Option Int) (w : World) (hr0 : Kd.C (Kd.int .u8) w A0 l0.length l0) (hc0 : l0.length ≤ c0) (h : A4a.f k l0 a1 = some (r1, r2, r3, r4)) :
  Calls Tryd.prog 58 #[.slice A0 l0.length c0, .int .i64 a1] w fun e w' => e = .returned (.tuple #[.agg #[.int .i64 r1, .int .u64 r2], .int .i64 r3, errW r4]) ∧ Below w.heap.size w w' := by
 have hu59 := Tryd.underlying59; have hu37 := Tryd.underlying37; have hu95 := Tryd.underlying95; have ao := ak hr0; have ap := ak hc0; clear hr0 hc0; have HB := ak (Below.refl w.heap.size w); have H : ((A01.f k l0 a1 64).bind fun ai => (if ai.2 = true then ((A01.f k l0 (wrap64 (a1 + 64)) 64).bind fun aj => (if aj.2 = true then (some (wrap64 (ai.1), aj.1, 128, none)) else (some (0, 0, 0, some 2)))) else (some (0, 0, 0, some 2)))) = some (r1, r2, r3, r4) := h; clear h; replace H := bkH H; obtain ⟨⟨ah, a3⟩, A3, H⟩ := H; (try dsimp only at H)
 by_cases c4 : a3 = true
 ·subst c4
  rw [if_pos rfl] at H; replace H := bkH H; obtain ⟨⟨an, a4⟩, A5, H⟩ := H; (try dsimp only at H)
  by_cases c6 : a4 = true
  ·subst c6
   rw [if_pos rfl] at H; simp only [Option.some.injEq, Prod.mk.injEq] at H; obtain ⟨rfl, rfl, rfl, rfl⟩ := H
   go_enter Tryd.func58, Tryd.ntmps58
   go_wp2_with (first | ((with_reducible refine A0q (N := 4) rfl ?_); refine bxe 4 #[.int .i64 0, .int .u64 0] 59 (h := ?_); intro ac hg w7 hbox hb; have aa := ak (hbox); have al := kG hg HB; have am := kG hg HB; replace HB := kH HB hb; clear hb hbox hg) | ((with_reducible refine A0h (f := 49) rfl ?_); refine A1b (some 13) rfl rfl Tryd.func49 (by kernel_rfl) rfl #[.slice A0 l0.length c0, .int .i64 a1, .int .i64 64] rfl km ?_; (with_reducible refine (A01.calls k _ _ l0 a1 64 ah true _ ?ad ?ae A3.out).mono ?_); (case ad => repeat (first | exact (Kd.A1j ao.out HB.out) | (with_reducible refine Kd.A1e ?_ _) | (with_reducible refine Kd.A1d ?_ _) | (with_reducible refine Kd.A1v ?_))); (case ae => exact ap.out); rintro e w' ⟨rfl, ⟨nd, rfl⟩⟩; refine ⟨_, rfl, ?_⟩; (try (rw [A2q w7]; generalize hq_ : World.drewN w7 _ = w7; have af : A0b (w7.heap[ac]? = some (.cells #[.int .i64 0, .int .u64 0] 59 (0, 0))) := ⟨by rw [← hq_]; exact (kb aa)⟩; have ag : A0b (Below w.heap.size w w7) := ⟨by rw [← hq_]; exact (kl HB)⟩; clear aa HB hq_; have aa := af; have HB := ag; clear af ag))) | ((with_reducible refine A0h (f := 49) rfl ?_); refine A1b (some 24) rfl rfl Tryd.func49 (by kernel_rfl) rfl #[.slice A0 l0.length c0, .int .i64 (wrap64 (a1 + 64)), .int .i64 64] rfl km ?_; (with_reducible refine (A01.calls k _ _ l0 (wrap64 (a1 + 64)) 64 an true _ ?ad ?ae A5.out).mono ?_); (case ad => repeat (first | exact (Kd.A1j ao.out HB.out) | (with_reducible refine Kd.A1e ?_ _) | (with_reducible refine Kd.A1d ?_ _) | (with_reducible refine Kd.A1v ?_))); (case ae => exact ap.out); rintro e w' ⟨rfl, ⟨nd, rfl⟩⟩; refine ⟨_, rfl, ?_⟩; (try (rw [A2q w7]; generalize hq_ : World.drewN w7 _ = w7; have af : A0b (w7.heap[ac]? = some (.cells #[.int .i64 0, .int .u64 0] 59 (0, 0))) := ⟨by rw [← hq_]; exact (kb aa)⟩; have ag : A0b (Below w.heap.size w w7) := ⟨by rw [← hq_]; exact (kl HB)⟩; clear aa HB hq_; have aa := af; have HB := ag; clear af ag)); obtain ⟨a5, a6⟩ := kc2 aa; obtain ⟨a7, a8⟩ := kf2 aa))
   refine bodyPost_ret (results_ctt rfl _ _ ac 59 #[.int .i64 (wrap64 (ah)), .int .u64 an] (0, 0) _ rfl (kb aa) Tryd.underlying59 rfl (by kernel_rfl)) rfl ?_
   exact ⟨kF, (kl HB)⟩
  ·replace c6 := Bool.eq_false_iff.mpr c6; subst c6
   rw [if_neg (show ¬ (false = true) by decide)] at H; simp only [Option.some.injEq, Prod.mk.injEq] at H; obtain ⟨rfl, rfl, rfl, rfl⟩ := H
   go_enter Tryd.func58, Tryd.ntmps58
   go_wp2_with (first | ((with_reducible refine A0q (N := 4) rfl ?_); refine bxe 4 #[.int .i64 0, .int .u64 0] 59 (h := ?_); intro ac hg w9 hbox hb; have aa := ak (hbox); have al := kG hg HB; have am := kG hg HB; replace HB := kH HB hb; clear hb hbox hg) | ((with_reducible refine A0h (f := 49) rfl ?_); refine A1b (some 13) rfl rfl Tryd.func49 (by kernel_rfl) rfl #[.slice A0 l0.length c0, .int .i64 a1, .int .i64 64] rfl km ?_; (with_reducible refine (A01.calls k _ _ l0 a1 64 ah true _ ?ad ?ae A3.out).mono ?_); (case ad => repeat (first | exact (Kd.A1j ao.out HB.out) | (with_reducible refine Kd.A1e ?_ _) | (with_reducible refine Kd.A1d ?_ _) | (with_reducible refine Kd.A1v ?_))); (case ae => exact ap.out); rintro e w' ⟨rfl, ⟨nd, rfl⟩⟩; refine ⟨_, rfl, ?_⟩; (try (rw [A2q w9]; generalize hq_ : World.drewN w9 _ = w9; have af : A0b (w9.heap[ac]? = some (.cells #[.int .i64 0, .int .u64 0] 59 (0, 0))) := ⟨by rw [← hq_]; exact (kb aa)⟩; have ag : A0b (Below w.heap.size w w9) := ⟨by rw [← hq_]; exact (kl HB)⟩; clear aa HB hq_; have aa := af; have HB := ag; clear af ag))) | ((with_reducible refine A0h (f := 49) rfl ?_); refine A1b (some 24) rfl rfl Tryd.func49 (by kernel_rfl) rfl #[.slice A0 l0.length c0, .int .i64 (wrap64 (a1 + 64)), .int .i64 64] rfl km ?_; (with_reducible refine (A01.calls k _ _ l0 (wrap64 (a1 + 64)) 64 an false _ ?ad ?ae A5.out).mono ?_); (case ad => repeat (first | exact (Kd.A1j ao.out HB.out) | (with_reducible refine Kd.A1e ?_ _) | (with_reducible refine Kd.A1d ?_ _) | (with_reducible refine Kd.A1v ?_))); (case ae => exact ap.out); rintro e w' ⟨rfl, ⟨nd, rfl⟩⟩; refine ⟨_, rfl, ?_⟩; (try (rw [A2q w9]; generalize hq_ : World.drewN w9 _ = w9; have af : A0b (w9.heap[ac]? = some (.cells #[.int .i64 0, .int .u64 0] 59 (0, 0))) := ⟨by rw [← hq_]; exact (kb aa)⟩; have ag : A0b (Below w.heap.size w w9) := ⟨by rw [← hq_]; exact (kl HB)⟩; clear aa HB hq_; have aa := af; have HB := ag; clear af ag)); obtain ⟨ar, au⟩ := kc2 aa; obtain ⟨av, aw⟩ := kf2 aa))
   refine bodyPost_ret (results_ctt rfl _ _ ac 59 #[.int .i64 0, .int .u64 0] (0, 0) _ rfl (kb aa) Tryd.underlying59 rfl (by kernel_rfl)) rfl ?_
   exact ⟨kF, (kl HB)⟩
 ·replace c4 := Bool.eq_false_iff.mpr c4; subst c4
  rw [if_neg (show ¬ (false = true) by decide)] at H; simp only [Option.some.injEq, Prod.mk.injEq] at H; obtain ⟨rfl, rfl, rfl, rfl⟩ := H
  go_enter Tryd.func58, Tryd.ntmps58
  go_wp2_with (first | ((with_reducible refine A0q (N := 4) rfl ?_); refine bxe 4 #[.int .i64 0, .int .u64 0] 59 (h := ?_); intro ac hg aq hbox hb; have aa := ak (hbox); have al := kG hg HB; have am := kG hg HB; replace HB := kH HB hb; clear hb hbox hg) | ((with_reducible refine A0h (f := 49) rfl ?_); refine A1b (some 13) rfl rfl Tryd.func49 (by kernel_rfl) rfl #[.slice A0 l0.length c0, .int .i64 a1, .int .i64 64] rfl km ?_; (with_reducible refine (A01.calls k _ _ l0 a1 64 ah false _ ?ad ?ae A3.out).mono ?_); (case ad => repeat (first | exact (Kd.A1j ao.out HB.out) | (with_reducible refine Kd.A1e ?_ _) | (with_reducible refine Kd.A1d ?_ _) | (with_reducible refine Kd.A1v ?_))); (case ae => exact ap.out); rintro e w' ⟨rfl, ⟨nd, rfl⟩⟩; refine ⟨_, rfl, ?_⟩; (try (rw [A2q aq]; generalize hq_ : World.drewN aq _ = aq; have af : A0b (aq.heap[ac]? = some (.cells #[.int .i64 0, .int .u64 0] 59 (0, 0))) := ⟨by rw [← hq_]; exact (kb aa)⟩; have ag : A0b (Below w.heap.size w aq) := ⟨by rw [← hq_]; exact (kl HB)⟩; clear aa HB hq_; have aa := af; have HB := ag; clear af ag)); obtain ⟨ax, ay⟩ := kc2 aa; obtain ⟨az, a2⟩ := kf2 aa))
  refine bodyPost_ret (results_ctt rfl _ _ ac 59 #[.int .i64 0, .int .u64 0] (0, 0) _ rfl (kb aa) Tryd.underlying59 rfl (by kernel_rfl)) rfl ?_
  exact ⟨kF, (kl HB)⟩
end Go.Proofs.YtiahbcaoikoogaaDoor.All
end
