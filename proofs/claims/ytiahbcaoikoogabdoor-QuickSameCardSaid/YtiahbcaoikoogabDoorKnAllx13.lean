-- copied by a program of the session
import Derived.Test.YtiahbcaoikoogabDoorKnAllx12
namespace Go.Proofs.YtiahbcaoikoogabDoor.All
open Go.RowKit Go.Proofs.YtiahbcaoikoogabDoorW.PrintWords Go.Proofs.YtiahbcaoikoogabDoorW.PrintLast Go.Proofs.YtiahbcaoikoogabDoorW.PrintMore
attribute [local go_sem] A2m A2n A25 A26 A2b A2c A2o A2p
set_option linter.unusedVariables false
set_option linter.unusedSimpArgs false
mutual
def A1k.j0 : Nat → Int → List Int → Int → Bool → Option ((List (S48)) × Option Int)
 | 0, _, _, _, _ => none
 | k + 1, x0, x1, x2, aa => if aa = true then (some (([] : List (S48)), some 1)) else (A1k.l0 k x0 x1 ([] : List (S48)) 0 x2 0 0 0 0 0 0 0 0 0)
def A1k.l0 : Nat → Int → List Int → List (S48) → Int → Int → Int → Int → Int → Int → Int → Int → Int → Int → Int → Option ((List (S48)) × Option Int)
 | 0, _, _, _, _, _, _, _, _, _, _, _, _, _, _ => none
 | k + 1, x0, x1, x8, am, an, ao, ac, ad, ae, af, ag, ah, ai, aj => if ao < an then ((A12.f k x0 ac ad ae af ag ah ai aj x1 am).bind fun aa => (if aa.2.2.2.2.2.2.2.2.2.2.2.isNone = true then (if x8.length < 8796093022208 then (A1k.l0 k x0 x1 (x8 ++ [(⟨aa.1, aa.2.1⟩ : S48)]) (wrap64 (am + aa.2.2.2.2.2.2.2.2.2.2.1)) an (wrap64 (ao + 1)) aa.2.2.1 aa.2.2.2.1 aa.2.2.2.2.1 aa.2.2.2.2.2.1 aa.2.2.2.2.2.2.1 aa.2.2.2.2.2.2.2.1 aa.2.2.2.2.2.2.2.2.1 aa.2.2.2.2.2.2.2.2.2.1) else (none)) else (some (x8, some (aa.2.2.2.2.2.2.2.2.2.2.2.getD 0))))) else ((A06.f k x1 am (mn (wrap64 ((wrap64 (8 * (x1.length : Int))) - am)) 8)).bind fun al => (if (wrap64 ((wrap64 (8 * (x1.length : Int))) - am)) ≥ 8 then (some (x8, some 3)) else (if al.2 = true then (if al.1 = 0 then (some (x8, none)) else (some (x8, some 3))) else (some (x8, some 3)))))
end
def A1k.f (k : Nat) (a0 : Int) (l1 : List Int) (a2 : Int) : Option ((List (S48)) × Option Int) := if a2 < 1 then (A1k.j0 k a0 l1 a2 true) else (A1k.j0 k a0 l1 a2 (decide (a2 > 65535)))
set_option maxHeartbeats 8000000 in
set_option maxRecDepth 100000 in
theorem A1k.calls (k : Nat) (a0 : Int) (A1 : Option Addr) (c1 : Nat) (l1 : List Int) (a2 : Int) (r1 : List (S48)) (r2 : Option Int) (w : World) (hT : A3l w) (hr1 : Kd.C (Kd.int .u8) w A1 l1.length l1) (hc1 : l1.length ≤ c1) (h : A1k.f k a0 l1 a2 = some (r1, r2)) :
  Calls Tryd.prog 10 #[.int .i64 a0, .slice A1 l1.length c1, .int .i64 a2] w fun e w' => ∃ dn : Value, e = .returned (.tuple #[dn, errW r2]) ∧ Kd.R k48 48 w' w.heap.size (fun _ => True) dn r1 ∧ Below w.heap.size w w' := by
 have hu44 := Tryd.underlying44; have hu48 := Tryd.underlying48; have hu27 := Tryd.underlying27; have hu54 := Tryd.underlying54; have HT := ak hT; clear hT; have aX := ak hr1; have aY := ak hc1; clear hr1 hc1; have HB := ak (Below.refl w.heap.size w); have H : (if a2 < 1 then (A1k.j0 k a0 l1 a2 true) else (A1k.j0 k a0 l1 a2 (decide (a2 > 65535)))) = some (r1, r2) := h; clear h; have dk := ak H; clear H
 go_enter Tryd.func10, Tryd.ntmps10
 go_upto_region 1 with (fail)
 go_cut [23] (fun dJ wc => ∃ (kq : Nat) (aK : Bool), dJ = .bool aK ∧ A0e (A1k.j0 kq a0 l1 a2 aK = some (r1, r2)) ∧ A0e (kq ≤ k) ∧ A0e (Below w.heap.size w wc))
 case first =>
  have H := dk.out; clear dk
  by_cases c5 : a2 < 1
  ·rw [if_pos c5] at H; have aM := decide_eq_true c5; clear c5
   (first | rw [aM] | (simp only [A2w, A3k]; rw [aM]) | skip)
   have H' := ak H; clear H
   go_wp2
   go_meet
   case rel => exact ⟨_, (true), kE, H', ⟨by first | omega | exact Nat.le_refl _⟩, ⟨(kl HB)⟩⟩
  ·rw [if_neg c5] at H; have aM := decide_eq_false c5; clear c5
   (first | rw [aM] | (simp only [A2w, A3k]; rw [aM]) | skip)
   have H' := ak H; clear H
   go_wp2
   go_meet
   case rel => exact ⟨_, (decide (a2 > 65535)), kE, H', ⟨by first | omega | exact Nat.le_refl _⟩, ⟨(kl HB)⟩⟩
 case rest =>
  clear dk; (try clear c1); obtain ⟨kq, aK, rfl, HA, dp, HB⟩ := hcut
  cases kq with
  | zero => exact absurd HA.out (by simp [A1k.j0])
  | succ dq =>
   have H := HA.out; clear HA; simp only [A1k.j0] at H
   by_cases c6 : aK = true
   ·subst c6
    rw [if_pos rfl] at H; simp only [Option.some.injEq, Prod.mk.injEq] at H; obtain ⟨rfl, rfl⟩ := H
    go_wp2
    go_ret2
    exact ⟨_, kF, by first | exact Kd.R_nil _ _ _ _ _ | exact Kd.N_nil _ _ _ _ _ | exact Kd.V_nil _ _ _ _ _ | exact Kd.Q_nil _ _ _ _ _ | exact Kd.S_nil _ _ _ _ _, (kl HB)⟩
   ·replace c6 := Bool.eq_false_iff.mpr c6; subst c6
    rw [if_neg (show ¬ (false = true) by decide)] at H; have H' := ak H; clear H
    go_wp2_with (first | ((with_reducible refine A0p (N := 9) rfl ?_); refine bxe 9 #[.int .i64 0, .int .i64 0, .int .i64 0, .int .u64 0, .int .u64 0, .int .u64 0, .int .i64 0, .int .i64 0] 44 (h := ?_); intro av hg w7 hbox hb; have aa := ak (hbox); have dr := kG hg HB; have ds := kG hg HB; replace HB := kH HB hb; clear hb hbox hg))
    go_loopg [8, 10, 26] dq (fun kq v8 dK dL w' => ∃ (aw : List (S48)) (ac : Int) (a5 : Int) (ad : Int) (ae : Int) (af : Int) (ag : Int) (ah : Int) (ai : Int) (aj : Int) (al : Int), dK = .int .i64 ac ∧ dL = .int .i64 a5 ∧ A0e (A1k.l0 kq a0 l1 aw ac a2 a5 ad ae af ag ah ai aj al = some (r1, r2)) ∧ A0e (kq ≤ dq) ∧ A0e (Kd.R k48 48 w' w.heap.size (fun _ => True) v8 aw) ∧ A0e (w'.heap[av]? = some (.cells #[.int .i64 ad, .int .i64 ae, .int .i64 af, .int .u64 ag, .int .u64 ah, .int .u64 ai, .int .i64 aj, .int .i64 al] 44 (0, 0))) ∧ A0e (Below w.heap.size w w'))
    case atStart => exact ⟨(([] : List (S48))), (0), (0), (0), (0), (0), (0), (0), (0), (0), (0), kE, kE, H', ⟨Nat.le_refl _⟩, ⟨by first | exact Kd.R_nil _ _ _ _ _ | exact Kd.N_nil _ _ _ _ _ | exact Kd.V_nil _ _ _ _ _ | exact Kd.Q_nil _ _ _ _ _ | exact Kd.S_nil _ _ _ _ _⟩, ⟨kb aa⟩, ⟨(kl HB)⟩⟩
    case round =>
     clear H'; (try clear c1); (try clear c6); obtain ⟨aw, ac, a5, ad, ae, af, ag, ah, ai, aj, al, rfl, rfl, HA, du, HO_8, aa, HB⟩ := hrel
     cases gk with
     | zero => exact absurd HA.out (by simp [A1k.l0])
     | succ k2 =>
      have H := HA.out; clear HA; simp only [A1k.l0] at H
      by_cases c8 : a5 < a2
      ·rw [if_pos c8] at H; have dl := decide_eq_true c8; clear c8; replace H := bkH H; obtain ⟨⟨a6, a7, a9, aA, aC, aD, aE, aG, aH, aI, aN, dm⟩, A9, H⟩ := H; (try dsimp only at H)
       rcases dm with _ | aU
       ·have H1 : (if aw.length < 8796093022208 then (A1k.l0 k2 a0 l1 (aw ++ [(⟨a6, a7⟩ : S48)]) (wrap64 (ac + aN)) a2 (wrap64 (a5 + 1)) a9 aA aC aD aE aG aH aI) else (none)) = some (r1, r2) := by rw [if_pos (show (none : Option Int).isNone = true by rfl)] at H; exact H
        clear H; have H := H1; clear H1
        try simp only [A0l, A0m]
        by_cases c10 : aw.length < 8796093022208
        ·rw [if_pos c10] at H; have LMc10 := ak c10; clear c10; obtain ⟨ba, aJ⟩ : ∃ y_ : List (S48), y_ = (aw ++ [(⟨a6, a7⟩ : S48)]) := ⟨_, rfl⟩
         replace H : (A1k.l0 k2 a0 l1 ba (wrap64 (ac + aN)) a2 (wrap64 (a5 + 1)) a9 aA aC aD aE aG aH aI) = some (r1, r2) := by first | (rw [aJ]; with_reducible exact H) | (have H2_ := (Option.bind_some _ _).symm.trans H; rw [aJ]; with_reducible exact H2_) | (have H2_ := (Option.bind_some _ _).symm.trans H; with_reducible exact H2_) | with_reducible exact H | (rw [aJ]; exact H) | exact H
         have bb := ak aJ; clear aJ; have H' := ak H; clear H; obtain ⟨bo, bp, bq, br, bs, bt, bu, bv⟩ := kc8 aa; obtain ⟨bw, bx, bz, b0, b1, b2, b3, b4⟩ := kf8 aa
         go_wp2_with (first | ((with_reducible refine A0f (f := 19) rfl ?_); refine A03 (some 33) rfl rfl Tryd.func19 (by kernel_rfl) rfl #[.int .i64 a0, .agg #[.int .i64 ad, .int .i64 ae, .int .i64 af, .int .u64 ag, .int .u64 ah, .int .u64 ai, .int .i64 aj, .int .i64 al], .slice A1 l1.length c1, .int .i64 ac] rfl km ?_; (with_reducible refine (A12.calls k2 a0 ad ae af ag ah ai aj al _ _ l1 ac a6 a7 a9 aA aC aD aE aG aH aI aN none _ ?aq ?ar ?aQ A9.out).mono ?_); (case aq => exact A3l.below HT.out (kl HB) (Nat.le_refl _)); (case ar => repeat (first | exact (Kd.A2g aX.out HB.out) | (with_reducible refine Kd.A1v ?_ _) | (with_reducible refine Kd.A1w ?_ _) | (with_reducible refine Kd.A2e ?_))); (case aQ => exact aY.out); rintro e dN ⟨rfl, hb⟩; refine ⟨_, rfl, ?_⟩; replace HO_8 := ak (Kd.A1n (kr HO_8) hb); replace aa := kB aa hb; replace HB := kH HB hb; (try clear hb); (try simp only [A0l, A0m])) | ((with_reducible refine A0p (N := 11) rfl ?_); refine bxe 11 #[.int .i64 0, .int .u64 0] 48 (h := ?_); intro ap hg dO hbox hb; replace HO_8 := ak (Kd.A1n (Kd.R_elderB (kr HO_8) ap (Nat.le_of_eq hg.symm)) hb); have an := ak (hbox); have bc := kG hg HB; have be := kG hg HB; replace HB := kH HB hb; obtain ⟨ax, ay⟩ := kN hg aa; replace aa := kB aa hb; clear hb hbox hg) | ((with_reducible refine A0p (N := 12) rfl ?_); refine bxe 12 #[.int .i64 0, .int .i64 0, .int .i64 0, .int .u64 0, .int .u64 0, .int .u64 0, .int .i64 0, .int .i64 0] 44 (h := ?_); intro am hg dP hbox hb; replace HO_8 := ak (Kd.A1n (kr HO_8) hb); have ao := ak (hbox); have bf := kG hg HB; have bg := kG hg HB; replace HB := kH HB hb; obtain ⟨az, a1⟩ := kN hg aa; replace aa := kB aa hb; obtain ⟨a3, a4⟩ := kN hg an; replace an := kB an hb; clear hb hbox hg; have dw := ay.out; have dz := ax.out; have d0 := a3.out; have d5 := a4.out; obtain ⟨b5, b6⟩ := kc2 an; obtain ⟨b7, b8⟩ := kf2 an; have d6 := a1.out; have d7 := az.out; obtain ⟨b9, bA, bB, bC, bD, bE, bF, bG⟩ := kc8 ao; obtain ⟨bH, bI, bJ, bK, bL, bM, bN, bO⟩ := kf8 ao) | ((with_reducible refine A22 (b := .append) (xs := #[.tmp 42, .tmp 44]) rfl ?_); at_builtin; refine Kd.R_append k48 (w0 := w) w.heap.size rfl (.tmp 42) (.tmp 44) 22 48 (.agg #[(.int .i64 0), (.int .u64 0)]) 16 rfl Tryd.underlying22 info48 rfl (by decide) (by omega) u8 aw (⟨a6, a7⟩ : S48) [.int .i64 a6, .int .u64 a7] (fun k_ => k_ ≠ ap) (fun _ => False) rfl (by first | (go_simp; done) | (go_simp; rfl)) ?aP (fun _ hk => hk.elim) ?aF ?aO ?aB ?aS ?aL ?_; (case aP => exact k48_mkM _ _ _ (⟨a6, a7⟩ : S48)); (case aB => exact (kl HB)); (case aF => exact (fun k_ hk => Kd.freshB (g := ap) (o := .cells #[.int .i64 a6, .int .u64 a7] 48 (0, 0)) (kb an) k_ hk)); (case aO => exact (by (with_reducible repeat (first | apply Kd.A08 | apply Kd.A09 | apply Kd.A1b)); exact Kd.A1e (Kd.A0k (p := ⟨am, 7, none⟩) (Kd.A0k (p := ⟨am, 6, none⟩) (Kd.A0k (p := ⟨am, 5, none⟩) (Kd.A0k (p := ⟨am, 4, none⟩) (Kd.A0k (p := ⟨am, 3, none⟩) (Kd.A0k (p := ⟨am, 2, none⟩) (Kd.A0k (p := ⟨am, 1, none⟩) (Kd.A0k (p := ⟨am, 0, none⟩) (Kd.A0k (p := ⟨ap, 1, none⟩) (Kd.A0k (p := ⟨ap, 0, none⟩) (Kd.A00 (Kd.A1e HO_8.out (fun k_ hk => (⟨hk, hk.2⟩ : _ ∧ k_ ≠ ap))) ao.out (by decide)) (fun _ hk => hk.1.2) (.int .i64 a6)) (fun _ hk => hk.1.2) (.int .u64 a7)) (fun _ hk => hk.2) (.int .i64 a9)) (fun _ hk => hk.2) (.int .i64 aA)) (fun _ hk => hk.2) (.int .i64 aC)) (fun _ hk => hk.2) (.int .u64 aD)) (fun _ hk => hk.2) (.int .u64 aE)) (fun _ hk => hk.2) (.int .u64 aG)) (fun _ hk => hk.2) (.int .i64 aH)) (fun _ hk => hk.2) (.int .i64 aI)) (fun _ hk => hk.1.1.2))); (case aS => exact (A0y (kl HB))); (case aL => have := LMc10.out; omega); intro dM dQ ho hb hg hat; rw [← bb.out] at ho; have d8 := ak (A28 (g := av) (o := .cells #[.int .i64 ad, .int .i64 ae, .int .i64 af, .int .u64 ag, .int .u64 ah, .int .u64 ai, .int .i64 aj, .int .i64 al] 44 (0, 0)) (kb aa) hg (Kd.R_ne HO_8.out aa.out (by decide))); have d9 := ak (A28 (g := ap) (o := .cells #[.int .i64 a6, .int .u64 a7] 48 (0, 0)) (kb an) hg (Kd.R_away HO_8.out (fun _ hk => hk.2))); have dA := ak (A28 (g := am) (o := .cells #[.int .i64 a9, .int .i64 aA, .int .i64 aC, .int .u64 aD, .int .u64 aE, .int .u64 aG, .int .i64 aH, .int .i64 aI] 44 (0, 0)) (kb ao) hg (Kd.R_ne HO_8.out ao.out (by decide))); have dB := ak (hb); have dC := ak (ho); clear aa; clear an; clear ao; clear HB; clear HO_8; have aa := d8; have an := d9; have ao := dA; have HB := dB; have bh := dC; clear d8 d9 dA dB dC; clear ho hb hg hat; obtain ⟨bP, bQ, bR, bS, bT, bU, bV, bW⟩ := kc8 ao; obtain ⟨bX, bY, bZ, ca, cc, cd, ce, cf⟩ := kf8 ao; obtain ⟨cg, ch, ci, cj, ck, cm, co, cp⟩ := kc8 aa; obtain ⟨cq, cr, cs, ct, cu, cv, cw, cx⟩ := kf8 aa))
         go_roundg k2
         case measure => have := dp.out; have := du.out; omega
         case rel => exact ⟨(ba), (wrap64 (ac + aN)), (wrap64 (a5 + 1)), (a9), (aA), (aC), (aD), (aE), (aG), (aH), (aI), kE, kE, H', ⟨by have := dp.out; have := du.out; omega⟩, ⟨by (with_reducible repeat (first | apply Kd.A08 | apply Kd.A09 | apply Kd.A1b)); exact Kd.A1e (Kd.A0k (p := ⟨av, 7, none⟩) (Kd.A0k (p := ⟨av, 6, none⟩) (Kd.A0k (p := ⟨av, 5, none⟩) (Kd.A0k (p := ⟨av, 4, none⟩) (Kd.A0k (p := ⟨av, 3, none⟩) (Kd.A0k (p := ⟨av, 2, none⟩) (Kd.A0k (p := ⟨av, 1, none⟩) (Kd.A0k (p := ⟨av, 0, none⟩) (Kd.A00 bh.out aa.out (by decide)) (fun _ hk => hk.2) (.int .i64 a9)) (fun _ hk => hk.2) (.int .i64 aA)) (fun _ hk => hk.2) (.int .i64 aC)) (fun _ hk => hk.2) (.int .u64 aD)) (fun _ hk => hk.2) (.int .u64 aE)) (fun _ hk => hk.2) (.int .u64 aG)) (fun _ hk => hk.2) (.int .i64 aH)) (fun _ hk => hk.2) (.int .i64 aI)) (fun _ hk => trivial)⟩, ⟨(kb aa)⟩, ⟨(kl HB)⟩⟩
        ·rw [if_neg c10] at H
         exact absurd H (by simp)
       ·have H1 : (some (aw, some aU)) = some (r1, r2) := by rw [if_neg (show ¬ (some aU).isNone = true by simp)] at H; exact H
        clear H; have H := H1; clear H1
        try simp only [A0l, A0m]
        simp only [Option.some.injEq, Prod.mk.injEq] at H; obtain ⟨rfl, rfl⟩ := H; obtain ⟨cy, cz, cA, cB, cC, cD, cE, cF⟩ := kc8 aa; obtain ⟨cG, cH, cI, cJ, cK, cL, cM, cN⟩ := kf8 aa
        go_wp2_with (first | ((with_reducible refine A0f (f := 19) rfl ?_); refine A03 (some 33) rfl rfl Tryd.func19 (by kernel_rfl) rfl #[.int .i64 a0, .agg #[.int .i64 ad, .int .i64 ae, .int .i64 af, .int .u64 ag, .int .u64 ah, .int .u64 ai, .int .i64 aj, .int .i64 al], .slice A1 l1.length c1, .int .i64 ac] rfl km ?_; (with_reducible refine (A12.calls k2 a0 ad ae af ag ah ai aj al _ _ l1 ac a6 a7 a9 aA aC aD aE aG aH aI aN (some aU) _ ?aq ?ar ?aQ A9.out).mono ?_); (case aq => exact A3l.below HT.out (kl HB) (Nat.le_refl _)); (case ar => repeat (first | exact (Kd.A2g aX.out HB.out) | (with_reducible refine Kd.A1v ?_ _) | (with_reducible refine Kd.A1w ?_ _) | (with_reducible refine Kd.A2e ?_))); (case aQ => exact aY.out); rintro e dR ⟨rfl, hb⟩; refine ⟨_, rfl, ?_⟩; replace HO_8 := ak (Kd.A1n (kr HO_8) hb); replace aa := kB aa hb; replace HB := kH HB hb; (try clear hb); (try simp only [A0l, A0m])) | ((with_reducible refine A0p (N := 11) rfl ?_); refine bxe 11 #[.int .i64 0, .int .u64 0] 48 (h := ?_); intro ap hg dS hbox hb; replace HO_8 := ak (Kd.A1n (Kd.R_elderB (kr HO_8) ap (Nat.le_of_eq hg.symm)) hb); have an := ak (hbox); have bc := kG hg HB; have be := kG hg HB; replace HB := kH HB hb; obtain ⟨ax, ay⟩ := kN hg aa; replace aa := kB aa hb; clear hb hbox hg) | ((with_reducible refine A0p (N := 12) rfl ?_); refine bxe 12 #[.int .i64 0, .int .i64 0, .int .i64 0, .int .u64 0, .int .u64 0, .int .u64 0, .int .i64 0, .int .i64 0] 44 (h := ?_); intro am hg dT hbox hb; replace HO_8 := ak (Kd.A1n (kr HO_8) hb); have ao := ak (hbox); have bf := kG hg HB; have bg := kG hg HB; replace HB := kH HB hb; obtain ⟨az, a1⟩ := kN hg aa; replace aa := kB aa hb; obtain ⟨a3, a4⟩ := kN hg an; replace an := kB an hb; clear hb hbox hg; have dD := ay.out; have dE := ax.out; have dF := a3.out; have dG := a4.out; obtain ⟨cO, cP⟩ := kc2 an; obtain ⟨cQ, cR⟩ := kf2 an; have dH := a1.out; have dI := az.out; obtain ⟨cS, cT, cU, cV, cW, cX, cY, cZ⟩ := kc8 ao; obtain ⟨da, db, dc, dd, de, df, dg, dh⟩ := kf8 ao))
        go_ret2
        exact ⟨_, kF, by (with_reducible repeat (first | apply Kd.A08 | apply Kd.A09 | apply Kd.A1b)); exact Kd.A1e (Kd.A0k (p := ⟨am, 7, none⟩) (Kd.A0k (p := ⟨am, 6, none⟩) (Kd.A0k (p := ⟨am, 5, none⟩) (Kd.A0k (p := ⟨am, 4, none⟩) (Kd.A0k (p := ⟨am, 3, none⟩) (Kd.A0k (p := ⟨am, 2, none⟩) (Kd.A0k (p := ⟨am, 1, none⟩) (Kd.A0k (p := ⟨am, 0, none⟩) (Kd.A0k (p := ⟨ap, 1, none⟩) (Kd.A0k (p := ⟨ap, 0, none⟩) (Kd.A00 (Kd.A1e HO_8.out (fun k_ hk => (⟨hk, hk.2⟩ : _ ∧ k_ ≠ ap))) ao.out (by decide)) (fun _ hk => hk.1.2) (.int .i64 a6)) (fun _ hk => hk.1.2) (.int .u64 a7)) (fun _ hk => hk.2) (.int .i64 a9)) (fun _ hk => hk.2) (.int .i64 aA)) (fun _ hk => hk.2) (.int .i64 aC)) (fun _ hk => hk.2) (.int .u64 aD)) (fun _ hk => hk.2) (.int .u64 aE)) (fun _ hk => hk.2) (.int .u64 aG)) (fun _ hk => hk.2) (.int .i64 aH)) (fun _ hk => hk.2) (.int .i64 aI)) (fun _ hk => trivial), (kl HB)⟩
      ·rw [if_neg c8] at H; have dl := decide_eq_false c8; clear c8; obtain ⟨a8, au⟩ : ∃ j_ : Int, (mn (wrap64 ((wrap64 (8 * (l1.length : Int))) - ac)) 8) = j_ := ⟨_, rfl⟩
       replace H : ((A06.f k2 l1 ac (a8)).bind fun aT => (if (wrap64 ((wrap64 (8 * (l1.length : Int))) - ac)) ≥ 8 then (some (aw, some 3)) else (if aT.2 = true then (if aT.1 = 0 then (some (aw, none)) else (some (aw, some 3))) else (some (aw, some 3))))) = some (r1, r2) := by first | (rw [au] at H; exact H) | (simp only [au] at H ⊢; exact H)
       have aV : (if 8 < (wrap64 ((wrap64 (8 * (l1.length : Int))) - ac)) then 8 else (wrap64 ((wrap64 (8 * (l1.length : Int))) - ac))) = a8 := au; (try (have aW := aV; simp only [Int.ofNat_lt] at aW)); replace H := bkH H; obtain ⟨⟨aR, bi⟩, di, H⟩ := H; (try dsimp only at H)
       by_cases aZ : (wrap64 ((wrap64 (8 * (l1.length : Int))) - ac)) ≥ 8
       ·rw [if_pos aZ] at H; have bj : decide (8 ≤ (wrap64 ((wrap64 (8 * (l1.length : Int))) - ac))) = true := decide_eq_true aZ; clear aZ; simp only [Option.some.injEq, Prod.mk.injEq] at H; obtain ⟨rfl, rfl⟩ := H
        go_wp2_with (first | ((with_reducible refine A0f (f := 24) rfl ?_); refine A03 (some 61) rfl rfl Tryd.func24 (by kernel_rfl) rfl #[.slice A1 l1.length c1, .int .i64 ac, .int .i64 a8] rfl (by (try simp only [List.map_toArray, List.map_cons, List.map_nil]); first | done | (simp only [au]; rfl) | rfl | (simp only [List.length_drop, List.length_take]; rfl)) ?_; (with_reducible refine (A06.calls k2 _ _ l1 ac a8 aR bi _ ?aq ?ar di.out).mono ?_); (case aq => repeat (first | exact (Kd.A2g aX.out HB.out) | (with_reducible refine Kd.A1v ?_ _) | (with_reducible refine Kd.A1w ?_ _) | (with_reducible refine Kd.A2e ?_))); (case ar => exact aY.out); rintro e w' ⟨rfl, ⟨nd, rfl⟩⟩; refine ⟨_, rfl, ?_⟩))
        go_ret2
        exact ⟨_, by first | rfl | (simp [A0l, A0m] <;> rfl) | (simp only [← au]; first | rfl | (simp [A0l, A0m] <;> rfl)) | (simp [*, A0l, A0m] <;> rfl), by (with_reducible repeat (first | apply Kd.A08 | apply Kd.A09 | apply Kd.A1b)); exact HO_8.out, (kl HB)⟩
       ·rw [if_neg aZ] at H; have bj : decide (8 ≤ (wrap64 ((wrap64 (8 * (l1.length : Int))) - ac))) = false := decide_eq_false aZ; clear aZ
        by_cases dj : bi = true
        ·subst dj
         rw [if_pos rfl] at H
         by_cases bk : aR = 0
         ·rw [if_pos bk] at H; obtain ⟨bm, bn⟩ := kqT bk; clear bk; simp only [Option.some.injEq, Prod.mk.injEq] at H; obtain ⟨rfl, rfl⟩ := H
          go_wp2_with (first | ((with_reducible refine A0f (f := 24) rfl ?_); refine A03 (some 61) rfl rfl Tryd.func24 (by kernel_rfl) rfl #[.slice A1 l1.length c1, .int .i64 ac, .int .i64 a8] rfl (by (try simp only [List.map_toArray, List.map_cons, List.map_nil]); first | done | (simp only [au]; rfl) | rfl | (simp only [List.length_drop, List.length_take]; rfl)) ?_; (with_reducible refine (A06.calls k2 _ _ l1 ac a8 aR true _ ?aq ?ar di.out).mono ?_); (case aq => repeat (first | exact (Kd.A2g aX.out HB.out) | (with_reducible refine Kd.A1v ?_ _) | (with_reducible refine Kd.A1w ?_ _) | (with_reducible refine Kd.A2e ?_))); (case ar => exact aY.out); rintro e w' ⟨rfl, ⟨nd, rfl⟩⟩; refine ⟨_, rfl, ?_⟩))
          go_ret2
          exact ⟨_, by first | rfl | (simp [A0l, A0m] <;> rfl) | (simp only [← au]; first | rfl | (simp [A0l, A0m] <;> rfl)) | (simp [*, A0l, A0m] <;> rfl), by (with_reducible repeat (first | apply Kd.A08 | apply Kd.A09 | apply Kd.A1b)); exact HO_8.out, (kl HB)⟩
         ·rw [if_neg bk] at H; obtain ⟨bm, bn⟩ := kqF bk; simp only [Option.some.injEq, Prod.mk.injEq] at H; obtain ⟨rfl, rfl⟩ := H
          go_wp2_with (first | ((with_reducible refine A0f (f := 24) rfl ?_); refine A03 (some 61) rfl rfl Tryd.func24 (by kernel_rfl) rfl #[.slice A1 l1.length c1, .int .i64 ac, .int .i64 a8] rfl (by (try simp only [List.map_toArray, List.map_cons, List.map_nil]); first | done | (simp only [au]; rfl) | rfl | (simp only [List.length_drop, List.length_take]; rfl)) ?_; (with_reducible refine (A06.calls k2 _ _ l1 ac a8 aR true _ ?aq ?ar di.out).mono ?_); (case aq => repeat (first | exact (Kd.A2g aX.out HB.out) | (with_reducible refine Kd.A1v ?_ _) | (with_reducible refine Kd.A1w ?_ _) | (with_reducible refine Kd.A2e ?_))); (case ar => exact aY.out); rintro e w' ⟨rfl, ⟨nd, rfl⟩⟩; refine ⟨_, rfl, ?_⟩))
          go_ret2
          exact ⟨_, by first | rfl | (simp [A0l, A0m] <;> rfl) | (simp only [← au]; first | rfl | (simp [A0l, A0m] <;> rfl)) | (simp [*, A0l, A0m] <;> rfl), by (with_reducible repeat (first | apply Kd.A08 | apply Kd.A09 | apply Kd.A1b)); exact HO_8.out, (kl HB)⟩
        ·replace dj := Bool.eq_false_iff.mpr dj; subst dj
         rw [if_neg (show ¬ (false = true) by decide)] at H; simp only [Option.some.injEq, Prod.mk.injEq] at H; obtain ⟨rfl, rfl⟩ := H
         go_wp2_with (first | ((with_reducible refine A0f (f := 24) rfl ?_); refine A03 (some 61) rfl rfl Tryd.func24 (by kernel_rfl) rfl #[.slice A1 l1.length c1, .int .i64 ac, .int .i64 a8] rfl (by (try simp only [List.map_toArray, List.map_cons, List.map_nil]); first | done | (simp only [au]; rfl) | rfl | (simp only [List.length_drop, List.length_take]; rfl)) ?_; (with_reducible refine (A06.calls k2 _ _ l1 ac a8 aR false _ ?aq ?ar di.out).mono ?_); (case aq => repeat (first | exact (Kd.A2g aX.out HB.out) | (with_reducible refine Kd.A1v ?_ _) | (with_reducible refine Kd.A1w ?_ _) | (with_reducible refine Kd.A2e ?_))); (case ar => exact aY.out); rintro e w' ⟨rfl, ⟨nd, rfl⟩⟩; refine ⟨_, rfl, ?_⟩))
         go_ret2
         exact ⟨_, by first | rfl | (simp [A0l, A0m] <;> rfl) | (simp only [← au]; first | rfl | (simp [A0l, A0m] <;> rfl)) | (simp [*, A0l, A0m] <;> rfl), by (with_reducible repeat (first | apply Kd.A08 | apply Kd.A09 | apply Kd.A1b)); exact HO_8.out, (kl HB)⟩
end Go.Proofs.YtiahbcaoikoogabDoor.All
