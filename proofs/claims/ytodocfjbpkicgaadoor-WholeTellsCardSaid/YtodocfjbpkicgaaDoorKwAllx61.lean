-- copied by a program of the session
import Derived.Test.YtodocfjbpkicgaaDoorKwAllx36
set_option linter.unusedSimpArgs false
set_option linter.unusedVariables false
set_option maxHeartbeats 8000000
set_option maxRecDepth 100000
namespace Go.Proofs.YtodocfjbpkicgaaDoor.All
open Go.RowKit Go.Zw Go.Zl Go.Zm
attribute [local go_sem] A2h A2r
mutual
def A1b.j0 : Nat → Int → List Int → Int → Bool → Option ((List (S42)) × Option Int)
 | 0, _, _, _, _ => none
 | k + 1, x0, x1, x2, aa => if aa = true then (some (([] : List (S42)), some 1)) else (A1b.l0 k x0 x1 ([] : List (S42)) 0 x2 0 0 0 0 0 0 0 0 0)
def A1b.l0 : Nat → Int → List Int → List (S42) → Int → Int → Int → Int → Int → Int → Int → Int → Int → Int → Int → Option ((List (S42)) × Option Int)
 | 0, _, _, _, _, _, _, _, _, _, _, _, _, _, _ => none
 | k + 1, x0, x1, x8, am, an, ao, ac, ad, ae, af, ag, ah, ai, aj => if ao < an then ((A1u.f k x0 ac ad ae af ag ah ai aj x1 am).bind fun aa => (if aa.2.2.2.2.2.2.2.2.2.2.2.isNone = true then (if x8.length < 8796093022208 then (A1b.l0 k x0 x1 (x8 ++ [(⟨aa.1, aa.2.1⟩ : S42)]) (wrap64 (am + aa.2.2.2.2.2.2.2.2.2.2.1)) an (wrap64 (ao + 1)) aa.2.2.1 aa.2.2.2.1 aa.2.2.2.2.1 aa.2.2.2.2.2.1 aa.2.2.2.2.2.2.1 aa.2.2.2.2.2.2.2.1 aa.2.2.2.2.2.2.2.2.1 aa.2.2.2.2.2.2.2.2.2.1) else (none)) else (some (x8, some (aa.2.2.2.2.2.2.2.2.2.2.2.getD 0))))) else ((A0z.f k x1 am (mn (wrap64 ((wrap64 (8 * (x1.length : Int))) - am)) 8)).bind fun al => (if (wrap64 ((wrap64 (8 * (x1.length : Int))) - am)) ≥ 8 then (some (x8, some 3)) else (if al.2 = true then (if al.1 = 0 then (some (x8, none)) else (some (x8, some 3))) else (some (x8, some 3)))))
end
def A1b.f (k : Nat) (a0 : Int) (l1 : List Int) (a2 : Int) : Option ((List (S42)) × Option Int) := if a2 < 1 then (A1b.j0 k a0 l1 a2 true) else (A1b.j0 k a0 l1 a2 (decide (a2 > 65535)))
theorem A1b.A2x : ∀ k, (∀ y0 y1 y2 y3, LeO (A1b.j0 k y0 y1 y2 y3) (A1b.j0 (k + 1) y0 y1 y2 y3)) ∧ (∀ y0 y1 y2 y3 y4 y5 y6 y7 y8 y9 aa ac ad ae, LeO (A1b.l0 k y0 y1 y2 y3 y4 y5 y6 y7 y8 y9 aa ac ad ae) (A1b.l0 (k + 1) y0 y1 y2 y3 y4 y5 y6 y7 y8 y9 aa ac ad ae))
 | 0 => ⟨fun _ _ _ _ r h => by simp [A1b.j0] at h, fun _ _ _ _ _ _ _ _ _ _ _ _ _ _ r h => by simp [A1b.l0] at h⟩
 | k + 1 => by
  obtain ⟨ih0, ih1⟩ := A1b.A2x k
  refine ⟨?_, ?_⟩ <;> intros <;> (first | unfold A1b.j0 | unfold A1b.l0) <;> (
   repeat' first
   | with_reducible apply ih0
   | with_reducible apply ih1
   | with_reducible apply A0z.mono
   | with_reducible apply A1u.mono
   | (with_reducible exact LeO.refl _)
   | (with_reducible exact LeO.none _)
   | (with_reducible refine LeO.ite ?_ ?_)
   | (with_reducible refine LeO.bind ?_ (fun _ => ?_))
   | exact LeO.none _
   | refine LeO.ite ?_ ?_
   | refine LeO.bind ?_ (fun _ => ?_))
theorem A1b.mono : ∀ a0 a1 a2 k, LeO (A1b.f k a0 a1 a2) (A1b.f (k + 1) a0 a1 a2) := by
 intro a0 a1 a2 k
 obtain ⟨ih0, ih1⟩ := A1b.A2x k
 unfold A1b.f
 repeat' first
   | with_reducible apply ih0
   | with_reducible apply ih1
   | with_reducible apply A0z.mono
   | with_reducible apply A1u.mono
   | (with_reducible exact LeO.refl _)
   | (with_reducible exact LeO.none _)
   | (with_reducible refine LeO.ite ?_ ?_)
   | (with_reducible refine LeO.bind ?_ (fun _ => ?_))
   | exact LeO.none _
   | refine LeO.ite ?_ ?_
   | refine LeO.bind ?_ (fun _ => ?_)
theorem A1b.calls (k : Nat) (a0 : Int) (A1 : Option Addr) (c1 : Nat) (l1 : List Int) (a2 : Int) (r1 : List (S42)) (r2 : Option Int) (w : World) (hT : A39 w) (hr1 : Kd.C (Kd.int .u8) w A1 l1.length l1) (hc1 : l1.length ≤ c1) (h : A1b.f k a0 l1 a2 = some (r1, r2)) :
  Calls Tryd.prog 63 #[.int .i64 a0, .slice A1 l1.length c1, .int .i64 a2] w fun e w' => ∃ ds : Value, e = .returned (.tuple #[ds, errW r2]) ∧ Kd.R k42 42 w' w.heap.size (fun _ => True) ds r1 ∧ Below w.heap.size w w' := by
 have hu32 := Tryd.underlying32; have hu42 := Tryd.underlying42; have hu38 := Tryd.underlying38; have hu94 := Tryd.underlying94; have HT := ak hT; clear hT; have be := ak hr1; have bf := ak hc1; clear hr1 hc1; have HB := ak (Below.refl w.heap.size w); have H := h; clear h; unfold A1b.f at H; have dn := ak H; clear H
 go_enter Tryd.func63, Tryd.ntmps63
 go_upto_region 1 with (fail)
 go_cut [23] (fun dL wc => ∃ (kq : Nat) (aM : Bool), dL = .bool aM ∧ A0b (A1b.j0 kq a0 l1 a2 aM = some (r1, r2)) ∧ A0b (kq ≤ k) ∧ A0b (Below w.heap.size w wc))
 case first =>
  have H := dn.out; clear dn
  by_cases c5 : a2 < 1
  ·rw [kIp c5] at H; have aN := kTt c5; clear c5
   (first | rw [aN] | (simp only [A2i, A2u]; rw [aN]) | skip)
   have H' := ak H; clear H
   go_wp2
   go_meet
   case rel => exact ⟨_, (true), kE, H', kO, ⟨(kl HB)⟩⟩
  rw [kIn c5] at H; have aN := kFf c5; clear c5
  (first | rw [aN] | (simp only [A2i, A2u]; rw [aN]) | skip)
  have H' := ak H; clear H
  go_wp2
  go_meet
  case rel => exact ⟨_, (decide (a2 > 65535)), kE, H', kO, ⟨(kl HB)⟩⟩
 case rest =>
  clear dn; obtain ⟨kq, aM, rfl, HA, dt, HB⟩ := hcut
  cases kq with
  | zero => exact absurd HA.out (by simp [A1b.j0])
  | succ du =>
   have H := HA.out; clear HA; simp only [A1b.j0] at H
   by_cases c6 : aM = true
   ·subst c6
    rw [if_pos rfl] at H; obtain ⟨rfl, rfl⟩ := kI2 H
    go_wp2
    go_ret2
    exact ⟨_, kF, kNi, (kl HB)⟩
   replace c6 := Bool.eq_false_iff.mpr c6; subst c6
   rw [if_neg (show ¬ (false = true) by decide)] at H; have H' := ak H; clear H
   go_wp2_with (first | ((with_reducible refine A0s (N := 9) rfl ?_); refine bxe 9 #[.int .i64 0, .int .i64 0, .int .i64 0, .int .u64 0, .int .u64 0, .int .u64 0, .int .i64 0, .int .i64 0] 32 (h := ?_); intro aq hg w7 hbox hb; have aa := ak (hbox); have dp := kG hg HB; have dq := kG hg HB; replace HB := kH HB hb; clear hb hbox hg))
   go_loopg [8, 10, 26] du (fun kq v8 dM dN w' => ∃ (x8_2 : List (S42)) (ad : Int) (aG : Int) (ae : Int) (af : Int) (ag : Int) (ah : Int) (ai : Int) (aj : Int) (al : Int) (am : Int), dM = .int .i64 ad ∧ dN = .int .i64 aG ∧ A0b (A1b.l0 kq a0 l1 x8_2 ad a2 aG ae af ag ah ai aj al am = some (r1, r2)) ∧ A0b (kq ≤ du) ∧ A0b (Kd.R k42 42 w' w.heap.size (fun _ => True) v8 x8_2) ∧ A0b (w'.heap[aq]? = some (.cells #[.int .i64 ae, .int .i64 af, .int .i64 ag, .int .u64 ah, .int .u64 ai, .int .u64 aj, .int .i64 al, .int .i64 am] 32 (0, 0))) ∧ A0b (Below w.heap.size w w'))
   case atStart => exact ⟨(([] : List (S42))), (0), (0), (0), (0), (0), (0), (0), (0), (0), (0), kE, kE, H', ⟨Nat.le_refl _⟩, ⟨kNi⟩, ⟨kb aa⟩, ⟨(kl HB)⟩⟩
   case round =>
    clear H'; obtain ⟨x8_2, ad, aG, ae, af, ag, ah, ai, aj, al, am, rfl, rfl, HA, dv, HO_8, aa, HB⟩ := hrel
    cases gk with
    | zero => exact absurd HA.out (by simp [A1b.l0])
    | succ k2 =>
     have H := HA.out; clear HA; simp only [A1b.l0] at H
     by_cases c8 : aG < a2
     ·rw [kIp c8] at H; have dr := kTt c8; clear c8; replace H := bkH H; obtain ⟨⟨ar, au, a6, a7, a8, a9, aA, aC, aD, aE, aJ, bi⟩, A9, H⟩ := H; (try dsimp only at H)
      rcases bi with _ | aQ
      ·have H1 : (if x8_2.length < 8796093022208 then (A1b.l0 k2 a0 l1 (x8_2 ++ [(⟨ar, au⟩ : S42)]) (wrap64 (ad + aJ)) a2 (wrap64 (aG + 1)) a6 a7 a8 a9 aA aC aD aE) else (none)) = some (r1, r2) := by rw [if_pos (show (none : Option Int).isNone = true by rfl)] at H; exact H
       clear H; have H := H1; clear H1
       try simp only [A0i, A0j]
       by_cases c10 : x8_2.length < 8796093022208
       ·rw [kIp c10] at H; have LMc10 := ak c10; clear c10; obtain ⟨aT, aH⟩ : ∃ y_ : List (S42), y_ = (x8_2 ++ [(⟨ar, au⟩ : S42)]) := ⟨_, rfl⟩
        replace H : (A1b.l0 k2 a0 l1 aT (wrap64 (ad + aJ)) a2 (wrap64 (aG + 1)) a6 a7 a8 a9 aA aC aD aE) = some (r1, r2) := by first | (rw [aH]; with_reducible exact H) | (have H2_ := (Option.bind_some _ _).symm.trans H; rw [aH]; with_reducible exact H2_) | (have H2_ := (Option.bind_some _ _).symm.trans H; with_reducible exact H2_) | with_reducible exact H | (rw [aH]; exact H) | exact H
        have aV := ak aH; clear aH; have H' := ak H; clear H; obtain ⟨bo, bp, bq, br, bs, bt, bu, bv⟩ := kc8 aa; obtain ⟨bw, bx, bz, b0, b1, b2, b3, b4⟩ := kf8 aa
        go_wp2_with (first | ((with_reducible refine A0l (f := 20) rfl ?_); refine A1d (some 33) rfl rfl Tryd.func20 (by kernel_rfl) rfl #[.int .i64 a0, .agg #[.int .i64 ae, .int .i64 af, .int .i64 ag, .int .u64 ah, .int .u64 ai, .int .u64 aj, .int .i64 al, .int .i64 am], .slice A1 l1.length c1, .int .i64 ad] rfl km ?_; (with_reducible refine (A1u.calls k2 a0 ae af ag ah ai aj al am _ _ l1 ad ar au a6 a7 a8 a9 aA aC aD aE aJ none _ ?av ?aw ?aR A9.out).mono ?_); (case av => exact A39.below HT.out (kl HB) (Nat.le_refl _)); (case aw => exact kC (Kd.A1i be.out HB.out)); (case aR => exact bf.out); rintro e dO ⟨rfl, hb⟩; refine ⟨_, rfl, ?_⟩; replace HO_8 := ak (Kd.A1x (kr HO_8) hb); replace aa := kB aa hb; replace HB := kH HB hb; (try simp only [A0i, A0j])) | ((with_reducible refine A0s (N := 11) rfl ?_); refine bxe 11 #[.int .i64 0, .int .u64 0] 42 (h := ?_); intro ap hg dP hbox hb; replace HO_8 := ak (Kd.A1x (Kd.A31 (kr HO_8) ap (Nat.le_of_eq hg.symm)) hb); have an := ak (hbox); have aW := kG hg HB; have aX := kG hg HB; replace HB := kH HB hb; obtain ⟨ax, ay⟩ := kN hg aa; replace aa := kB aa hb; clear hb hbox hg) | ((with_reducible refine A0s (N := 12) rfl ?_); refine bxe 12 #[.int .i64 0, .int .i64 0, .int .i64 0, .int .u64 0, .int .u64 0, .int .u64 0, .int .i64 0, .int .i64 0] 32 (h := ?_); intro ac hg dQ hbox hb; replace HO_8 := ak (Kd.A1x (kr HO_8) hb); have ao := ak (hbox); have aY := kG hg HB; have aZ := kG hg HB; replace HB := kH HB hb; obtain ⟨az, a1⟩ := kN hg aa; replace aa := kB aa hb; obtain ⟨a3, a4⟩ := kN hg an; replace an := kB an hb; clear hb hbox hg; have dw := ay.out; have dz := ax.out; have d0 := a3.out; have d5 := a4.out; obtain ⟨b5, b6⟩ := kc2 an; obtain ⟨b7, b8⟩ := kf2 an; have d6 := a1.out; have d7 := az.out; obtain ⟨b9, bA, bB, bC, bD, bE, bF, bG⟩ := kc8 ao; obtain ⟨bH, bI, bJ, bK, bL, bM, bN, bO⟩ := kf8 ao) | ((with_reducible refine A2c (b := .append) (xs := #[.tmp 42, .tmp 44]) rfl ?_); at_builtin; refine Kd.A3t k42 (w0 := w) w.heap.size rfl (.tmp 42) (.tmp 44) 36 42 (.agg #[(.int .i64 0), (.int .u64 0)]) 16 rfl Tryd.underlying36 info42 rfl (by decide) (by omega) u8 x8_2 (⟨ar, au⟩ : S42) [.int .i64 ar, .int .u64 au] (fun k_ => k_ ≠ ap) (fun _ => False) rfl (by first | (go_simp; done) | (go_simp; rfl)) ?aP (fun _ hk => hk.elim) ?aF ?aO ?aB ?aS ?aL ?_; (case aP => exact k42_mkM _ _ _ (⟨ar, au⟩ : S42)); (case aB => exact (kl HB)); (case aF => exact (fun k_ hk => Kd.freshB (g := ap) (o := .cells #[.int .i64 ar, .int .u64 au] 42 (0, 0)) (kb an) k_ hk)); (case aO => exact (by (with_reducible repeat (first | apply Kd.R_alloc | apply Kd.A00 | apply Kd.A02)); exact Kd.A1e (Kd.A03 (p := ⟨ac, 7, none⟩) (Kd.A03 (p := ⟨ac, 6, none⟩) (Kd.A03 (p := ⟨ac, 5, none⟩) (Kd.A03 (p := ⟨ac, 4, none⟩) (Kd.A03 (p := ⟨ac, 3, none⟩) (Kd.A03 (p := ⟨ac, 2, none⟩) (Kd.A03 (p := ⟨ac, 1, none⟩) (Kd.A03 (p := ⟨ac, 0, none⟩) (Kd.A03 (p := ⟨ap, 1, none⟩) (Kd.A03 (p := ⟨ap, 0, none⟩) (Kd.A2a (Kd.A1e HO_8.out (fun k_ hk => (⟨hk, hk.2⟩ : _ ∧ k_ ≠ ap))) ao.out (by decide)) (fun _ hk => hk.1.2) (.int .i64 ar)) (fun _ hk => hk.1.2) (.int .u64 au)) (fun _ hk => hk.2) (.int .i64 a6)) (fun _ hk => hk.2) (.int .i64 a7)) (fun _ hk => hk.2) (.int .i64 a8)) (fun _ hk => hk.2) (.int .u64 a9)) (fun _ hk => hk.2) (.int .u64 aA)) (fun _ hk => hk.2) (.int .u64 aC)) (fun _ hk => hk.2) (.int .i64 aD)) (fun _ hk => hk.2) (.int .i64 aE)) (fun _ hk => hk.1.1.2))); (case aS => exact (A0t (kl HB))); (case aL => have := LMc10.out; omega); intro d8 dR ho hb hg hat; rw [← aV.out] at ho; have d9 := ak (A15 (g := aq) (o := .cells #[.int .i64 ae, .int .i64 af, .int .i64 ag, .int .u64 ah, .int .u64 ai, .int .u64 aj, .int .i64 al, .int .i64 am] 32 (0, 0)) (kb aa) hg (Kd.R_ne HO_8.out aa.out (by decide))); have dA := ak (A15 (g := ap) (o := .cells #[.int .i64 ar, .int .u64 au] 42 (0, 0)) (kb an) hg (Kd.R_away HO_8.out (fun _ hk => hk.2))); have dB := ak (A15 (g := ac) (o := .cells #[.int .i64 a6, .int .i64 a7, .int .i64 a8, .int .u64 a9, .int .u64 aA, .int .u64 aC, .int .i64 aD, .int .i64 aE] 32 (0, 0)) (kb ao) hg (Kd.R_ne HO_8.out ao.out (by decide))); have dC := ak (hb); have dD := ak (ho); clear aa; clear an; clear ao; clear HB; clear HO_8; have aa := d9; have an := dA; have ao := dB; have HB := dC; have ba := dD; clear d9 dA dB dC dD; clear ho hb hg hat; obtain ⟨bP, bQ, bR, bS, bT, bU, bV, bW⟩ := kc8 ao; obtain ⟨bX, bY, bZ, ca, cc, cf, cg, ch⟩ := kf8 ao; obtain ⟨ci, cj, ck, cm, co, cp, cq, cr⟩ := kc8 aa; obtain ⟨cs, ct, cu, cv, cw, cx, cy, cz⟩ := kf8 aa))
        go_roundg k2
        case measure => have := dt.out; have := dv.out; omega
        case rel => exact ⟨(aT), (wrap64 (ad + aJ)), (wrap64 (aG + 1)), (a6), (a7), (a8), (a9), (aA), (aC), (aD), (aE), kE, kE, H', ⟨by have := dt.out; have := dv.out; omega⟩, ⟨by (with_reducible repeat (first | apply Kd.R_alloc | apply Kd.A00 | apply Kd.A02)); exact Kd.A1e (Kd.A03 (p := ⟨aq, 7, none⟩) (Kd.A03 (p := ⟨aq, 6, none⟩) (Kd.A03 (p := ⟨aq, 5, none⟩) (Kd.A03 (p := ⟨aq, 4, none⟩) (Kd.A03 (p := ⟨aq, 3, none⟩) (Kd.A03 (p := ⟨aq, 2, none⟩) (Kd.A03 (p := ⟨aq, 1, none⟩) (Kd.A03 (p := ⟨aq, 0, none⟩) (Kd.A2a ba.out aa.out (by decide)) (fun _ hk => hk.2) (.int .i64 a6)) (fun _ hk => hk.2) (.int .i64 a7)) (fun _ hk => hk.2) (.int .i64 a8)) (fun _ hk => hk.2) (.int .u64 a9)) (fun _ hk => hk.2) (.int .u64 aA)) (fun _ hk => hk.2) (.int .u64 aC)) (fun _ hk => hk.2) (.int .i64 aD)) (fun _ hk => hk.2) (.int .i64 aE)) (fun _ hk => trivial)⟩, ⟨(kb aa)⟩, ⟨(kl HB)⟩⟩
       exact (kA c10 H).elim
      have H1 : (some (x8_2, some aQ)) = some (r1, r2) := by rw [if_neg (show ¬ (some aQ).isNone = true by simp)] at H; exact H
      clear H; have H := H1; clear H1
      try simp only [A0i, A0j]
      obtain ⟨rfl, rfl⟩ := kI2 H; obtain ⟨cA, cB, cC, cD, cF, cG, cH, cI⟩ := kc8 aa; obtain ⟨cJ, cK, cL, cM, cN, cO, cP, cQ⟩ := kf8 aa
      go_wp2_with (first | ((with_reducible refine A0l (f := 20) rfl ?_); refine A1d (some 33) rfl rfl Tryd.func20 (by kernel_rfl) rfl #[.int .i64 a0, .agg #[.int .i64 ae, .int .i64 af, .int .i64 ag, .int .u64 ah, .int .u64 ai, .int .u64 aj, .int .i64 al, .int .i64 am], .slice A1 l1.length c1, .int .i64 ad] rfl km ?_; (with_reducible refine (A1u.calls k2 a0 ae af ag ah ai aj al am _ _ l1 ad ar au a6 a7 a8 a9 aA aC aD aE aJ (some aQ) _ ?av ?aw ?aR A9.out).mono ?_); (case av => exact A39.below HT.out (kl HB) (Nat.le_refl _)); (case aw => exact kC (Kd.A1i be.out HB.out)); (case aR => exact bf.out); rintro e dS ⟨rfl, hb⟩; refine ⟨_, rfl, ?_⟩; replace HO_8 := ak (Kd.A1x (kr HO_8) hb); replace aa := kB aa hb; replace HB := kH HB hb; (try simp only [A0i, A0j])) | ((with_reducible refine A0s (N := 11) rfl ?_); refine bxe 11 #[.int .i64 0, .int .u64 0] 42 (h := ?_); intro ap hg dT hbox hb; replace HO_8 := ak (Kd.A1x (Kd.A31 (kr HO_8) ap (Nat.le_of_eq hg.symm)) hb); have an := ak (hbox); have aW := kG hg HB; have aX := kG hg HB; replace HB := kH HB hb; obtain ⟨ax, ay⟩ := kN hg aa; replace aa := kB aa hb; clear hb hbox hg) | ((with_reducible refine A0s (N := 12) rfl ?_); refine bxe 12 #[.int .i64 0, .int .i64 0, .int .i64 0, .int .u64 0, .int .u64 0, .int .u64 0, .int .i64 0, .int .i64 0] 32 (h := ?_); intro ac hg dU hbox hb; replace HO_8 := ak (Kd.A1x (kr HO_8) hb); have ao := ak (hbox); have aY := kG hg HB; have aZ := kG hg HB; replace HB := kH HB hb; obtain ⟨az, a1⟩ := kN hg aa; replace aa := kB aa hb; obtain ⟨a3, a4⟩ := kN hg an; replace an := kB an hb; clear hb hbox hg; have dF := ay.out; have dG := ax.out; have dH := a3.out; have dI := a4.out; obtain ⟨cR, cS⟩ := kc2 an; obtain ⟨cT, cU⟩ := kf2 an; have dJ := a1.out; have dK := az.out; obtain ⟨cV, cW, cX, cY, cZ, da, db, dc⟩ := kc8 ao; obtain ⟨dd, de, df, dg, dh, di, dj, dk⟩ := kf8 ao))
      go_ret2
      exact ⟨_, kF, by (with_reducible repeat (first | apply Kd.R_alloc | apply Kd.A00 | apply Kd.A02)); exact Kd.A1e (Kd.A03 (p := ⟨ac, 7, none⟩) (Kd.A03 (p := ⟨ac, 6, none⟩) (Kd.A03 (p := ⟨ac, 5, none⟩) (Kd.A03 (p := ⟨ac, 4, none⟩) (Kd.A03 (p := ⟨ac, 3, none⟩) (Kd.A03 (p := ⟨ac, 2, none⟩) (Kd.A03 (p := ⟨ac, 1, none⟩) (Kd.A03 (p := ⟨ac, 0, none⟩) (Kd.A03 (p := ⟨ap, 1, none⟩) (Kd.A03 (p := ⟨ap, 0, none⟩) (Kd.A2a (Kd.A1e HO_8.out (fun k_ hk => (⟨hk, hk.2⟩ : _ ∧ k_ ≠ ap))) ao.out (by decide)) (fun _ hk => hk.1.2) (.int .i64 ar)) (fun _ hk => hk.1.2) (.int .u64 au)) (fun _ hk => hk.2) (.int .i64 a6)) (fun _ hk => hk.2) (.int .i64 a7)) (fun _ hk => hk.2) (.int .i64 a8)) (fun _ hk => hk.2) (.int .u64 a9)) (fun _ hk => hk.2) (.int .u64 aA)) (fun _ hk => hk.2) (.int .u64 aC)) (fun _ hk => hk.2) (.int .i64 aD)) (fun _ hk => hk.2) (.int .i64 aE)) (fun _ hk => trivial), (kl HB)⟩
     rw [kIn c8] at H; have dr := kFf c8; clear c8; obtain ⟨aI, a5⟩ := kX (mn (wrap64 ((wrap64 (8 * (l1.length : Int))) - ad)) 8)
     (first | rw [a5] at H | simp only [a5] at H)
     have bb : (if 8 < (wrap64 ((wrap64 (8 * (l1.length : Int))) - ad)) then 8 else (wrap64 ((wrap64 (8 * (l1.length : Int))) - ad))) = aI := a5; (try (have bc := bb; simp only [Int.ofNat_lt] at bc)); replace H := bkH H; obtain ⟨⟨aK, aU⟩, dl, H⟩ := H; (try dsimp only at H)
     by_cases bh : (wrap64 ((wrap64 (8 * (l1.length : Int))) - ad)) ≥ 8
     ·rw [kIp bh] at H; have bj : decide (8 ≤ (wrap64 ((wrap64 (8 * (l1.length : Int))) - ad))) = true := kTt bh; clear bh; obtain ⟨rfl, rfl⟩ := kI2 H
      go_wp2_with (first | ((with_reducible refine A0l (f := 82) rfl ?_); refine A1d (some 61) rfl rfl Tryd.func82 (by kernel_rfl) rfl #[.slice A1 l1.length c1, .int .i64 ad, .int .i64 aI] rfl (by (try simp only [List.map_toArray, List.map_cons, List.map_nil]); first | done | (simp only [a5]; rfl) | rfl | (simp only [List.length_drop, List.length_take]; rfl)) ?_; (with_reducible refine (A0z.calls k2 _ _ l1 ad aI aK aU _ ?av ?aw dl.out).mono ?_); (case av => exact kC (Kd.A1i be.out HB.out)); (case aw => exact bf.out); rintro e w' ⟨rfl, ⟨nd, rfl⟩⟩; refine ⟨_, rfl, ?_⟩))
      go_ret2
      exact ⟨_, by first | rfl | (simp [A0i, A0j] <;> rfl) | (simp only [← a5]; first | rfl | (simp [A0i, A0j] <;> rfl)) | (simp [*, A0i, A0j] <;> rfl), by (with_reducible repeat (first | apply Kd.R_alloc | apply Kd.A00 | apply Kd.A02)); exact HO_8.out, (kl HB)⟩
     rw [kIn bh] at H; have bj : decide (8 ≤ (wrap64 ((wrap64 (8 * (l1.length : Int))) - ad))) = false := kFf bh; clear bh
     by_cases dm : aU = true
     ·subst dm
      rw [if_pos rfl] at H
      by_cases bk : aK = 0
      ·rw [kIp bk] at H; obtain ⟨bm, bn⟩ := kqT bk; clear bk; obtain ⟨rfl, rfl⟩ := kI2 H
       go_wp2_with (first | ((with_reducible refine A0l (f := 82) rfl ?_); refine A1d (some 61) rfl rfl Tryd.func82 (by kernel_rfl) rfl #[.slice A1 l1.length c1, .int .i64 ad, .int .i64 aI] rfl (by (try simp only [List.map_toArray, List.map_cons, List.map_nil]); first | done | (simp only [a5]; rfl) | rfl | (simp only [List.length_drop, List.length_take]; rfl)) ?_; (with_reducible refine (A0z.calls k2 _ _ l1 ad aI aK true _ ?av ?aw dl.out).mono ?_); (case av => exact kC (Kd.A1i be.out HB.out)); (case aw => exact bf.out); rintro e w' ⟨rfl, ⟨nd, rfl⟩⟩; refine ⟨_, rfl, ?_⟩))
       go_ret2
       exact ⟨_, by first | rfl | (simp [A0i, A0j] <;> rfl) | (simp only [← a5]; first | rfl | (simp [A0i, A0j] <;> rfl)) | (simp [*, A0i, A0j] <;> rfl), by (with_reducible repeat (first | apply Kd.R_alloc | apply Kd.A00 | apply Kd.A02)); exact HO_8.out, (kl HB)⟩
      rw [kIn bk] at H; obtain ⟨bm, bn⟩ := kqF bk; obtain ⟨rfl, rfl⟩ := kI2 H
      go_wp2_with (first | ((with_reducible refine A0l (f := 82) rfl ?_); refine A1d (some 61) rfl rfl Tryd.func82 (by kernel_rfl) rfl #[.slice A1 l1.length c1, .int .i64 ad, .int .i64 aI] rfl (by (try simp only [List.map_toArray, List.map_cons, List.map_nil]); first | done | (simp only [a5]; rfl) | rfl | (simp only [List.length_drop, List.length_take]; rfl)) ?_; (with_reducible refine (A0z.calls k2 _ _ l1 ad aI aK true _ ?av ?aw dl.out).mono ?_); (case av => exact kC (Kd.A1i be.out HB.out)); (case aw => exact bf.out); rintro e w' ⟨rfl, ⟨nd, rfl⟩⟩; refine ⟨_, rfl, ?_⟩))
      go_ret2
      exact ⟨_, by first | rfl | (simp [A0i, A0j] <;> rfl) | (simp only [← a5]; first | rfl | (simp [A0i, A0j] <;> rfl)) | (simp [*, A0i, A0j] <;> rfl), by (with_reducible repeat (first | apply Kd.R_alloc | apply Kd.A00 | apply Kd.A02)); exact HO_8.out, (kl HB)⟩
     replace dm := Bool.eq_false_iff.mpr dm; subst dm
     rw [if_neg (show ¬ (false = true) by decide)] at H; obtain ⟨rfl, rfl⟩ := kI2 H
     go_wp2_with (first | ((with_reducible refine A0l (f := 82) rfl ?_); refine A1d (some 61) rfl rfl Tryd.func82 (by kernel_rfl) rfl #[.slice A1 l1.length c1, .int .i64 ad, .int .i64 aI] rfl (by (try simp only [List.map_toArray, List.map_cons, List.map_nil]); first | done | (simp only [a5]; rfl) | rfl | (simp only [List.length_drop, List.length_take]; rfl)) ?_; (with_reducible refine (A0z.calls k2 _ _ l1 ad aI aK false _ ?av ?aw dl.out).mono ?_); (case av => exact kC (Kd.A1i be.out HB.out)); (case aw => exact bf.out); rintro e w' ⟨rfl, ⟨nd, rfl⟩⟩; refine ⟨_, rfl, ?_⟩))
     go_ret2
     exact ⟨_, by first | rfl | (simp [A0i, A0j] <;> rfl) | (simp only [← a5]; first | rfl | (simp [A0i, A0j] <;> rfl)) | (simp [*, A0i, A0j] <;> rfl), by (with_reducible repeat (first | apply Kd.R_alloc | apply Kd.A00 | apply Kd.A02)); exact HO_8.out, (kl HB)⟩
end Go.Proofs.YtodocfjbpkicgaaDoor.All
