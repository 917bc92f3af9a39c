-- copied by a program of the session
import Derived.Test.YtodocfjbpkicgaaDoorKvAllx0
section
namespace Go.Proofs.YtodocfjbpkicgaaDoor.All
open Go.RowKit Go.Proofs.YtodocfjbpkicgaaDoorW.PrintWords Go.Proofs.YtodocfjbpkicgaaDoorW.PrintLast Go.Proofs.YtodocfjbpkicgaaDoorW.PrintMore
attribute [local go_sem] A17 A18 A2o A2p A1y A1z A19 A2a
set_option linter.unusedVariables false
set_option linter.unusedSimpArgs false
mutual
def A0y.j0 : Nat → Int → Int → Int → Int → Int → Int → Int → Int → Int → Int → Int → Int → Int → Int → Int → Int → Int → Int → Int → Int → Int → Int → Option (Int × Int × Int × Int × Int × Int × Int × Int)
 | 0, _, _, _, _, _, _, _, _, _, _, _, _, _, _, _, _, _, _, _, _, _, _ => none
 | k + 1, x0, aa, ac, ad, ae, af, ag, ah, ai, aj, al, am, an, ao, ap, aq, ar, au, av, aw, ax, ay => if x0 = 1 then (A0y.j1 k x0 (aa == 0) aa ac ad ae af ag ah ai aj al am an ao ap aq ar au av aw ax ay) else (A0y.j1 k x0 false aa ac ad ae af ag ah ai aj al am an ao ap aq ar au av aw ax ay)
def A0y.j1 : Nat → Int → Bool → Int → Int → Int → Int → Int → Int → Int → Int → Int → Int → Int → Int → Int → Int → Int → Int → Int → Int → Int → Int → Int → Option (Int × Int × Int × Int × Int × Int × Int × Int)
 | 0, _, _, _, _, _, _, _, _, _, _, _, _, _, _, _, _, _, _, _, _, _, _, _ => none
 | k + 1, x0, az, al, aq, ar, am, au, av, aw, ax, ay, ag, an, ao, ap, aa, ac, ad, ae, af, ah, ai, aj => if az = true then (some (aa, ac, ad, ae, af, ag, 0, 0)) else (if x0 = 1 then (some (aa, ac, ad, ae, af, an, ao, ap)) else (if al > 0 then (some (aa, ac, ad, ae, IntKind.u64.wrap (ag - am), ah, ai, aj)) else (some (aa, ac, ad, ae, af, ah, ai, aj))))
end
def A0y.f (k : Nat) (a0 : Int) (aa : Int) (ae : Int) (af : Int) (ag : Int) (ah : Int) (ai : Int) (aj : Int) (al : Int) (ac : Int) (ad : Int) (am : Int) (an : Int) (ao : Int) : Option (Int × Int × Int × Int × Int × Int × Int × Int) := if aa > 0 then (A0y.j0 k a0 aa ae af ag ah ai aj al ac ad am an ao (wrap64 (aa + 1)) ac (wrap64 (ac - ae)) ad 0 0 0 0) else (A0y.j0 k a0 aa ae af ag ah ai aj al ac ad am an ao (wrap64 (aa + 1)) ac 0 ad 0 0 0 0)
theorem A0y.A2w : ∀ k, (∀ y0 y1 y2 y3 y4 y5 y6 y7 y8 y9 aa ac ad ae af ag ah ai aj al am an, LeO (A0y.j0 k y0 y1 y2 y3 y4 y5 y6 y7 y8 y9 aa ac ad ae af ag ah ai aj al am an) (A0y.j0 (k + 1) y0 y1 y2 y3 y4 y5 y6 y7 y8 y9 aa ac ad ae af ag ah ai aj al am an)) ∧ (∀ y0 y1 y2 y3 y4 y5 y6 y7 y8 y9 aa ac ad ae af ag ah ai aj al am an ao, LeO (A0y.j1 k y0 y1 y2 y3 y4 y5 y6 y7 y8 y9 aa ac ad ae af ag ah ai aj al am an ao) (A0y.j1 (k + 1) y0 y1 y2 y3 y4 y5 y6 y7 y8 y9 aa ac ad ae af ag ah ai aj al am an ao))
 | 0 => ⟨fun _ _ _ _ _ _ _ _ _ _ _ _ _ _ _ _ _ _ _ _ _ _ r h => by simp [A0y.j0] at h, fun _ _ _ _ _ _ _ _ _ _ _ _ _ _ _ _ _ _ _ _ _ _ _ r h => by simp [A0y.j1] at h⟩
 | k + 1 => by
  obtain ⟨ih0, ih1⟩ := A0y.A2w k
  refine ⟨?_, ?_⟩ <;> intros <;> (first | unfold A0y.j0 | unfold A0y.j1) <;> (
   repeat' first
   | (with_reducible exact ih0 _ _ _ _ _ _ _ _ _ _ _ _ _ _ _ _ _ _ _ _ _ _)
   | (with_reducible exact ih1 _ _ _ _ _ _ _ _ _ _ _ _ _ _ _ _ _ _ _ _ _ _ _)
   | (with_reducible exact LeO.refl _)
   | (with_reducible exact LeO.none _)
   | (with_reducible refine LeO.ite ?_ ?_)
   | (with_reducible refine LeO.bind ?_ (fun _ => ?_))
   | exact ih0 _ _ _ _ _ _ _ _ _ _ _ _ _ _ _ _ _ _ _ _ _ _
   | exact ih1 _ _ _ _ _ _ _ _ _ _ _ _ _ _ _ _ _ _ _ _ _ _ _
   | exact LeO.none _
   | refine LeO.ite ?_ ?_
   | refine LeO.bind ?_ (fun _ => ?_))
theorem A0y.mono : ∀ a0 a1 a2 a3 a4 a5 a6 a7 a8 a9 aa ac ad ae k, LeO (A0y.f k a0 a1 a2 a3 a4 a5 a6 a7 a8 a9 aa ac ad ae) (A0y.f (k + 1) a0 a1 a2 a3 a4 a5 a6 a7 a8 a9 aa ac ad ae) := by
 intro a0 a1 a2 a3 a4 a5 a6 a7 a8 a9 aa ac ad ae k
 obtain ⟨ih0, ih1⟩ := A0y.A2w k
 unfold A0y.f
 repeat' first
   | (with_reducible exact ih0 _ _ _ _ _ _ _ _ _ _ _ _ _ _ _ _ _ _ _ _ _ _)
   | (with_reducible exact ih1 _ _ _ _ _ _ _ _ _ _ _ _ _ _ _ _ _ _ _ _ _ _ _)
   | (with_reducible exact LeO.refl _)
   | (with_reducible exact LeO.none _)
   | (with_reducible refine LeO.ite ?_ ?_)
   | (with_reducible refine LeO.bind ?_ (fun _ => ?_))
   | exact ih0 _ _ _ _ _ _ _ _ _ _ _ _ _ _ _ _ _ _ _ _ _ _
   | exact ih1 _ _ _ _ _ _ _ _ _ _ _ _ _ _ _ _ _ _ _ _ _ _ _
   | exact LeO.none _
   | refine LeO.ite ?_ ?_
   | refine LeO.bind ?_ (fun _ => ?_)
set_option maxHeartbeats 8000000 in
set_option maxRecDepth 100000 in
theorem A0y.calls (k : Nat) (a0 : Int) (ag : Int) (a8 : Int) (aE : Int) (a9 : Int) (aF : Int) (aG : Int) (aH : Int) (aI : Int) (a2 : Int) (a3 : Int) (aA : Int) (aB : Int) (aC : Int) (r1 : Int) (r2 : Int) (r3 : Int) (r4 : Int) (r5 : Int) (r6 : Int) (r7 : Int) (r8 : Int) (w : World) (h : A0y.f k a0 ag a8 aE a9 aF aG aH aI a2 a3 aA aB aC = some (r1, r2, r3, r4, r5, r6, r7, r8)) :
  Calls Tryd.prog 53 #[.int .i64 a0, .agg #[.int .i64 ag, .int .i64 a8, .int .i64 aE, .int .u64 a9, .int .u64 aF, .int .u64 aG, .int .i64 aH, .int .i64 aI], .agg #[.int .i64 a2, .int .u64 a3], .agg #[.int .u64 aA, .int .i64 aB, .int .i64 aC]] w fun e w' => e = .returned (.agg #[.int .i64 r1, .int .i64 r2, .int .i64 r3, .int .u64 r4, .int .u64 r5, .int .u64 r6, .int .i64 r7, .int .i64 r8]) ∧ Below w.heap.size w w' := by
 have hu32 := Tryd.underlying32; have hu42 := Tryd.underlying42; have hu30 := Tryd.underlying30; have HB := ak (Below.refl w.heap.size w); have H : (if ag > 0 then (A0y.j0 k a0 ag a8 aE a9 aF aG aH aI a2 a3 aA aB aC (wrap64 (ag + 1)) a2 (wrap64 (a2 - a8)) a3 0 0 0 0) else (A0y.j0 k a0 ag a8 aE a9 aF aG aH aI a2 a3 aA aB aC (wrap64 (ag + 1)) a2 0 a3 0 0 0 0)) = some (r1, r2, r3, r4, r5, r6, r7, r8) := h; clear h; have gb := ak H; clear H
 go_enter Tryd.func53, Tryd.ntmps53
 go_upto_if 20 with (first | ((with_reducible refine A0s (N := 5) rfl ?_); refine bxe 5 #[.int .i64 ag, .int .i64 a8, .int .i64 aE, .int .u64 a9, .int .u64 aF, .int .u64 aG, .int .i64 aH, .int .i64 aI] 32 (h := ?_); intro aM hg w6 hbox hb; have aa := ak (hbox); have gc := kG hg HB; have gf := kG hg HB; replace HB := kH HB hb; clear hb hbox hg) | ((with_reducible refine A0s (N := 6) rfl ?_); refine bxe 6 #[.int .i64 a2, .int .u64 a3] 42 (h := ?_); intro aN hg w7 hbox hb; have ac := ak (hbox); have gg := kG hg HB; have gh := kG hg HB; replace HB := kH HB hb; obtain ⟨am, an⟩ := kN hg aa; replace aa := kB aa hb; clear hb hbox hg) | ((with_reducible refine A0s (N := 7) rfl ?_); refine bxe 7 #[.int .u64 aA, .int .i64 aB, .int .i64 aC] 30 (h := ?_); intro aO hg w8 hbox hb; have a1 := ak (hbox); have gj := kG hg HB; have gk := kG hg HB; replace HB := kH HB hb; obtain ⟨ao, ap⟩ := kN hg aa; replace aa := kB aa hb; obtain ⟨a4, a5⟩ := kN hg ac; replace ac := kB ac hb; clear hb hbox hg) | ((with_reducible refine A0s (N := 8) rfl ?_); refine bxe 8 #[.int .i64 0, .int .i64 0, .int .i64 0, .int .u64 0, .int .u64 0, .int .u64 0, .int .i64 0, .int .i64 0] 32 (h := ?_); intro aD hg w9 hbox hb; have ae := ak (hbox); have gl := kG hg HB; have gm := kG hg HB; replace HB := kH HB hb; obtain ⟨ah, ai⟩ := kN hg aa; replace aa := kB aa hb; obtain ⟨aq, ar⟩ := kN hg ac; replace ac := kB ac hb; obtain ⟨a6, a7⟩ := kN hg a1; replace a1 := kB a1 hb; clear hb hbox hg; have gn := am.out; have gp := an.out; have gq := ao.out; have gr := ap.out; have gs := ah.out; have gu := ai.out; obtain ⟨aZ, ba, bb, bc, be, bf, bg, bh⟩ := kc8 aa; obtain ⟨bi, bj, bk, bm, bn, bo, bp, bq⟩ := kf8 aa; have gv := a4.out; have gw := a5.out; have gx := aq.out; have gy := ar.out; obtain ⟨br, bs⟩ := kc2 ac; obtain ⟨bt, bu⟩ := kf2 ac) | ((with_reducible refine A0s (N := 9) rfl ?_); refine bxe 9 #[.int .i64 0, .int .i64 0, .int .i64 0, .int .u64 0, .int .u64 0, .int .u64 0, .int .i64 0, .int .i64 0] 32 (h := ?_); intro aP hg iB hbox hb; have af := ak (hbox); have gz := kG hg HB; have g0 := kG hg HB; replace HB := kH HB hb; obtain ⟨aj, al⟩ := kN hg aa; replace aa := kB aa hb; obtain ⟨au, av⟩ := kN hg ac; replace ac := kB ac hb; obtain ⟨aw, ax⟩ := kN hg a1; replace a1 := kB a1 hb; obtain ⟨ay, az⟩ := kN hg ae; replace ae := kB ae hb; clear hb hbox hg; have g1 := al.out; have g2 := aj.out; have g3 := av.out; have g4 := au.out; have g5 := ax.out; have g6 := aw.out; have g7 := az.out; have g8 := ay.out; obtain ⟨bv, bw, bx, bz, b0, b1, b2, b3⟩ := kc8 af; obtain ⟨b4, b5, b6, b7, b8, b9, bA, bB⟩ := kf8 af; obtain ⟨bC, bD, bE, bF, bG, bH, bI, bJ⟩ := kc8 aa; obtain ⟨bK, bL, bM, bN, bO, bP, bQ, bR⟩ := kf8 aa))
 (try simp only [Act.put, List.setIfInBounds_toArray, List.set_cons_zero, List.set_cons_succ])
 go_cut [] (fun wc => ∃ (kq : Nat) (ad : Int), A0g (A0y.j0 kq a0 ag a8 aE a9 aF aG aH aI a2 a3 aA aB aC (wrap64 (ag + 1)) a2 ad a3 0 0 0 0 = some (r1, r2, r3, r4, r5, r6, r7, r8)) ∧ A0g (kq ≤ k) ∧ A0g (wc.heap[aM]? = some (.cells #[.int .i64 ag, .int .i64 a8, .int .i64 aE, .int .u64 a9, .int .u64 aF, .int .u64 aG, .int .i64 aH, .int .i64 aI] 32 (0, 0))) ∧ A0g (wc.heap[aN]? = some (.cells #[.int .i64 a2, .int .u64 a3] 42 (0, 0))) ∧ A0g (wc.heap[aO]? = some (.cells #[.int .u64 aA, .int .i64 aB, .int .i64 aC] 30 (0, 0))) ∧ A0g (wc.heap[aD]? = some (.cells #[.int .i64 0, .int .i64 0, .int .i64 0, .int .u64 0, .int .u64 0, .int .u64 0, .int .i64 0, .int .i64 0] 32 (0, 0))) ∧ A0g (wc.heap[aP]? = some (.cells #[.int .i64 (wrap64 (ag + 1)), .int .i64 a2, .int .i64 ad, .int .u64 a3, .int .u64 0, .int .u64 0, .int .i64 0, .int .i64 0] 32 (0, 0))) ∧ A0g (Below w.heap.size w wc))
 case first =>
  have H := gb.out; clear gb
  by_cases aR : ag > 0
  ·rw [if_pos aR] at H; have aK : decide (0 < ag) = true := decide_eq_true aR; clear aR
   (first | rw [aK] | (simp only [A2b, A25]; rw [aK]) | skip)
   have H' := ak H; clear H; have g9 := an.out; have gA := am.out; have gB := a4.out; have gC := a5.out; have gD := aq.out; have gE := ar.out; have gF := au.out; have gG := av.out; obtain ⟨bS, bT⟩ := kc2 ac; obtain ⟨bU, bV⟩ := kf2 ac; have gH := ao.out; have gI := ap.out; have gJ := ah.out; have gK := ai.out; have gL := aj.out; have gM := al.out; obtain ⟨bW, bX, bY, bZ, ca, cc, cd, ce⟩ := kc8 aa; obtain ⟨cf, cg, ch, ci, cj, ck, cm, co⟩ := kf8 aa; have gN := ax.out; have gO := aw.out; have gP := az.out; have gQ := ay.out; obtain ⟨cp, cq, cr, cs, ct, cu, cv, cw⟩ := kc8 af; obtain ⟨cx, cy, cz, cA, cB, cC, cD, cE⟩ := kf8 af
   go_wp2
   go_meet
   case rel => exact ⟨_, (wrap64 (a2 - a8)), H', ⟨by first | omega | exact Nat.le_refl _⟩, ⟨(kb aa)⟩, ⟨(kb ac)⟩, ⟨(kb a1)⟩, ⟨(kb ae)⟩, ⟨(kb af)⟩, ⟨(kl HB)⟩⟩
  ·rw [if_neg aR] at H; have aK : decide (0 < ag) = false := decide_eq_false aR; clear aR
   (first | rw [aK] | (simp only [A2b, A25]; rw [aK]) | skip)
   have H' := ak H; clear H
   go_wp2
   go_meet
   case rel => exact ⟨_, (0), H', ⟨by first | omega | exact Nat.le_refl _⟩, ⟨(kb aa)⟩, ⟨(kb ac)⟩, ⟨(kb a1)⟩, ⟨(kb ae)⟩, ⟨(kb af)⟩, ⟨(kl HB)⟩⟩
 case rest =>
  clear gb; obtain ⟨kq, ad, HA, gR, aa, ac, a1, ae, af, HB⟩ := hcut
  cases kq with
  | zero => exact absurd HA.out (by simp [A0y.j0])
  | succ i6 =>
   have H := HA.out; clear HA; simp only [A0y.j0] at H; have aQ := ak H; clear H
   go_upto_region 4 with (fail)
   go_cut [27] (fun i7 wc => ∃ (kq : Nat) (aJ : Bool), i7 = .bool aJ ∧ A0g (A0y.j1 kq a0 aJ ag a8 aE a9 aF aG aH aI a2 a3 aA aB aC (wrap64 (ag + 1)) a2 ad a3 0 0 0 0 = some (r1, r2, r3, r4, r5, r6, r7, r8)) ∧ A0g (kq ≤ i6) ∧ A0g (wc.heap[aM]? = some (.cells #[.int .i64 ag, .int .i64 a8, .int .i64 aE, .int .u64 a9, .int .u64 aF, .int .u64 aG, .int .i64 aH, .int .i64 aI] 32 (0, 0))) ∧ A0g (wc.heap[aN]? = some (.cells #[.int .i64 a2, .int .u64 a3] 42 (0, 0))) ∧ A0g (wc.heap[aO]? = some (.cells #[.int .u64 aA, .int .i64 aB, .int .i64 aC] 30 (0, 0))) ∧ A0g (wc.heap[aD]? = some (.cells #[.int .i64 0, .int .i64 0, .int .i64 0, .int .u64 0, .int .u64 0, .int .u64 0, .int .i64 0, .int .i64 0] 32 (0, 0))) ∧ A0g (wc.heap[aP]? = some (.cells #[.int .i64 (wrap64 (ag + 1)), .int .i64 a2, .int .i64 ad, .int .u64 a3, .int .u64 0, .int .u64 0, .int .i64 0, .int .i64 0] 32 (0, 0))) ∧ A0g (Below w.heap.size w wc))
   case first =>
    have H := aQ.out; clear aQ
    by_cases aT : a0 = 1
    ·rw [if_pos aT] at H; obtain ⟨aL, aU⟩ := kqT aT; clear aT
     (first | rw [aL] | (simp only [A2b, A25]; rw [aL]) | skip)
     have H' := ak H; clear H; have gS := am.out; have gT := an.out; have gU := ao.out; have gV := ap.out; have gW := ah.out; have gX := ai.out; have gY := aj.out; have gZ := al.out; obtain ⟨cF, cG, cH, cI, cJ, cK, cL, cM⟩ := kc8 aa; obtain ⟨cN, cO, cP, cQ, cR, cS, cT, cU⟩ := kf8 aa
     go_wp2
     go_meet
     case rel => exact ⟨_, ((ag == 0)), kE, H', ⟨by have := gR.out; first | omega | exact Nat.le_refl _⟩, ⟨kb aa⟩, ⟨kb ac⟩, ⟨kb a1⟩, ⟨kb ae⟩, ⟨kb af⟩, ⟨(kl HB)⟩⟩
    ·rw [if_neg aT] at H; obtain ⟨aL, aU⟩ := kqF aT
     (first | rw [aL] | (simp only [A2b, A25]; rw [aL]) | skip)
     have H' := ak H; clear H
     go_wp2
     go_meet
     case rel => exact ⟨_, (false), kE, H', ⟨by have := gR.out; first | omega | exact Nat.le_refl _⟩, ⟨kb aa⟩, ⟨kb ac⟩, ⟨kb a1⟩, ⟨kb ae⟩, ⟨kb af⟩, ⟨(kl HB)⟩⟩
   case rest =>
    clear aQ; obtain ⟨kq, aJ, rfl, HA, i9, aa, ac, a1, ae, af, HB⟩ := hcut
    cases kq with
    | zero => exact absurd HA.out (by simp [A0y.j1])
    | succ iA =>
     have H := HA.out; clear HA; simp only [A0y.j1] at H
     by_cases cV : aJ = true
     ·subst cV
      rw [if_pos rfl] at H; simp only [Option.some.injEq, Prod.mk.injEq] at H; obtain ⟨rfl, rfl, rfl, rfl, rfl, rfl, rfl, rfl⟩ := H; have ha := an.out; have hc := am.out; have he := a4.out; have hf := a5.out; have hh := aq.out; have hi := ar.out; have hl := au.out; have hm := av.out; obtain ⟨cW, cX⟩ := kc2 ac; obtain ⟨cY, cZ⟩ := kf2 ac; have hn := al.out; have hp := aj.out; have hq := ax.out; have hs := aw.out; have ht := az.out; have hu := ay.out; obtain ⟨da, db, dc, dd, de, df, dg, dh⟩ := kc8 af; obtain ⟨di, dj, dk, dl, dm, dn, dp, dq⟩ := kf8 af; have hv := ai.out; have hw := ah.out; have hx := a7.out; have hy := a6.out; obtain ⟨dr, ds, du, dw, dz, d0, d5, d6⟩ := kc8 ae; obtain ⟨d7, d8, d9, dA, dB, dC, dD, dE⟩ := kf8 ae
      go_wp2
      refine bodyPost_ret (results_cell_row rfl _ _ aD 32 #[.int .i64 (wrap64 (ag + 1)), .int .i64 a2, .int .i64 ad, .int .u64 a3, .int .u64 0, .int .u64 a3, .int .i64 0, .int .i64 0] (0, 0) _ rfl (kb ae) Tryd.underlying32 rfl (by kernel_rfl)) rfl ?_
      exact ⟨kF, (kl HB)⟩
     ·replace cV := Bool.eq_false_iff.mpr cV; subst cV
      rw [if_neg (show ¬ (false = true) by decide)] at H
      by_cases aV : a0 = 1
      ·rw [if_pos aV] at H; obtain ⟨aW, aX⟩ := kqT aV; clear aV; simp only [Option.some.injEq, Prod.mk.injEq] at H; obtain ⟨rfl, rfl, rfl, rfl, rfl, rfl, rfl, rfl⟩ := H; have hz := ap.out; have h6 := ao.out; have h7 := a5.out; have h8 := a4.out; have h9 := a6.out; have hA := a7.out; have hB := aw.out; have hC := ax.out; obtain ⟨dF, dG, dH⟩ := kc3 a1; obtain ⟨dI, dJ, dK⟩ := kf3 a1; have hD := al.out; have hE := aj.out; have hF := av.out; have hG := au.out; have hH := az.out; have hI := ay.out; obtain ⟨dL, dM, dN, dO, dP, dQ, dR, dS⟩ := kc8 af; obtain ⟨dT, dU, dV, dW, dX, dY, dZ, ea⟩ := kf8 af; have hJ := ai.out; have hK := ah.out; have hL := ar.out; have hM := aq.out; obtain ⟨eb, ec, ed, ee, ef, eg, eh, ei⟩ := kc8 ae; obtain ⟨ej, ek, el, em, en, eo, ep, er⟩ := kf8 ae
       go_wp2
       refine bodyPost_ret (results_cell_row rfl _ _ aD 32 #[.int .i64 (wrap64 (ag + 1)), .int .i64 a2, .int .i64 ad, .int .u64 a3, .int .u64 0, .int .u64 aA, .int .i64 aB, .int .i64 aC] (0, 0) _ rfl (kb ae) Tryd.underlying32 rfl (by kernel_rfl)) rfl ?_
       exact ⟨kF, (kl HB)⟩
      ·rw [if_neg aV] at H; obtain ⟨aW, aX⟩ := kqF aV
       by_cases aS : ag > 0
       ·rw [if_pos aS] at H; have aY : decide (0 < ag) = true := decide_eq_true aS; clear aS; simp only [Option.some.injEq, Prod.mk.injEq] at H; obtain ⟨rfl, rfl, rfl, rfl, rfl, rfl, rfl, rfl⟩ := H; have hN := am.out; have hO := an.out; have hP := ao.out; have hQ := ap.out; have hR := ah.out; have hS := ai.out; have hT := aj.out; have hU := al.out; obtain ⟨et, eu, ev, ew, ex, ey, ez, e0⟩ := kc8 aa; obtain ⟨e4, e5, e6, e7, e8, e9, eA, eB⟩ := kf8 aa; have hV := a4.out; have hW := a5.out; have hX := aq.out; have hY := ar.out; have hZ := au.out; have ia := av.out; obtain ⟨eC, eD⟩ := kc2 ac; obtain ⟨eE, eF⟩ := kf2 ac; have ib := ax.out; have ic := aw.out; have ie := az.out; have ig := ay.out; obtain ⟨eG, eH, eI, eJ, eK, eL, eM, eN⟩ := kc8 af; obtain ⟨eO, eP, eQ, eR, eS, eT, eU, eV⟩ := kf8 af; have ii := a7.out; have ij := a6.out; obtain ⟨eW, eX, eY, eZ, fa, fb, fc, fd⟩ := kc8 ae; obtain ⟨fe, ff, fg, fh, fi, fj, fk, fl⟩ := kf8 ae
        go_wp2
        refine bodyPost_ret (results_cell_row rfl _ _ aD 32 #[.int .i64 (wrap64 (ag + 1)), .int .i64 a2, .int .i64 ad, .int .u64 a3, .int .u64 (IntKind.u64.wrap (a3 - a9)), .int .u64 0, .int .i64 0, .int .i64 0] (0, 0) _ rfl (kb ae) Tryd.underlying32 rfl (by kernel_rfl)) rfl ?_
        exact ⟨kF, (kl HB)⟩
       ·rw [if_neg aS] at H; have aY : decide (0 < ag) = false := decide_eq_false aS; clear aS; simp only [Option.some.injEq, Prod.mk.injEq] at H; obtain ⟨rfl, rfl, rfl, rfl, rfl, rfl, rfl, rfl⟩ := H; have ik := am.out; have il := an.out; have im := ao.out; have io := ap.out; have ip := ah.out; have iq := ai.out; have ir := aj.out; have iu := al.out; obtain ⟨fm, fo, fp, fq, fs, ft, fu, fv⟩ := kc8 aa; obtain ⟨fw, fx, fy, fz, f0, f2, f3, f4⟩ := kf8 aa; have iv := av.out; have iw := au.out; have ix := ax.out; have iy := aw.out; have iz := az.out; have i0 := ay.out; obtain ⟨f5, f6, f7, f8, f9, fA, fB, fC⟩ := kc8 af; obtain ⟨fD, fE, fF, fG, fH, fI, fJ, fK⟩ := kf8 af; have i1 := ar.out; have i3 := aq.out; have i4 := a7.out; have i5 := a6.out; obtain ⟨fL, fM, fN, fO, fP, fQ, fR, fS⟩ := kc8 ae; obtain ⟨fT, fU, fV, fW, fX, fY, fZ, ga⟩ := kf8 ae
        go_wp2
        refine bodyPost_ret (results_cell_row rfl _ _ aD 32 #[.int .i64 (wrap64 (ag + 1)), .int .i64 a2, .int .i64 ad, .int .u64 a3, .int .u64 0, .int .u64 0, .int .i64 0, .int .i64 0] (0, 0) _ rfl (kb ae) Tryd.underlying32 rfl (by kernel_rfl)) rfl ?_
        exact ⟨kF, (kl HB)⟩
end Go.Proofs.YtodocfjbpkicgaaDoor.All
end
section
namespace Go.Proofs.YtodocfjbpkicgaaDoor.All
open Go.RowKit Go.Proofs.YtodocfjbpkicgaaDoorW.PrintWords Go.Proofs.YtodocfjbpkicgaaDoorW.PrintLast Go.Proofs.YtodocfjbpkicgaaDoorW.PrintMore
attribute [local go_sem] A17 A18 A2o A2p A1y A1z A19 A2a
set_option linter.unusedVariables false
set_option linter.unusedSimpArgs false
def tab_row.f (a0 : Int) : Option (Int × Int) := if a0 < 128 then (some (1, 0)) else (if a0 < 192 then (some (2, 7)) else (if a0 < 224 then (some (3, 9)) else (if a0 < 240 then (some (4, 12)) else (some (4, 64)))))
set_option maxHeartbeats 8000000 in
set_option maxRecDepth 100000 in
theorem tab_row.calls (a0 : Int) (r1 : Int) (r2 : Int) (w : World) (h : tab_row.f a0 = some (r1, r2)) :
  Calls Tryd.prog 99 #[.int .u64 a0] w fun e w' => e = .returned (.agg #[.int .i64 r1, .int .i64 r2]) ∧ Below w.heap.size w w' := by
 have hu183 := Tryd.underlying183; have HB := ak (Below.refl w.heap.size w); have H : (if a0 < 128 then (some (1, 0)) else (if a0 < 192 then (some (2, 7)) else (if a0 < 224 then (some (3, 9)) else (if a0 < 240 then (some (4, 12)) else (some (4, 64)))))) = some (r1, r2) := h; clear h
 by_cases c2 : a0 < 128
 ·rw [if_pos c2] at H; have aw := decide_eq_true c2; clear c2; simp only [Option.some.injEq, Prod.mk.injEq] at H; obtain ⟨rfl, rfl⟩ := H
  go_enter Tryd.func99, Tryd.ntmps99
  go_wp2_with (first | ((with_reducible refine A0s (N := 2) rfl ?_); refine bxe 2 #[.int .i64 0, .int .i64 0] 183 (h := ?_); intro ac hg w3 hbox hb; have aa := ak (hbox); have ad := kG hg HB; have ae := kG hg HB; replace HB := kH HB hb; clear hb hbox hg; obtain ⟨ax, ay⟩ := kc2 aa; obtain ⟨az, a1⟩ := kf2 aa))
  refine bodyPost_ret (results_cell_row rfl _ _ ac 183 #[.int .i64 1, .int .i64 0] (0, 0) _ rfl (kb aa) Tryd.underlying183 rfl (by kernel_rfl)) rfl ?_
  exact ⟨kF, (kl HB)⟩
 ·rw [if_neg c2] at H; have aw := decide_eq_false c2; clear c2
  by_cases c5 : a0 < 192
  ·rw [if_pos c5] at H; have a2 := decide_eq_true c5; clear c5; simp only [Option.some.injEq, Prod.mk.injEq] at H; obtain ⟨rfl, rfl⟩ := H
   go_enter Tryd.func99, Tryd.ntmps99
   go_wp2_with (first | ((with_reducible refine A0s (N := 2) rfl ?_); refine bxe 2 #[.int .i64 0, .int .i64 0] 183 (h := ?_); intro ac hg w6 hbox hb; have aa := ak (hbox); have ad := kG hg HB; have ae := kG hg HB; replace HB := kH HB hb; clear hb hbox hg; obtain ⟨a3, a4⟩ := kc2 aa; obtain ⟨a5, a6⟩ := kf2 aa))
   refine bodyPost_ret (results_cell_row rfl _ _ ac 183 #[.int .i64 2, .int .i64 7] (0, 0) _ rfl (kb aa) Tryd.underlying183 rfl (by kernel_rfl)) rfl ?_
   exact ⟨kF, (kl HB)⟩
  ·rw [if_neg c5] at H; have a2 := decide_eq_false c5; clear c5
   by_cases c8 : a0 < 224
   ·rw [if_pos c8] at H; have a7 := decide_eq_true c8; clear c8; simp only [Option.some.injEq, Prod.mk.injEq] at H; obtain ⟨rfl, rfl⟩ := H
    go_enter Tryd.func99, Tryd.ntmps99
    go_wp2_with (first | ((with_reducible refine A0s (N := 2) rfl ?_); refine bxe 2 #[.int .i64 0, .int .i64 0] 183 (h := ?_); intro ac hg w9 hbox hb; have aa := ak (hbox); have ad := kG hg HB; have ae := kG hg HB; replace HB := kH HB hb; clear hb hbox hg; obtain ⟨ah, ai⟩ := kc2 aa; obtain ⟨aj, al⟩ := kf2 aa))
    refine bodyPost_ret (results_cell_row rfl _ _ ac 183 #[.int .i64 3, .int .i64 9] (0, 0) _ rfl (kb aa) Tryd.underlying183 rfl (by kernel_rfl)) rfl ?_
    exact ⟨kF, (kl HB)⟩
   ·rw [if_neg c8] at H; have a7 := decide_eq_false c8; clear c8
    by_cases af : a0 < 240
    ·rw [if_pos af] at H; have ag := decide_eq_true af; clear af; simp only [Option.some.injEq, Prod.mk.injEq] at H; obtain ⟨rfl, rfl⟩ := H
     go_enter Tryd.func99, Tryd.ntmps99
     go_wp2_with (first | ((with_reducible refine A0s (N := 2) rfl ?_); refine bxe 2 #[.int .i64 0, .int .i64 0] 183 (h := ?_); intro ac hg a8 hbox hb; have aa := ak (hbox); have ad := kG hg HB; have ae := kG hg HB; replace HB := kH HB hb; clear hb hbox hg; obtain ⟨am, an⟩ := kc2 aa; obtain ⟨ao, ap⟩ := kf2 aa))
     refine bodyPost_ret (results_cell_row rfl _ _ ac 183 #[.int .i64 4, .int .i64 12] (0, 0) _ rfl (kb aa) Tryd.underlying183 rfl (by kernel_rfl)) rfl ?_
     exact ⟨kF, (kl HB)⟩
    ·rw [if_neg af] at H; have ag := decide_eq_false af; clear af; simp only [Option.some.injEq, Prod.mk.injEq] at H; obtain ⟨rfl, rfl⟩ := H
     go_enter Tryd.func99, Tryd.ntmps99
     go_wp2_with (first | ((with_reducible refine A0s (N := 2) rfl ?_); refine bxe 2 #[.int .i64 0, .int .i64 0] 183 (h := ?_); intro ac hg a9 hbox hb; have aa := ak (hbox); have ad := kG hg HB; have ae := kG hg HB; replace HB := kH HB hb; clear hb hbox hg; obtain ⟨aq, ar⟩ := kc2 aa; obtain ⟨au, av⟩ := kf2 aa))
     refine bodyPost_ret (results_cell_row rfl _ _ ac 183 #[.int .i64 4, .int .i64 64] (0, 0) _ rfl (kb aa) Tryd.underlying183 rfl (by kernel_rfl)) rfl ?_
     exact ⟨kF, (kl HB)⟩
end Go.Proofs.YtodocfjbpkicgaaDoor.All
end
