-- copied by a program of the session
import Derived.Test.YtodocfjbpkicgaaDoorKwAllx31
set_option linter.unusedSimpArgs false
set_option linter.unusedVariables false
set_option maxHeartbeats 8000000
set_option maxRecDepth 100000
namespace Go.Proofs.YtodocfjbpkicgaaDoor.All
open Go.RowKit Go.Zw Go.Zl Go.Zm
attribute [local go_sem] A2h A2r
mutual
def A1f.j0 : Nat → Int → Int → Int → Int → Int → Int → Int → Int → Int → Int → Int → Int → Int → Int → Int → Int → Int → Int → Int → Int → Int → Int → Option (Int × Int × Int × Int × Int × Int × Int × Int)
 | 0, _, _, _, _, _, _, _, _, _, _, _, _, _, _, _, _, _, _, _, _, _, _ => none
 | k + 1, x0, aa, ac, ad, ae, af, ag, ah, ai, aj, al, am, an, ao, ap, aq, ar, au, av, aw, ax, ay => if x0 = 1 then (A1f.j1 k x0 (aa == 0) aa ac ad ae af ag ah ai aj al am an ao ap aq ar au av aw ax ay) else (A1f.j1 k x0 false aa ac ad ae af ag ah ai aj al am an ao ap aq ar au av aw ax ay)
def A1f.j1 : Nat → Int → Bool → Int → Int → Int → Int → Int → Int → Int → Int → Int → Int → Int → Int → Int → Int → Int → Int → Int → Int → Int → Int → Int → Option (Int × Int × Int × Int × Int × Int × Int × Int)
 | 0, _, _, _, _, _, _, _, _, _, _, _, _, _, _, _, _, _, _, _, _, _, _, _ => none
 | k + 1, x0, az, al, aq, ar, am, au, av, aw, ax, ay, ag, an, ao, ap, aa, ac, ad, ae, af, ah, ai, aj => if az = true then (some (aa, ac, ad, ae, af, ag, 0, 0)) else (if x0 = 1 then (some (aa, ac, ad, ae, af, an, ao, ap)) else (if al > 0 then (some (aa, ac, ad, ae, IntKind.u64.wrap (ag - am), ah, ai, aj)) else (some (aa, ac, ad, ae, af, ah, ai, aj))))
end
def A1f.f (k : Nat) (a0 : Int) (aa : Int) (ae : Int) (af : Int) (ag : Int) (ah : Int) (ai : Int) (aj : Int) (al : Int) (ac : Int) (ad : Int) (am : Int) (an : Int) (ao : Int) : Option (Int × Int × Int × Int × Int × Int × Int × Int) := if aa > 0 then (A1f.j0 k a0 aa ae af ag ah ai aj al ac ad am an ao (wrap64 (aa + 1)) ac (wrap64 (ac - ae)) ad 0 0 0 0) else (A1f.j0 k a0 aa ae af ag ah ai aj al ac ad am an ao (wrap64 (aa + 1)) ac 0 ad 0 0 0 0)
theorem A1f.A2x : ∀ k, (∀ y0 y1 y2 y3 y4 y5 y6 y7 y8 y9 aa ac ad ae af ag ah ai aj al am an, LeO (A1f.j0 k y0 y1 y2 y3 y4 y5 y6 y7 y8 y9 aa ac ad ae af ag ah ai aj al am an) (A1f.j0 (k + 1) y0 y1 y2 y3 y4 y5 y6 y7 y8 y9 aa ac ad ae af ag ah ai aj al am an)) ∧ (∀ y0 y1 y2 y3 y4 y5 y6 y7 y8 y9 aa ac ad ae af ag ah ai aj al am an ao, LeO (A1f.j1 k y0 y1 y2 y3 y4 y5 y6 y7 y8 y9 aa ac ad ae af ag ah ai aj al am an ao) (A1f.j1 (k + 1) y0 y1 y2 y3 y4 y5 y6 y7 y8 y9 aa ac ad ae af ag ah ai aj al am an ao))
 | 0 => ⟨fun _ _ _ _ _ _ _ _ _ _ _ _ _ _ _ _ _ _ _ _ _ _ r h => by simp [A1f.j0] at h, fun _ _ _ _ _ _ _ _ _ _ _ _ _ _ _ _ _ _ _ _ _ _ _ r h => by simp [A1f.j1] at h⟩
 | k + 1 => by
  obtain ⟨ih0, ih1⟩ := A1f.A2x k
  refine ⟨?_, ?_⟩ <;> intros <;> (first | unfold A1f.j0 | unfold A1f.j1) <;> (
   repeat' first
   | with_reducible apply ih0
   | with_reducible apply ih1
   | (with_reducible exact LeO.refl _)
   | (with_reducible exact LeO.none _)
   | (with_reducible refine LeO.ite ?_ ?_)
   | (with_reducible refine LeO.bind ?_ (fun _ => ?_))
   | exact LeO.none _
   | refine LeO.ite ?_ ?_
   | refine LeO.bind ?_ (fun _ => ?_))
theorem A1f.mono : ∀ a0 a1 a2 a3 a4 a5 a6 a7 a8 a9 aa ac ad ae k, LeO (A1f.f k a0 a1 a2 a3 a4 a5 a6 a7 a8 a9 aa ac ad ae) (A1f.f (k + 1) a0 a1 a2 a3 a4 a5 a6 a7 a8 a9 aa ac ad ae) := by
 intro a0 a1 a2 a3 a4 a5 a6 a7 a8 a9 aa ac ad ae k
 obtain ⟨ih0, ih1⟩ := A1f.A2x k
 unfold A1f.f
 repeat' first
   | with_reducible apply ih0
   | with_reducible apply ih1
   | (with_reducible exact LeO.refl _)
   | (with_reducible exact LeO.none _)
   | (with_reducible refine LeO.ite ?_ ?_)
   | (with_reducible refine LeO.bind ?_ (fun _ => ?_))
   | exact LeO.none _
   | refine LeO.ite ?_ ?_
   | refine LeO.bind ?_ (fun _ => ?_)
theorem A1f.calls (k : Nat) (a0 : Int) (az : Int) (aA : Int) (aH : Int) (aB : Int) (aI : Int) (aJ : Int) (aK : Int) (aL : Int) (a7 : Int) (a4 : Int) (aC : Int) (aD : Int) (aE : Int) (r1 : Int) (r2 : Int) (r3 : Int) (r4 : Int) (r5 : Int) (r6 : Int) (r7 : Int) (r8 : Int) (w : World) (h : A1f.f k a0 az aA aH aB aI aJ aK aL a7 a4 aC aD aE = some (r1, r2, r3, r4, r5, r6, r7, r8)) :
  Calls Tryd.prog 53 #[.int .i64 a0, .agg #[.int .i64 az, .int .i64 aA, .int .i64 aH, .int .u64 aB, .int .u64 aI, .int .u64 aJ, .int .i64 aK, .int .i64 aL], .agg #[.int .i64 a7, .int .u64 a4], .agg #[.int .u64 aC, .int .i64 aD, .int .i64 aE]] w fun e w' => e = .returned (.agg #[.int .i64 r1, .int .i64 r2, .int .i64 r3, .int .u64 r4, .int .u64 r5, .int .u64 r6, .int .i64 r7, .int .i64 r8]) ∧ Below w.heap.size w w' := by
 have hu32 := Tryd.underlying32; have hu42 := Tryd.underlying42; have hu30 := Tryd.underlying30; have HB := ak (Below.refl w.heap.size w); have H := h; clear h; unfold A1f.f at H; have gj := ak H; clear H
 go_enter Tryd.func53, Tryd.ntmps53
 go_upto_if 20 with (first | ((with_reducible refine A0s (N := 5) rfl ?_); refine bxe 5 #[.int .i64 az, .int .i64 aA, .int .i64 aH, .int .u64 aB, .int .u64 aI, .int .u64 aJ, .int .i64 aK, .int .i64 aL] 32 (h := ?_); intro aM hg w6 hbox hb; have aa := ak (hbox); have gk := kG hg HB; have gm := kG hg HB; replace HB := kH HB hb; clear hb hbox hg) | ((with_reducible refine A0s (N := 6) rfl ?_); refine bxe 6 #[.int .i64 a7, .int .u64 a4] 42 (h := ?_); intro aN hg w7 hbox hb; have ac := ak (hbox); have gn := kG hg HB; have gp := kG hg HB; replace HB := kH HB hb; obtain ⟨al, am⟩ := kN hg aa; replace aa := kB aa hb; clear hb hbox hg) | ((with_reducible refine A0s (N := 7) rfl ?_); refine bxe 7 #[.int .u64 aC, .int .i64 aD, .int .i64 aE] 30 (h := ?_); intro aO hg w8 hbox hb; have a1 := ak (hbox); have gq := kG hg HB; have gr := kG hg HB; replace HB := kH HB hb; obtain ⟨an, ao⟩ := kN hg aa; replace aa := kB aa hb; obtain ⟨a2, a3⟩ := kN hg ac; replace ac := kB ac hb; clear hb hbox hg) | ((with_reducible refine A0s (N := 8) rfl ?_); refine bxe 8 #[.int .i64 0, .int .i64 0, .int .i64 0, .int .u64 0, .int .u64 0, .int .u64 0, .int .i64 0, .int .i64 0] 32 (h := ?_); intro a8 hg w9 hbox hb; have ae := ak (hbox); have gs := kG hg HB; have gv := kG hg HB; replace HB := kH HB hb; obtain ⟨ag, ah⟩ := kN hg aa; replace aa := kB aa hb; obtain ⟨ap, aq⟩ := kN hg ac; replace ac := kB ac hb; obtain ⟨a5, a6⟩ := kN hg a1; replace a1 := kB a1 hb; clear hb hbox hg; have gw := al.out; have gx := am.out; have gy := an.out; have gz := ao.out; have g0 := ag.out; have g1 := ah.out; obtain ⟨aZ, ba, bb, bc, be, bf, bh, bi⟩ := kc8 aa; obtain ⟨bj, bk, bm, bn, bo, bp, bq, br⟩ := kf8 aa; have g2 := a2.out; have g3 := a3.out; have g4 := ap.out; have g5 := aq.out; obtain ⟨bs, bt⟩ := kc2 ac; obtain ⟨bu, bv⟩ := kf2 ac) | ((with_reducible refine A0s (N := 9) rfl ?_); refine bxe 9 #[.int .i64 0, .int .i64 0, .int .i64 0, .int .u64 0, .int .u64 0, .int .u64 0, .int .i64 0, .int .i64 0] 32 (h := ?_); intro aP hg iI hbox hb; have af := ak (hbox); have g6 := kG hg HB; have g7 := kG hg HB; replace HB := kH HB hb; obtain ⟨ai, aj⟩ := kN hg aa; replace aa := kB aa hb; obtain ⟨ar, au⟩ := kN hg ac; replace ac := kB ac hb; obtain ⟨av, aw⟩ := kN hg a1; replace a1 := kB a1 hb; obtain ⟨ax, ay⟩ := kN hg ae; replace ae := kB ae hb; clear hb hbox hg; have g8 := aj.out; have g9 := ai.out; have gA := au.out; have gB := ar.out; have gC := aw.out; have gD := av.out; have gE := ay.out; have gF := ax.out; obtain ⟨bw, bx, bz, b0, b1, b2, b3, b4⟩ := kc8 af; obtain ⟨b5, b6, b7, b8, b9, bA, bB, bC⟩ := kf8 af; obtain ⟨bD, bE, bF, bG, bH, bI, bJ, bK⟩ := kc8 aa; obtain ⟨bL, bM, bN, bO, bP, bQ, bR, bS⟩ := kf8 aa))
 (try simp only [Act.put, List.setIfInBounds_toArray, List.set_cons_zero, List.set_cons_succ])
 go_cut [] (fun wc => ∃ (kq : Nat) (ad : Int), A0b (A1f.j0 kq a0 az aA aH aB aI aJ aK aL a7 a4 aC aD aE (wrap64 (az + 1)) a7 ad a4 0 0 0 0 = some (r1, r2, r3, r4, r5, r6, r7, r8)) ∧ A0b (kq ≤ k) ∧ A0b (wc.heap[aM]? = some (.cells #[.int .i64 az, .int .i64 aA, .int .i64 aH, .int .u64 aB, .int .u64 aI, .int .u64 aJ, .int .i64 aK, .int .i64 aL] 32 (0, 0))) ∧ A0b (wc.heap[aN]? = some (.cells #[.int .i64 a7, .int .u64 a4] 42 (0, 0))) ∧ A0b (wc.heap[aO]? = some (.cells #[.int .u64 aC, .int .i64 aD, .int .i64 aE] 30 (0, 0))) ∧ A0b (wc.heap[a8]? = some (.cells #[.int .i64 0, .int .i64 0, .int .i64 0, .int .u64 0, .int .u64 0, .int .u64 0, .int .i64 0, .int .i64 0] 32 (0, 0))) ∧ A0b (wc.heap[aP]? = some (.cells #[.int .i64 (wrap64 (az + 1)), .int .i64 a7, .int .i64 ad, .int .u64 a4, .int .u64 0, .int .u64 0, .int .i64 0, .int .i64 0] 32 (0, 0))) ∧ A0b (Below w.heap.size w wc))
 case first =>
  have H := gj.out; clear gj
  by_cases aR : az > 0
  ·rw [kIp aR] at H; have aF : decide (0 < az) = true := kTt aR; clear aR
   (first | rw [aF] | (simp only [A2i, A2u]; rw [aF]) | skip)
   have H' := ak H; clear H; have gG := am.out; have gH := al.out; have gI := a2.out; have gJ := a3.out; have gK := ap.out; have gL := aq.out; have gM := ar.out; have gN := au.out; obtain ⟨bT, bU⟩ := kc2 ac; obtain ⟨bV, bW⟩ := kf2 ac; have gO := an.out; have gP := ao.out; have gQ := ag.out; have gR := ah.out; have gS := ai.out; have gT := aj.out; obtain ⟨bX, bY, bZ, ca, cc, cf, cg, ch⟩ := kc8 aa; obtain ⟨ci, cj, ck, cm, co, cp, cq, cr⟩ := kf8 aa; have gU := aw.out; have gV := av.out; have gW := ay.out; have gX := ax.out; obtain ⟨cs, ct, cu, cv, cw, cx, cy, cz⟩ := kc8 af; obtain ⟨cA, cB, cC, cD, cF, cG, cH, cI⟩ := kf8 af
   go_wp2
   go_meet
   case rel => exact ⟨_, (wrap64 (a7 - aA)), H', kO, ⟨(kb aa)⟩, ⟨(kb ac)⟩, ⟨(kb a1)⟩, ⟨(kb ae)⟩, ⟨(kb af)⟩, ⟨(kl HB)⟩⟩
  rw [kIn aR] at H; have aF : decide (0 < az) = false := kFf aR; clear aR
  (first | rw [aF] | (simp only [A2i, A2u]; rw [aF]) | skip)
  have H' := ak H; clear H
  go_wp2
  go_meet
  case rel => exact ⟨_, (0), H', kO, ⟨(kb aa)⟩, ⟨(kb ac)⟩, ⟨(kb a1)⟩, ⟨(kb ae)⟩, ⟨(kb af)⟩, ⟨(kl HB)⟩⟩
 case rest =>
  clear gj; obtain ⟨kq, ad, HA, gY, aa, ac, a1, ae, af, HB⟩ := hcut
  cases kq with
  | zero => exact absurd HA.out (by simp [A1f.j0])
  | succ iE =>
   have H := HA.out; clear HA; simp only [A1f.j0] at H; have aQ := ak H; clear H
   go_upto_region 4 with (fail)
   go_cut [27] (fun iF wc => ∃ (kq : Nat) (a9 : Bool), iF = .bool a9 ∧ A0b (A1f.j1 kq a0 a9 az aA aH aB aI aJ aK aL a7 a4 aC aD aE (wrap64 (az + 1)) a7 ad a4 0 0 0 0 = some (r1, r2, r3, r4, r5, r6, r7, r8)) ∧ A0b (kq ≤ iE) ∧ A0b (wc.heap[aM]? = some (.cells #[.int .i64 az, .int .i64 aA, .int .i64 aH, .int .u64 aB, .int .u64 aI, .int .u64 aJ, .int .i64 aK, .int .i64 aL] 32 (0, 0))) ∧ A0b (wc.heap[aN]? = some (.cells #[.int .i64 a7, .int .u64 a4] 42 (0, 0))) ∧ A0b (wc.heap[aO]? = some (.cells #[.int .u64 aC, .int .i64 aD, .int .i64 aE] 30 (0, 0))) ∧ A0b (wc.heap[a8]? = some (.cells #[.int .i64 0, .int .i64 0, .int .i64 0, .int .u64 0, .int .u64 0, .int .u64 0, .int .i64 0, .int .i64 0] 32 (0, 0))) ∧ A0b (wc.heap[aP]? = some (.cells #[.int .i64 (wrap64 (az + 1)), .int .i64 a7, .int .i64 ad, .int .u64 a4, .int .u64 0, .int .u64 0, .int .i64 0, .int .i64 0] 32 (0, 0))) ∧ A0b (Below w.heap.size w wc))
   case first =>
    have H := aQ.out; clear aQ
    by_cases aT : a0 = 1
    ·rw [kIp aT] at H; obtain ⟨aG, aU⟩ := kqT aT; clear aT
     (first | rw [aG] | (simp only [A2i, A2u]; rw [aG]) | skip)
     have H' := ak H; clear H; have gZ := al.out; have ha := am.out; have hc := an.out; have he := ao.out; have hf := ag.out; have hh := ah.out; have hi := ai.out; have hl := aj.out; obtain ⟨cJ, cK, cL, cM, cN, cO, cP, cQ⟩ := kc8 aa; obtain ⟨cR, cS, cT, cU, cV, cW, cX, cY⟩ := kf8 aa
     go_wp2
     go_meet
     case rel => exact ⟨_, ((az == 0)), kE, H', ⟨by have := gY.out; first | omega | exact Nat.le_refl _⟩, ⟨kb aa⟩, ⟨kb ac⟩, ⟨kb a1⟩, ⟨kb ae⟩, ⟨kb af⟩, ⟨(kl HB)⟩⟩
    rw [kIn aT] at H; obtain ⟨aG, aU⟩ := kqF aT
    (first | rw [aG] | (simp only [A2i, A2u]; rw [aG]) | skip)
    have H' := ak H; clear H
    go_wp2
    go_meet
    case rel => exact ⟨_, (false), kE, H', ⟨by have := gY.out; first | omega | exact Nat.le_refl _⟩, ⟨kb aa⟩, ⟨kb ac⟩, ⟨kb a1⟩, ⟨kb ae⟩, ⟨kb af⟩, ⟨(kl HB)⟩⟩
   case rest =>
    clear aQ; obtain ⟨kq, a9, rfl, HA, iG, aa, ac, a1, ae, af, HB⟩ := hcut
    cases kq with
    | zero => exact absurd HA.out (by simp [A1f.j1])
    | succ iH =>
     have H := HA.out; clear HA; simp only [A1f.j1] at H
     by_cases cZ : a9 = true
     ·subst cZ
      rw [if_pos rfl] at H; simp only [Option.some.injEq, Prod.mk.injEq] at H; obtain ⟨rfl, rfl, rfl, rfl, rfl, rfl, rfl, rfl⟩ := H; have hm := am.out; have hn := al.out; have hp := a2.out; have hq := a3.out; have hs := ap.out; have ht := aq.out; have hu := ar.out; have hv := au.out; obtain ⟨da, db⟩ := kc2 ac; obtain ⟨dc, dd⟩ := kf2 ac; have hw := aj.out; have hx := ai.out; have hy := aw.out; have hz := av.out; have h6 := ay.out; have h7 := ax.out; obtain ⟨de, df, dg, dh, di, dj, dk, dl⟩ := kc8 af; obtain ⟨dm, dn, dp, dq, dr, ds, dt, du⟩ := kf8 af; have h8 := ah.out; have h9 := ag.out; have hA := a6.out; have hB := a5.out; obtain ⟨dv, dw, dz, d0, d5, d6, d7, d8⟩ := kc8 ae; obtain ⟨d9, dA, dB, dC, dD, dF, dG, dH⟩ := kf8 ae
      go_wp2
      refine bodyPost_ret (results_cell_row rfl _ _ a8 32 #[.int .i64 (wrap64 (az + 1)), .int .i64 a7, .int .i64 ad, .int .u64 a4, .int .u64 0, .int .u64 a4, .int .i64 0, .int .i64 0] (0, 0) _ rfl (kb ae) Tryd.underlying32 rfl (by kernel_rfl)) rfl ?_
      exact ⟨kF, (kl HB)⟩
     replace cZ := Bool.eq_false_iff.mpr cZ; subst cZ
     rw [if_neg (show ¬ (false = true) by decide)] at H
     by_cases aV : a0 = 1
     ·rw [kIp aV] at H; obtain ⟨aW, aX⟩ := kqT aV; clear aV; simp only [Option.some.injEq, Prod.mk.injEq] at H; obtain ⟨rfl, rfl, rfl, rfl, rfl, rfl, rfl, rfl⟩ := H; have hC := ao.out; have hD := an.out; have hE := a3.out; have hF := a2.out; have hG := a5.out; have hH := a6.out; have hI := av.out; have hJ := aw.out; obtain ⟨dI, dJ, dK⟩ := kc3 a1; obtain ⟨dL, dM, dN⟩ := kf3 a1; have hK := aj.out; have hL := ai.out; have hM := au.out; have hN := ar.out; have hO := ay.out; have hP := ax.out; obtain ⟨dO, dP, dQ, dR, dS, dT, dU, dV⟩ := kc8 af; obtain ⟨dW, dX, dY, dZ, ea, eb, ec, ed⟩ := kf8 af; have hQ := ah.out; have hR := ag.out; have hS := aq.out; have hT := ap.out; obtain ⟨ee, ef, eg, eh, ei, ej, ek, el⟩ := kc8 ae; obtain ⟨em, eo, ep, et, eu, ev, ew, ex⟩ := kf8 ae
      go_wp2
      refine bodyPost_ret (results_cell_row rfl _ _ a8 32 #[.int .i64 (wrap64 (az + 1)), .int .i64 a7, .int .i64 ad, .int .u64 a4, .int .u64 0, .int .u64 aC, .int .i64 aD, .int .i64 aE] (0, 0) _ rfl (kb ae) Tryd.underlying32 rfl (by kernel_rfl)) rfl ?_
      exact ⟨kF, (kl HB)⟩
     rw [kIn aV] at H; obtain ⟨aW, aX⟩ := kqF aV
     by_cases aS : az > 0
     ·rw [kIp aS] at H; have aY : decide (0 < az) = true := kTt aS; clear aS; simp only [Option.some.injEq, Prod.mk.injEq] at H; obtain ⟨rfl, rfl, rfl, rfl, rfl, rfl, rfl, rfl⟩ := H; have hU := al.out; have hV := am.out; have hW := an.out; have hX := ao.out; have hY := ag.out; have hZ := ah.out; have ia := ai.out; have ib := aj.out; obtain ⟨ey, ez, e0, e4, e5, e6, e7, e8⟩ := kc8 aa; obtain ⟨e9, eA, eB, eC, eD, eE, eF, eG⟩ := kf8 aa; have ic := a2.out; have ie := a3.out; have ig := ap.out; have ii := aq.out; have ij := ar.out; have ik := au.out; obtain ⟨eH, eI⟩ := kc2 ac; obtain ⟨eJ, eK⟩ := kf2 ac; have il := aw.out; have im := av.out; have io := ay.out; have ip := ax.out; obtain ⟨eL, eM, eN, eO, eP, eQ, eR, eS⟩ := kc8 af; obtain ⟨eT, eU, eV, eW, eX, eY, eZ, fa⟩ := kf8 af; have iq := a6.out; have ir := a5.out; obtain ⟨fb, fc, fd, fe, ff, fg, fh, fi⟩ := kc8 ae; obtain ⟨fj, fk, fl, fm, fo, fp, fq, fs⟩ := kf8 ae
      go_wp2
      refine bodyPost_ret (results_cell_row rfl _ _ a8 32 #[.int .i64 (wrap64 (az + 1)), .int .i64 a7, .int .i64 ad, .int .u64 a4, .int .u64 (IntKind.u64.wrap (a4 - aB)), .int .u64 0, .int .i64 0, .int .i64 0] (0, 0) _ rfl (kb ae) Tryd.underlying32 rfl (by kernel_rfl)) rfl ?_
      exact ⟨kF, (kl HB)⟩
     rw [kIn aS] at H; have aY : decide (0 < az) = false := kFf aS; clear aS; simp only [Option.some.injEq, Prod.mk.injEq] at H; obtain ⟨rfl, rfl, rfl, rfl, rfl, rfl, rfl, rfl⟩ := H; have iu := al.out; have iv := am.out; have iw := an.out; have ix := ao.out; have iy := ag.out; have iz := ah.out; have i0 := ai.out; have i1 := aj.out; obtain ⟨ft, fu, fv, fw, fx, fy, fz, f0⟩ := kc8 aa; obtain ⟨f2, f3, f4, f5, f6, f7, f8, f9⟩ := kf8 aa; have i3 := au.out; have i4 := ar.out; have i5 := aw.out; have i6 := av.out; have i7 := ay.out; have i9 := ax.out; obtain ⟨fA, fB, fC, fD, fE, fF, fG, fH⟩ := kc8 af; obtain ⟨fI, fJ, fK, fL, fM, fN, fO, fP⟩ := kf8 af; have iA := aq.out; have iB := ap.out; have iC := a6.out; have iD := a5.out; obtain ⟨fQ, fR, fS, fT, fU, fV, fW, fX⟩ := kc8 ae; obtain ⟨fY, fZ, ga, gb, gc, gf, gg, gh⟩ := kf8 ae
     go_wp2
     refine bodyPost_ret (results_cell_row rfl _ _ a8 32 #[.int .i64 (wrap64 (az + 1)), .int .i64 a7, .int .i64 ad, .int .u64 a4, .int .u64 0, .int .u64 0, .int .i64 0, .int .i64 0] (0, 0) _ rfl (kb ae) Tryd.underlying32 rfl (by kernel_rfl)) rfl ?_
     exact ⟨kF, (kl HB)⟩
end Go.Proofs.YtodocfjbpkicgaaDoor.All
