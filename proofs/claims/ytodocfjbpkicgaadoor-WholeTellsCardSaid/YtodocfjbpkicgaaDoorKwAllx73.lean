-- copied by a program of the session
import Derived.Test.YtodocfjbpkicgaaDoorKwAllx31
set_option linter.unusedSimpArgs false
set_option linter.unusedVariables false
set_option maxHeartbeats 8000000
set_option maxRecDepth 100000
section
namespace Go.Proofs.YtodocfjbpkicgaaDoor.All
open Go.RowKit Go.Zw Go.Zl Go.Zm
attribute [local go_sem] A2h A2r
mutual
def A06.j0 : Nat → Int → Bool → Int → Int → Int → Int → Int → Int → Int → Int → Int → Int → Int → Int → Int → Int → Int → Int → Int → Int → Int → Int → Int → Option (Int × Int × Int × Int × Int × Int × Int × Int)
 | 0, _, _, _, _, _, _, _, _, _, _, _, _, _, _, _, _, _, _, _, _, _, _, _ => none
 | k + 1, x0, az, an, af, ao, ap, aq, ar, au, av, ag, ah, aw, ax, ay, aa, ac, ai, ad, ae, aj, al, am => if az = true then (if x0 = 1 then (A06.j1 k aa ac ai ad ae ah 0 0) else (some (aa, ac, ai, ad, ae, aj, al, am))) else (A06.j2 k x0 an af ao ap aq ar au av ag ah aw ax ay aa ac (wrap64 (IntKind.u64.wrap ((IntKind.u64.wrap (ag)) - (IntKind.u64.wrap (af))))) ad ae aj al am)
def A06.j1 : Nat → Int → Int → Int → Int → Int → Int → Int → Int → Option (Int × Int × Int × Int × Int × Int × Int × Int)
 | 0, _, _, _, _, _, _, _, _ => none
 | k + 1, aa, ac, ad, ae, af, ag, ah, ai => some (aa, ac, ad, ae, af, ag, ah, ai)
def A06.j2 : Nat → Int → Int → Int → Int → Int → Int → Int → Int → Int → Int → Int → Int → Int → Int → Int → Int → Int → Int → Int → Int → Int → Int → Option (Int × Int × Int × Int × Int × Int × Int × Int)
 | 0, _, _, _, _, _, _, _, _, _, _, _, _, _, _, _, _, _, _, _, _, _, _ => none
 | k + 1, x0, ap, aq, ar, af, au, av, aw, ax, ay, ag, ah, ai, aj, aa, ac, ad, ae, al, am, an, ao => if x0 = 1 then (some (aa, ac, ad, ae, al, ah, ai, aj)) else (some (aa, ac, ad, ae, IntKind.u64.wrap (ag - af), am, an, ao))
end
def A06.f (k : Nat) (a0 : Int) (aa : Int) (ae : Int) (af : Int) (ag : Int) (ah : Int) (ai : Int) (aj : Int) (al : Int) (ac : Int) (ad : Int) (am : Int) (an : Int) (ao : Int) : Option (Int × Int × Int × Int × Int × Int × Int × Int) := A06.j0 k a0 (aa == 0) aa ae af ag ah ai aj al ac ad am an ao (wrap64 (aa + 1)) ac 0 ad 0 0 0 0
theorem A06.calls (k : Nat) (a0 : Int) (a4 : Int) (aC : Int) (aH : Int) (aD : Int) (aI : Int) (aJ : Int) (aK : Int) (aL : Int) (a5 : Int) (aw : Int) (aE : Int) (aF : Int) (aG : Int) (r1 : Int) (r2 : Int) (r3 : Int) (r4 : Int) (r5 : Int) (r6 : Int) (r7 : Int) (r8 : Int) (w : World) (h : A06.f k a0 a4 aC aH aD aI aJ aK aL a5 aw aE aF aG = some (r1, r2, r3, r4, r5, r6, r7, r8)) :
  Calls Tryd.prog 46 #[.int .i64 a0, .agg #[.int .i64 a4, .int .i64 aC, .int .i64 aH, .int .u64 aD, .int .u64 aI, .int .u64 aJ, .int .i64 aK, .int .i64 aL], .agg #[.int .i64 a5, .int .u64 aw], .agg #[.int .u64 aE, .int .i64 aF, .int .i64 aG]] w fun e w' => e = .returned (.agg #[.int .i64 r1, .int .i64 r2, .int .i64 r3, .int .u64 r4, .int .u64 r5, .int .u64 r6, .int .i64 r7, .int .i64 r8]) ∧ Below w.heap.size w w' := by
 have hu35 := Tryd.underlying35; have hu42 := Tryd.underlying42; have hu33 := Tryd.underlying33; have HB := ak (Below.refl w.heap.size w); have H := h; clear h; unfold A06.f at H; have fQ := ak H; clear H
 go_enter Tryd.func46, Tryd.ntmps46
 go_upto_region 2 with (first | ((with_reducible refine A0s (N := 5) rfl ?_); refine bxe 5 #[.int .i64 a4, .int .i64 aC, .int .i64 aH, .int .u64 aD, .int .u64 aI, .int .u64 aJ, .int .i64 aK, .int .i64 aL] 35 (h := ?_); intro aN hg w6 hbox hb; have aa := ak (hbox); have fR := kG hg HB; have fS := kG hg HB; replace HB := kH HB hb; clear hb hbox hg) | ((with_reducible refine A0s (N := 6) rfl ?_); refine bxe 6 #[.int .i64 a5, .int .u64 aw] 42 (h := ?_); intro aO hg w7 hbox hb; have ac := ak (hbox); have fT := kG hg HB; have fU := kG hg HB; replace HB := kH HB hb; obtain ⟨ax, ay⟩ := kN hg aa; replace aa := kB aa hb; clear hb hbox hg) | ((with_reducible refine A0s (N := 7) rfl ?_); refine bxe 7 #[.int .u64 aE, .int .i64 aF, .int .i64 aG] 33 (h := ?_); intro aP hg w8 hbox hb; have av := ak (hbox); have fV := kG hg HB; have fW := kG hg HB; replace HB := kH HB hb; obtain ⟨az, a1⟩ := kN hg aa; replace aa := kB aa hb; obtain ⟨a2, a3⟩ := kN hg ac; replace ac := kB ac hb; clear hb hbox hg) | ((with_reducible refine A0s (N := 8) rfl ?_); refine bxe 8 #[.int .i64 0, .int .i64 0, .int .i64 0, .int .u64 0, .int .u64 0, .int .u64 0, .int .i64 0, .int .i64 0] 35 (h := ?_); intro aB hg w9 hbox hb; have ad := ak (hbox); have fX := kG hg HB; have fY := kG hg HB; replace HB := kH HB hb; obtain ⟨ah, ai⟩ := kN hg aa; replace aa := kB aa hb; obtain ⟨aj, al⟩ := kN hg ac; replace ac := kB ac hb; obtain ⟨a9, aA⟩ := kN hg av; replace av := kB av hb; clear hb hbox hg; have fZ := ax.out; have ga := ay.out; have gb := az.out; have gc := a1.out; have gf := ah.out; have gg := ai.out; obtain ⟨aZ, ba, bb, bc, be, bf, bh, bi⟩ := kc8 aa; obtain ⟨bj, bk, bm, bn, bo, bp, bq, br⟩ := kf8 aa; have gh := a2.out; have gj := a3.out; have gk := aj.out; have gm := al.out; obtain ⟨bs, bt⟩ := kc2 ac; obtain ⟨bu, bv⟩ := kf2 ac) | ((with_reducible refine A0s (N := 9) rfl ?_); refine bxe 9 #[.int .i64 0, .int .i64 0, .int .i64 0, .int .u64 0, .int .u64 0, .int .u64 0, .int .i64 0, .int .i64 0] 35 (h := ?_); intro aQ hg iA hbox hb; have ae := ak (hbox); have gn := kG hg HB; have gp := kG hg HB; replace HB := kH HB hb; obtain ⟨af, ag⟩ := kN hg aa; replace aa := kB aa hb; obtain ⟨am, an⟩ := kN hg ac; replace ac := kB ac hb; obtain ⟨ao, ap⟩ := kN hg av; replace av := kB av hb; obtain ⟨aq, ar⟩ := kN hg ad; replace ad := kB ad hb; clear hb hbox hg; have gq := ag.out; have gr := af.out; have gs := an.out; have gv := am.out; have gw := ap.out; have gx := ao.out; have gy := ar.out; have gz := aq.out; obtain ⟨bw, bx, bz, b0, b1, b2, b3, b4⟩ := kc8 ae; obtain ⟨b5, b6, b7, b8, b9, bA, bB, bC⟩ := kf8 ae))
 (try simp only [Act.put, List.setIfInBounds_toArray, List.set_cons_zero, List.set_cons_succ])
 go_cut [20] (fun i4 wc => ∃ (kq : Nat) (aM : Bool), i4 = .bool aM ∧ A0b (A06.j0 kq a0 aM a4 aC aH aD aI aJ aK aL a5 aw aE aF aG (wrap64 (a4 + 1)) a5 0 aw 0 0 0 0 = some (r1, r2, r3, r4, r5, r6, r7, r8)) ∧ A0b (kq ≤ k) ∧ A0b (wc.heap[aN]? = some (.cells #[.int .i64 a4, .int .i64 aC, .int .i64 aH, .int .u64 aD, .int .u64 aI, .int .u64 aJ, .int .i64 aK, .int .i64 aL] 35 (0, 0))) ∧ A0b (wc.heap[aO]? = some (.cells #[.int .i64 a5, .int .u64 aw] 42 (0, 0))) ∧ A0b (wc.heap[aP]? = some (.cells #[.int .u64 aE, .int .i64 aF, .int .i64 aG] 33 (0, 0))) ∧ A0b (wc.heap[aB]? = some (.cells #[.int .i64 0, .int .i64 0, .int .i64 0, .int .u64 0, .int .u64 0, .int .u64 0, .int .i64 0, .int .i64 0] 35 (0, 0))) ∧ A0b (wc.heap[aQ]? = some (.cells #[.int .i64 (wrap64 (a4 + 1)), .int .i64 a5, .int .i64 0, .int .u64 aw, .int .u64 0, .int .u64 0, .int .i64 0, .int .i64 0] 35 (0, 0))) ∧ A0b (Below w.heap.size w wc))
 case first =>
  have H := fQ.out; clear fQ; have H' := ak H; clear H; have g0 := ax.out; have g1 := ay.out; have g2 := az.out; have g3 := a1.out; have g4 := ah.out; have g5 := ai.out; have g6 := af.out; have g7 := ag.out; obtain ⟨bD, bE, bF, bG, bH, bI, bJ, bK⟩ := kc8 aa; obtain ⟨bL, bM, bN, bO, bP, bQ, bR, bS⟩ := kf8 aa
  go_wp2
  go_meet
  case rel => exact ⟨_, ((a4 == 0)), kE, H', kO, ⟨(kb aa)⟩, ⟨(kb ac)⟩, ⟨(kb av)⟩, ⟨(kb ad)⟩, ⟨(kb ae)⟩, ⟨(kl HB)⟩⟩
 case rest =>
  clear fQ; obtain ⟨kq, aM, rfl, HA, g8, aa, ac, av, ad, ae, HB⟩ := hcut
  cases kq with
  | zero => exact absurd HA.out (by simp [A06.j0])
  | succ g9 =>
   have H := HA.out; clear HA; simp only [A06.j0] at H
   by_cases bT : aM = true
   ·subst bT
    rw [if_pos rfl] at H
    by_cases aT : a0 = 1
    ·rw [kIp aT] at H; obtain ⟨aU, aV⟩ := kqT aT; clear aT; have aR := ak H; clear H
     go_upto_region 4 with (fail)
     go_cut [] (fun wc => ∃ (kq : Nat) (a6 : Int) (a7 : Int) (a8 : Int), A0b (A06.j1 kq (wrap64 (a4 + 1)) a5 0 aw 0 a6 a7 a8 = some (r1, r2, r3, r4, r5, r6, r7, r8)) ∧ A0b (kq ≤ g9) ∧ A0b (wc.heap[aN]? = some (.cells #[.int .i64 a4, .int .i64 aC, .int .i64 aH, .int .u64 aD, .int .u64 aI, .int .u64 aJ, .int .i64 aK, .int .i64 aL] 35 (0, 0))) ∧ A0b (wc.heap[aO]? = some (.cells #[.int .i64 a5, .int .u64 aw] 42 (0, 0))) ∧ A0b (wc.heap[aP]? = some (.cells #[.int .u64 aE, .int .i64 aF, .int .i64 aG] 33 (0, 0))) ∧ A0b (wc.heap[aB]? = some (.cells #[.int .i64 0, .int .i64 0, .int .i64 0, .int .u64 0, .int .u64 0, .int .u64 0, .int .i64 0, .int .i64 0] 35 (0, 0))) ∧ A0b (wc.heap[aQ]? = some (.cells #[.int .i64 (wrap64 (a4 + 1)), .int .i64 a5, .int .i64 0, .int .u64 aw, .int .u64 0, .int .u64 a6, .int .i64 a7, .int .i64 a8] 35 (0, 0))) ∧ A0b (Below w.heap.size w wc))
     case first =>
      have H := aR.out; clear aR; have H' := ak H; clear H; have gA := ay.out; have gB := ax.out; have gC := a2.out; have gD := a3.out; have gE := aj.out; have gF := al.out; have gG := am.out; have gH := an.out; obtain ⟨bU, bV⟩ := kc2 ac; obtain ⟨bW, bX⟩ := kf2 ac; have gI := ag.out; have gJ := af.out; have gK := ap.out; have gL := ao.out; have gM := ar.out; have gN := aq.out; obtain ⟨bY, bZ, ca, cc, cf, cg, ch, ci⟩ := kc8 ae; obtain ⟨cj, ck, cm, co, cp, cq, cr, cs⟩ := kf8 ae
      go_wp2
      go_meet
      case rel => exact ⟨_, (aw), (0), (0), H', ⟨by have := g8.out; first | omega | exact Nat.le_refl _⟩, ⟨(kb aa)⟩, ⟨(kb ac)⟩, ⟨(kb av)⟩, ⟨(kb ad)⟩, ⟨(kb ae)⟩, ⟨(kl HB)⟩⟩
     case rest =>
      clear aR; obtain ⟨kq, a6, a7, a8, HA, i5, aa, ac, av, ad, ae, HB⟩ := hcut
      cases kq with
      | zero => exact absurd HA.out (by simp [A06.j1])
      | succ i6 =>
       have H := HA.out; clear HA; simp only [A06.j1] at H; simp only [Option.some.injEq, Prod.mk.injEq] at H; obtain ⟨rfl, rfl, rfl, rfl, rfl, rfl, rfl, rfl⟩ := H; have gO := ag.out; have gP := af.out; have gQ := an.out; have gR := am.out; have gS := ap.out; have gT := ao.out; have gU := ar.out; have gV := aq.out; obtain ⟨ct, cu, cv, cw, cx, cy, cz, cA⟩ := kc8 ae; obtain ⟨cB, cC, cD, cF, cG, cH, cI, cJ⟩ := kf8 ae; have gW := ai.out; have gX := ah.out; have gY := al.out; have gZ := aj.out; have ha := aA.out; have hc := a9.out; obtain ⟨cK, cL, cM, cN, cO, cP, cQ, cR⟩ := kc8 ad; obtain ⟨cS, cT, cU, cV, cW, cX, cY, cZ⟩ := kf8 ad
       go_wp2
       refine bodyPost_ret (results_cell_row rfl _ _ aB 35 #[.int .i64 (wrap64 (a4 + 1)), .int .i64 a5, .int .i64 0, .int .u64 aw, .int .u64 0, .int .u64 a6, .int .i64 a7, .int .i64 a8] (0, 0) _ rfl (kb ad) Tryd.underlying35 rfl (by kernel_rfl)) rfl ?_
       exact ⟨kF, (kl HB)⟩
    rw [kIn aT] at H; obtain ⟨aU, aV⟩ := kqF aT; simp only [Option.some.injEq, Prod.mk.injEq] at H; obtain ⟨rfl, rfl, rfl, rfl, rfl, rfl, rfl, rfl⟩ := H; have he := ag.out; have hf := af.out; have hh := an.out; have hi := am.out; have hl := ap.out; have hm := ao.out; have hn := ar.out; have hp := aq.out; obtain ⟨da, db, dc, dd, de, df, dg, dh⟩ := kc8 ae; obtain ⟨di, dj, dk, dl, dm, dn, dp, dq⟩ := kf8 ae; have hq := ai.out; have hs := ah.out; have ht := al.out; have hu := aj.out; have hv := aA.out; have hw := a9.out; obtain ⟨dr, ds, dt, du, dv, dw, dz, d0⟩ := kc8 ad; obtain ⟨d5, d6, d7, d8, d9, dA, dB, dC⟩ := kf8 ad
    go_wp2
    refine bodyPost_ret (results_cell_row rfl _ _ aB 35 #[.int .i64 (wrap64 (a4 + 1)), .int .i64 a5, .int .i64 0, .int .u64 aw, .int .u64 0, .int .u64 0, .int .i64 0, .int .i64 0] (0, 0) _ rfl (kb ad) Tryd.underlying35 rfl (by kernel_rfl)) rfl ?_
    exact ⟨kF, (kl HB)⟩
   replace bT := Bool.eq_false_iff.mpr bT; subst bT
   rw [if_neg (show ¬ (false = true) by decide)] at H; have aS := ak H; clear H
   go_upto_region 6 with (fail)
   go_cut [] (fun wc => ∃ (kq : Nat) (au : Int), A0b (A06.j2 kq a0 a4 aC aH aD aI aJ aK aL a5 aw aE aF aG (wrap64 (a4 + 1)) a5 au aw 0 0 0 0 = some (r1, r2, r3, r4, r5, r6, r7, r8)) ∧ A0b (kq ≤ g9) ∧ A0b (wc.heap[aN]? = some (.cells #[.int .i64 a4, .int .i64 aC, .int .i64 aH, .int .u64 aD, .int .u64 aI, .int .u64 aJ, .int .i64 aK, .int .i64 aL] 35 (0, 0))) ∧ A0b (wc.heap[aO]? = some (.cells #[.int .i64 a5, .int .u64 aw] 42 (0, 0))) ∧ A0b (wc.heap[aP]? = some (.cells #[.int .u64 aE, .int .i64 aF, .int .i64 aG] 33 (0, 0))) ∧ A0b (wc.heap[aB]? = some (.cells #[.int .i64 0, .int .i64 0, .int .i64 0, .int .u64 0, .int .u64 0, .int .u64 0, .int .i64 0, .int .i64 0] 35 (0, 0))) ∧ A0b (wc.heap[aQ]? = some (.cells #[.int .i64 (wrap64 (a4 + 1)), .int .i64 a5, .int .i64 au, .int .u64 aw, .int .u64 0, .int .u64 0, .int .i64 0, .int .i64 0] 35 (0, 0))) ∧ A0b (Below w.heap.size w wc))
   case first =>
    have H := aS.out; clear aS; have H' := ak H; clear H; have hx := ay.out; have hy := ax.out; have hz := a2.out; have h6 := a3.out; have h7 := aj.out; have h8 := al.out; have h9 := am.out; have hA := an.out; obtain ⟨dD, dF⟩ := kc2 ac; obtain ⟨dG, dH⟩ := kf2 ac; have hB := az.out; have hC := a1.out; have hD := ah.out; have hE := ai.out; have hF := af.out; have hG := ag.out; obtain ⟨dI, dJ, dK, dL, dM, dN, dO, dP⟩ := kc8 aa; obtain ⟨dQ, dR, dS, dT, dU, dV, dW, dX⟩ := kf8 aa; have hH := ap.out; have hI := ao.out; have hJ := ar.out; have hK := aq.out; obtain ⟨dY, dZ, ea, eb, ec, ed, ee, ef⟩ := kc8 ae; obtain ⟨eg, eh, ei, ej, ek, el, em, eo⟩ := kf8 ae
    go_wp2
    go_meet
    case rel => exact ⟨_, (wrap64 (IntKind.u64.wrap ((IntKind.u64.wrap (a5)) - (IntKind.u64.wrap (aC))))), H', ⟨by have := g8.out; first | omega | exact Nat.le_refl _⟩, ⟨(kb aa)⟩, ⟨(kb ac)⟩, ⟨(kb av)⟩, ⟨(kb ad)⟩, ⟨(kb ae)⟩, ⟨(kl HB)⟩⟩
   case rest =>
    clear aS; 
    obtain ⟨kq, au, HA, i7, aa, ac, av, ad, ae, HB⟩ := hcut
    cases kq with
    | zero => exact absurd HA.out (by simp [A06.j2])
    | succ i9 =>
     have H := HA.out; clear HA; simp only [A06.j2] at H
     by_cases aW : a0 = 1
     ·rw [kIp aW] at H; obtain ⟨aX, aY⟩ := kqT aW; clear aW; simp only [Option.some.injEq, Prod.mk.injEq] at H; obtain ⟨rfl, rfl, rfl, rfl, rfl, rfl, rfl, rfl⟩ := H; have hL := a1.out; have hM := az.out; have hN := a3.out; have hO := a2.out; have hP := a9.out; have hQ := aA.out; have hR := ao.out; have hS := ap.out; obtain ⟨ep, et, eu⟩ := kc3 av; obtain ⟨ev, ew, ex⟩ := kf3 av; have hT := ag.out; have hU := af.out; have hV := an.out; have hW := am.out; have hX := ar.out; have hY := aq.out; obtain ⟨ey, ez, e0, e4, e5, e6, e7, e8⟩ := kc8 ae; obtain ⟨e9, eA, eB, eC, eD, eE, eF, eG⟩ := kf8 ae; have hZ := ai.out; have ia := ah.out; have ib := al.out; have ic := aj.out; obtain ⟨eH, eI, eJ, eK, eL, eM, eN, eO⟩ := kc8 ad; obtain ⟨eP, eQ, eR, eS, eT, eU, eV, eW⟩ := kf8 ad
      go_wp2
      refine bodyPost_ret (results_cell_row rfl _ _ aB 35 #[.int .i64 (wrap64 (a4 + 1)), .int .i64 a5, .int .i64 au, .int .u64 aw, .int .u64 0, .int .u64 aE, .int .i64 aF, .int .i64 aG] (0, 0) _ rfl (kb ad) Tryd.underlying35 rfl (by kernel_rfl)) rfl ?_
      exact ⟨kF, (kl HB)⟩
     rw [kIn aW] at H; obtain ⟨aX, aY⟩ := kqF aW; simp only [Option.some.injEq, Prod.mk.injEq] at H; obtain ⟨rfl, rfl, rfl, rfl, rfl, rfl, rfl, rfl⟩ := H; have ie := ay.out; have ig := ax.out; have ii := a2.out; have ij := a3.out; have ik := aj.out; have il := al.out; have im := am.out; have io := an.out; obtain ⟨eX, eY⟩ := kc2 ac; obtain ⟨eZ, fa⟩ := kf2 ac; have ip := az.out; have iq := a1.out; have ir := ah.out; have iu := ai.out; have iv := af.out; have iw := ag.out; obtain ⟨fb, fc, fd, fe, ff, fg, fh, fi⟩ := kc8 aa; obtain ⟨fj, fk, fl, fm, fo, fp, fq, fs⟩ := kf8 aa; have ix := ap.out; have iy := ao.out; have iz := ar.out; have i0 := aq.out; obtain ⟨ft, fu, fv, fw, fx, fy, fz, f0⟩ := kc8 ae; obtain ⟨f2, f3, f4, f5, f6, f7, f8, f9⟩ := kf8 ae; have i1 := aA.out; have i3 := a9.out; obtain ⟨fA, fB, fC, fD, fE, fF, fG, fH⟩ := kc8 ad; obtain ⟨fI, fJ, fK, fL, fM, fN, fO, fP⟩ := kf8 ad
     go_wp2
     refine bodyPost_ret (results_cell_row rfl _ _ aB 35 #[.int .i64 (wrap64 (a4 + 1)), .int .i64 a5, .int .i64 au, .int .u64 aw, .int .u64 (IntKind.u64.wrap (aw - aD)), .int .u64 0, .int .i64 0, .int .i64 0] (0, 0) _ rfl (kb ad) Tryd.underlying35 rfl (by kernel_rfl)) rfl ?_
     exact ⟨kF, (kl HB)⟩
end Go.Proofs.YtodocfjbpkicgaaDoor.All
end
section
namespace Go.Proofs.YtodocfjbpkicgaaDoor.All
open Go.RowKit Go.Zw Go.Zl Go.Zm
attribute [local go_sem] A2h A2r
mutual
def A0g.j0 : Nat → List Int → Int → Bool → Option (Int × Int × Int)
 | 0, _, _, _ => none
 | k + 1, x0, x1, aa => if aa = true then (some (0, 0, 2)) else (if 0 ≤ x1 then (if x1 ≤ (x0.length : Int) then (A0g.l0 k (x0.drop (x1 : Int).toNat) 0) else (none)) else (none))
def A0g.j2 : Nat → List Int → Int → Option (Int × Int × Int)
 | 0, _, _ => none
 | k + 1, x7, x8 => if x8 < 9 then (A0g.j3 k x7 x8 (x8 == (x7.length : Int))) else (A0g.j3 k x7 x8 false)
def A0g.j3 : Nat → List Int → Int → Bool → Option (Int × Int × Int)
 | 0, _, _, _ => none
 | k + 1, x7, x8, aa => if aa = true then (some (0, 0, 2)) else (if x8 ≥ 9 then (if (x7.length : Int) < 10 then (some (0, 0, 2)) else (if 9 < (x7.length : Int) then (if (rd x7 9) > 1 then (some (0, 0, 3)) else (A0g.j4 k x7 x8)) else (none))) else (A0g.j4 k x7 x8))
def A0g.j4 : Nat → List Int → Int → Option (Int × Int × Int)
 | 0, _, _ => none
 | k + 1, x7, x8 => if x8 > 0 then (if 0 ≤ x8 then (if x8 < (x7.length : Int) then (A0g.j5 k x7 x8 ((rd x7 x8) == 0)) else (none)) else (none)) else (A0g.j5 k x7 x8 false)
def A0g.j5 : Nat → List Int → Int → Bool → Option (Int × Int × Int)
 | 0, _, _, _ => none
 | k + 1, x7, x8, aa => if aa = true then (some (0, 0, 3)) else (A0g.l1 k x7 x8 0 x8)
def A0g.l1 : Nat → List Int → Int → Int → Int → Option (Int × Int × Int)
 | 0, _, _, _, _ => none
 | k + 1, x7, x8, x9, aa => if aa ≥ 0 then (if 0 ≤ aa then (if aa < (x7.length : Int) then (A0g.l1 k x7 x8 (IntKind.u64.wrap ((IntKind.u64.wrap (128 * x9)) + (IntKind.u64.wrap (Int.tmod (rd x7 aa) 128)))) (wrap64 (aa - 1))) else (none)) else (none)) else (some (x9, wrap64 (x8 + 1), 0))
def A0g.l0 : Nat → List Int → Int → Option (Int × Int × Int)
 | 0, _, _ => none
 | k + 1, x7, x8 => if x8 < (x7.length : Int) then (if x8 < 10 then (if 0 ≤ x8 then (if (rd x7 x8) ≥ 128 then (A0g.l0 k x7 (wrap64 (x8 + 1))) else (A0g.j2 k x7 x8)) else (none)) else (A0g.j2 k x7 x8)) else (A0g.j2 k x7 x8)
end
def A0g.f (k : Nat) (l0 : List Int) (a1 : Int) : Option (Int × Int × Int) := if a1 < 0 then (A0g.j0 k l0 a1 true) else (A0g.j0 k l0 a1 (decide (a1 > (l0.length : Int))))
theorem A0g.calls (k : Nat) (A0 : Option Addr) (c0 : Nat) (l0 : List Int) (a1 : Int) (r1 : Int) (r2 : Int) (r3 : Int) (w : World) (hr0 : Kd.C (Kd.int .u8) w A0 l0.length l0) (hc0 : l0.length ≤ c0) (h : A0g.f k l0 a1 = some (r1, r2, r3)) :
  Calls Tryd.prog 67 #[.slice A0 l0.length c0, .int .i64 a1] w fun e w' => e = .returned (.tuple #[.int .u64 r1, .int .i64 r2, .int .i64 r3]) ∧ A0q w w' := by
 have bF := ak hr0; have bG := ak hc0; clear hr0 hc0; have H := h; clear h; unfold A0g.f at H; have b0 := ak H; clear H
 go_enter Tryd.func67, Tryd.ntmps67
 go_upto_region 1 with (fail)
 go_cut [18] (fun bH wc => ∃ (kq : Nat) (au : Bool), bH = .bool au ∧ A0b (A0g.j0 kq l0 a1 au = some (r1, r2, r3)) ∧ A0b (kq ≤ k) ∧ A0q w wc)
 case first =>
  have H := b0.out; clear b0
  by_cases c4 : a1 < 0
  ·rw [kIp c4] at H; have az := kTt c4; clear c4
   (first | rw [az] | (simp only [A2i, A2u]; rw [az]) | skip)
   have H' := ak H; clear H
   go_wp2
   go_meet
   case rel => exact ⟨_, (true), kE, H', kO, by repeat (first | exact A0q.refl _ | apply A0q.step)⟩
  rw [kIn c4] at H; have az := kFf c4; clear c4
  (first | rw [az] | (simp only [A2i, A2u]; rw [az]) | skip)
  have H' := ak H; clear H
  go_wp2
  go_meet
  case rel => exact ⟨_, (decide (a1 > (l0.length : Int))), kE, H', kO, by repeat (first | exact A0q.refl _ | apply A0q.step)⟩
 case rest =>
  clear b0; obtain ⟨kq, au, rfl, HA, ax, ⟨mc2, rfl⟩⟩ := hcut
  cases kq with
  | zero => exact absurd HA.out (by simp [A0g.j0])
  | succ b1 =>
   have H := HA.out; clear HA; simp only [A0g.j0] at H
   by_cases c5 : au = true
   ·subst c5
    rw [if_pos rfl] at H; obtain ⟨rfl, rfl, rfl⟩ := kI3 H
    go_wp2
    go_ret3
    exact ⟨by first | rfl | (simp; done) | (simp [*]; done), by repeat (first | exact A0q.refl _ | apply A0q.step)⟩
   replace c5 := Bool.eq_false_iff.mpr c5; subst c5
   rw [if_neg (show ¬ (false = true) by decide)] at H
   by_cases c6 : 0 ≤ a1
   ·rw [kIp c6] at H; have bI := kEt c6; have bJ := kTt c6; clear c6
    by_cases c7 : a1 ≤ (l0.length : Int)
    ·rw [kIp c7] at H; have bK := kEt c7; have bL := kTt c7; clear c7; have b2 := ak H; clear H; obtain ⟨bQ, aT, _, aU, _⟩ := info_parts info5; obtain ⟨A9, b8, b9, bA⟩ := A3l (P := Tryd.prog) (Value.int .u8) 0 22 5 .i64 Tryd.underlying22 aT aU A0 c0 l0 a1 kD kD bG.out; have ag := ak (Kd.A2b (h1 := fun _ => rfl) (b9 _ (Kd.A18 bF.out))); have b3 := ak bA; clear b9 bA aT aU
     go_upto_block 0 with (fail)
     go_cut [8] (fun v8 wc => ∃ (kq : Nat) (x8_7 : Int), v8 = .int .i64 x8_7 ∧ A0b (A0g.j2 kq (l0.drop (a1 : Int).toNat) x8_7 = some (r1, r2, r3)) ∧ A0b (kq ≤ b1) ∧ A0q w wc)
     case first =>
      have H := b2.out; clear b2; have H' := ak H; clear H
      go_wp2
      go_loopg [8] b1 (fun kq v8 w' => ∃ (x8_2 : Int), v8 = .int .i64 x8_2 ∧ A0b (A0g.l0 kq (l0.drop (a1 : Int).toNat) x8_2 = some (r1, r2, r3)) ∧ A0b (kq ≤ b1) ∧ A0q w w')
      case atStart => exact ⟨(0), kE, H', ⟨Nat.le_refl _⟩, by repeat (first | exact A0q.refl _ | apply A0q.step)⟩
      case round =>
       clear H'; obtain ⟨x8_2, rfl, HA, aV, ⟨m2, rfl⟩⟩ := hrel
       cases gk with
       | zero => exact absurd HA.out (by simp [A0g.l0])
       | succ k2 =>
        have H := HA.out; clear HA; simp only [A0g.l0] at H
        by_cases c10 : x8_2 < ((l0.drop (a1 : Int).toNat).length : Int)
        ·rw [kIp c10] at H; have ah := kTt c10; (try (have a2 := ah; simp only [List.length_drop, List.length_take] at a2)); clear c10
         (first | rw [ah] | (simp only [A2i, A2u]; rw [ah]) | skip)
         by_cases aL : x8_2 < 10
         ·rw [kIp aL] at H; have aW := kTt aL; clear aL
          by_cases br : 0 ≤ x8_2
          ·rw [kIp br] at H; have bB := kTt br; clear br
           by_cases aM : (rd (l0.drop (a1 : Int).toNat) x8_2) ≥ 128
           ·rw [kIp aM] at H; have aX : decide (128 ≤ (rd (l0.drop (a1 : Int).toNat) x8_2)) = true := kTt aM; clear aM; have H' := ak H; clear H; have ai : 0 ≤ (x8_2 : Int) := kD; have ae : x8_2 < ((l0.drop (a1 : Int).toNat).length : Int) := kD; obtain ⟨aF, a3, a4⟩ := Kd.A2y ag.out x8_2 ai ae
            cases a3
            replace ai := kEt ai
            (try (have ac := ae; simp only [List.length_drop, List.length_take] at ac; replace ac := kEt ac)); replace ae := kEt ae
            go_wp2
            go_roundg k2
            case measure => have := ax.out; have := aV.out; omega
            case rel => exact ⟨(wrap64 (x8_2 + 1)), kE, H', ⟨by have := ax.out; have := aV.out; omega⟩, by repeat (first | exact A0q.refl _ | apply A0q.step)⟩
           rw [kIn aM] at H; have aX : decide (128 ≤ (rd (l0.drop (a1 : Int).toNat) x8_2)) = false := kFf aM; clear aM; have H' := ak H; clear H; have ai : 0 ≤ (x8_2 : Int) := kD; have ae : x8_2 < ((l0.drop (a1 : Int).toNat).length : Int) := kD; obtain ⟨aF, a3, a4⟩ := Kd.A2y ag.out x8_2 ai ae
           cases a3
           replace ai := kEt ai
           (try (have ac := ae; simp only [List.length_drop, List.length_take] at ac; replace ac := kEt ac)); replace ae := kEt ae
           go_wp2
           go_meet
           case rel => exact ⟨_, (x8_2), kE, H', ⟨by have := ax.out; have := aV.out; first | omega | exact Nat.le_refl _⟩, by repeat (first | exact A0q.refl _ | apply A0q.step)⟩
          exact (kA br H).elim
         rw [kIn aL] at H; have aW := kFf aL; clear aL; have H' := ak H; clear H
         go_wp2
         go_meet
         case rel => exact ⟨_, (x8_2), kE, H', ⟨by have := ax.out; have := aV.out; first | omega | exact Nat.le_refl _⟩, by repeat (first | exact A0q.refl _ | apply A0q.step)⟩
        rw [kIn c10] at H; have ah := kFf c10; (try (have a2 := ah; simp only [List.length_drop, List.length_take] at a2)); clear c10
        (first | rw [ah] | (simp only [A2i, A2u]; rw [ah]) | skip)
        have H' := ak H; clear H
        go_wp2
        go_meet
        case rel => exact ⟨_, (x8_2), kE, H', ⟨by have := ax.out; have := aV.out; first | omega | exact Nat.le_refl _⟩, by repeat (first | exact A0q.refl _ | apply A0q.step)⟩
     case rest =>
      clear b2; obtain ⟨kq, x8_7, rfl, HA, aE, ⟨mc7, rfl⟩⟩ := hcut
      cases kq with
      | zero => exact absurd HA.out (by simp [A0g.j2])
      | succ bM =>
       have H := HA.out; clear HA; simp only [A0g.j2] at H; have aG := ak H; clear H
       go_upto_region 7 with (fail)
       go_cut [46] (fun bN wc => ∃ (kq : Nat) (al : Bool), bN = .bool al ∧ A0b (A0g.j3 kq (l0.drop (a1 : Int).toNat) x8_7 al = some (r1, r2, r3)) ∧ A0b (kq ≤ bM) ∧ A0q w wc)
       case first =>
        have H := aG.out; clear aG
        by_cases aN : x8_7 < 9
        ·rw [kIp aN] at H; have an := kTt aN; clear aN
         (first | rw [an] | (simp only [A2i, A2u]; rw [an]) | skip)
         have H' := ak H; clear H
         go_wp2
         go_meet
         case rel => exact ⟨_, ((x8_7 == ((l0.drop (a1 : Int).toNat).length : Int))), kE, H', ⟨by have := ax.out; have := aE.out; first | omega | exact Nat.le_refl _⟩, by repeat (first | exact A0q.refl _ | apply A0q.step)⟩
        rw [kIn aN] at H; have an := kFf aN; clear aN
        (first | rw [an] | (simp only [A2i, A2u]; rw [an]) | skip)
        have H' := ak H; clear H
        go_wp2
        go_meet
        case rel => exact ⟨_, (false), kE, H', ⟨by have := ax.out; have := aE.out; first | omega | exact Nat.le_refl _⟩, by repeat (first | exact A0q.refl _ | apply A0q.step)⟩
       case rest =>
        clear aG; obtain ⟨kq, al, rfl, HA, ay, ⟨mc13, rfl⟩⟩ := hcut
        cases kq with
        | zero => exact absurd HA.out (by simp [A0g.j3])
        | succ b4 =>
         have H := HA.out; clear HA; simp only [A0g.j3] at H
         by_cases bs : al = true
         ·subst bs
          rw [if_pos rfl] at H; obtain ⟨rfl, rfl, rfl⟩ := kI3 H
          go_wp2
          go_ret3
          exact ⟨by first | rfl | (simp; done) | (simp [*]; done), by repeat (first | exact A0q.refl _ | apply A0q.step)⟩
         replace bs := Bool.eq_false_iff.mpr bs; subst bs
         rw [if_neg (show ¬ (false = true) by decide)] at H; have aH := ak H; clear H
         go_upto_if 48 with (fail)
         go_cut [] (fun wc => ∃ (kq : Nat), A0b (A0g.j4 kq (l0.drop (a1 : Int).toNat) x8_7 = some (r1, r2, r3)) ∧ A0b (kq ≤ b4) ∧ A0q w wc)
         case first =>
          have H := aH.out; clear aH
          by_cases aO : x8_7 ≥ 9
          ·rw [kIp aO] at H; have ao : decide (9 ≤ x8_7) = true := kTt aO; clear aO
           (first | rw [ao] | (simp only [A2i, A2u]; rw [ao]) | skip)
           by_cases aP : ((l0.drop (a1 : Int).toNat).length : Int) < 10
           ·rw [kIp aP] at H; have a5 := kTt aP; have a6 : decide ((l0.drop (a1 : Int).toNat).length < 10) = true := kTt (by omega); (try (have a7 := a5; simp only [List.length_drop, List.length_take] at a7)); (try (have a8 := a6; simp only [List.length_drop, List.length_take] at a8)); clear aP; obtain ⟨rfl, rfl, rfl⟩ := kI3 H
            go_wp2
            go_ret3
            exact ⟨by first | rfl | (simp; done) | (simp [*]; done), by repeat (first | exact A0q.refl _ | apply A0q.step)⟩
           rw [kIn aP] at H; have a5 := kFf aP; have a6 : decide ((l0.drop (a1 : Int).toNat).length < 10) = false := kFf (by omega); (try (have a7 := a5; simp only [List.length_drop, List.length_take] at a7)); (try (have a8 := a6; simp only [List.length_drop, List.length_take] at a8)); clear aP
           by_cases bt : 9 < ((l0.drop (a1 : Int).toNat).length : Int)
           ·rw [kIp bt] at H; have aY := kTt bt; have aZ : decide (9 < (l0.drop (a1 : Int).toNat).length) = true := kTt (by omega); (try (have ba := aY; simp only [List.length_drop, List.length_take] at ba)); (try (have bb := aZ; simp only [List.length_drop, List.length_take] at bb)); clear bt
            by_cases aQ : (rd (l0.drop (a1 : Int).toNat) 9) > 1
            ·rw [kIp aQ] at H; have bc : decide (1 < (rd (l0.drop (a1 : Int).toNat) 9)) = true := kTt aQ; clear aQ; obtain ⟨rfl, rfl, rfl⟩ := kI3 H; have aj : 0 ≤ (9 : Int) := (by omega); have af : 9 < ((l0.drop (a1 : Int).toNat).length : Int) := kD; obtain ⟨aI, a9, aa⟩ := Kd.A2y ag.out 9 aj af
             cases a9
             (try simp only [show (9 : Int).toNat = 9 from rfl, Nat.reduceMul, Nat.reduceEqDiff, Go.Addr.add, ↓reduceIte] at aa); have aJ : (9 < (l0.drop (a1 : Int).toNat).length) = True := eq_true (by omega); (try rw [show ((9 : Int)).toNat = 9 from rfl] at aa); replace aj := kEt aj
             (try (have ad := af; simp only [List.length_drop, List.length_take] at ad; replace ad := kEt ad)); replace af := kEt af
             go_wp2
             go_ret3
             exact ⟨by first | rfl | (simp; done) | (simp [*]; done), by repeat (first | exact A0q.refl _ | apply A0q.step)⟩
            rw [kIn aQ] at H; have bc : decide (1 < (rd (l0.drop (a1 : Int).toNat) 9)) = false := kFf aQ; clear aQ; have H' := ak H; clear H; have aj : 0 ≤ (9 : Int) := (by omega); have af : 9 < ((l0.drop (a1 : Int).toNat).length : Int) := kD; obtain ⟨aI, a9, aa⟩ := Kd.A2y ag.out 9 aj af
            cases a9
            (try simp only [show (9 : Int).toNat = 9 from rfl, Nat.reduceMul, Nat.reduceEqDiff, Go.Addr.add, ↓reduceIte] at aa); have aJ : (9 < (l0.drop (a1 : Int).toNat).length) = True := eq_true (by omega); (try rw [show ((9 : Int)).toNat = 9 from rfl] at aa); replace aj := kEt aj
            (try (have ad := af; simp only [List.length_drop, List.length_take] at ad; replace ad := kEt ad)); replace af := kEt af
            go_wp2
            go_meet
            case rel => exact ⟨_, H', ⟨by have := ax.out; have := aE.out; have := ay.out; first | omega | exact Nat.le_refl _⟩, by repeat (first | exact A0q.refl _ | apply A0q.step)⟩
           exact (kA bt H).elim
          rw [kIn aO] at H; have ao : decide (9 ≤ x8_7) = false := kFf aO; clear aO
          (first | rw [ao] | (simp only [A2i, A2u]; rw [ao]) | skip)
          have H' := ak H; clear H
          go_wp2
          go_meet
          case rel => exact ⟨_, H', ⟨by have := ax.out; have := aE.out; have := ay.out; first | omega | exact Nat.le_refl _⟩, by repeat (first | exact A0q.refl _ | apply A0q.step)⟩
         case rest =>
          clear aH; obtain ⟨kq, HA, aC, ⟨mc16, rfl⟩⟩ := hcut
          cases kq with
          | zero => exact absurd HA.out (by simp [A0g.j4])
          | succ b5 =>
           have H := HA.out; clear HA; simp only [A0g.j4] at H; have aK := ak H; clear H
           go_upto_region 14 with (fail)
           go_cut [64] (fun bO wc => ∃ (kq : Nat) (am : Bool), bO = .bool am ∧ A0b (A0g.j5 kq (l0.drop (a1 : Int).toNat) x8_7 am = some (r1, r2, r3)) ∧ A0b (kq ≤ b5) ∧ A0q w wc)
           case first =>
            have H := aK.out; clear aK
            by_cases aR : x8_7 > 0
            ·rw [kIp aR] at H; have ap : decide (0 < x8_7) = true := kTt aR; clear aR
             (first | rw [ap] | (simp only [A2i, A2u]; rw [ap]) | skip)
             by_cases bu : 0 ≤ x8_7
             ·rw [kIp bu] at H; have bC := kTt bu; clear bu
              by_cases bv : x8_7 < ((l0.drop (a1 : Int).toNat).length : Int)
              ·rw [kIp bv] at H; have be := kTt bv; (try (have bf := be; simp only [List.length_drop, List.length_take] at bf)); clear bv; have H' := ak H; clear H; have aA : 0 ≤ (x8_7 : Int) := kD; have av : x8_7 < ((l0.drop (a1 : Int).toNat).length : Int) := kD; obtain ⟨b6, bh, bi⟩ := Kd.A2y ag.out x8_7 aA av
               cases bh
               replace aA := kEt aA
               (try (have aq := av; simp only [List.length_drop, List.length_take] at aq; replace aq := kEt aq)); replace av := kEt av
               go_wp2
               go_meet
               case rel => exact ⟨_, (((rd (l0.drop (a1 : Int).toNat) x8_7) == 0)), kE, H', ⟨by have := ax.out; have := aE.out; have := ay.out; have := aC.out; first | omega | exact Nat.le_refl _⟩, by repeat (first | exact A0q.refl _ | apply A0q.step)⟩
              exact (kA bv H).elim
             exact (kA bu H).elim
            rw [kIn aR] at H; have ap : decide (0 < x8_7) = false := kFf aR; clear aR
            (first | rw [ap] | (simp only [A2i, A2u]; rw [ap]) | skip)
            have H' := ak H; clear H
            go_wp2
            go_meet
            case rel => exact ⟨_, (false), kE, H', ⟨by have := ax.out; have := aE.out; have := ay.out; have := aC.out; first | omega | exact Nat.le_refl _⟩, by repeat (first | exact A0q.refl _ | apply A0q.step)⟩
           case rest =>
            clear aK; obtain ⟨kq, am, rfl, HA, bj, ⟨mc21, rfl⟩⟩ := hcut
            cases kq with
            | zero => exact absurd HA.out (by simp [A0g.j5])
            | succ bk =>
             have H := HA.out; clear HA; simp only [A0g.j5] at H
             by_cases bw : am = true
             ·subst bw
              rw [if_pos rfl] at H; obtain ⟨rfl, rfl, rfl⟩ := kI3 H
              go_wp2
              go_ret3
              exact ⟨by first | rfl | (simp; done) | (simp [*]; done), by repeat (first | exact A0q.refl _ | apply A0q.step)⟩
             replace bw := Bool.eq_false_iff.mpr bw; subst bw
             rw [if_neg (show ¬ (false = true) by decide)] at H; have H' := ak H; clear H
             go_wp2
             go_loopg [9, 10] bk (fun kq v9 bP w' => ∃ (aD : Int) (x10_6 : Int), v9 = .int .u64 aD ∧ bP = .int .i64 x10_6 ∧ A0b (A0g.l1 kq (l0.drop (a1 : Int).toNat) x8_7 aD x10_6 = some (r1, r2, r3)) ∧ A0b (kq ≤ bk) ∧ A0q w w')
             case atStart => exact ⟨(0), (x8_7), kE, kE, H', ⟨Nat.le_refl _⟩, by repeat (first | exact A0q.refl _ | apply A0q.step)⟩
             case round =>
              clear H'; obtain ⟨aD, x10_6, rfl, rfl, HA, bD, ⟨m6, rfl⟩⟩ := hrel
              cases gk with
              | zero => exact absurd HA.out (by simp [A0g.l1])
              | succ k6 =>
               have H := HA.out; clear HA; simp only [A0g.l1] at H
               by_cases aS : x10_6 ≥ 0
               ·rw [kIp aS] at H; have bm : decide (0 ≤ x10_6) = true := kTt aS; clear aS
                by_cases bx : 0 ≤ x10_6
                ·rw [kIp bx] at H; have bE : decide (0 ≤ x10_6) = true := kTt bx; clear bx
                 by_cases bz : x10_6 < ((l0.drop (a1 : Int).toNat).length : Int)
                 ·rw [kIp bz] at H; have bn : decide (x10_6 < ((l0.drop (a1 : Int).toNat).length : Int)) = true := kTt bz; (try (have bo := bn; simp only [List.length_drop, List.length_take] at bo)); clear bz; have H' := ak H; clear H; have aB : 0 ≤ (x10_6 : Int) := kD; have aw : x10_6 < ((l0.drop (a1 : Int).toNat).length : Int) := kD; obtain ⟨b7, bp, bq⟩ := Kd.A2y ag.out x10_6 aB aw
                  cases bp
                  replace aB := kEt aB
                  (try (have ar := aw; simp only [List.length_drop, List.length_take] at ar; replace ar := kEt ar)); replace aw := kEt aw
                  go_wp2
                  go_roundg k6
                  case measure => have := ax.out; have := aE.out; have := ay.out; have := aC.out; have := bj.out; have := bD.out; omega
                  case rel => exact ⟨(IntKind.u64.wrap ((IntKind.u64.wrap (128 * aD)) + (IntKind.u64.wrap (Int.tmod (rd (l0.drop (a1 : Int).toNat) x10_6) 128)))), (wrap64 (x10_6 - 1)), kE, kE, H', ⟨by have := ax.out; have := aE.out; have := ay.out; have := aC.out; have := bj.out; have := bD.out; omega⟩, by repeat (first | exact A0q.refl _ | apply A0q.step)⟩
                 exact (kA bz H).elim
                exact (kA bx H).elim
               rw [kIn aS] at H; have bm : decide (0 ≤ x10_6) = false := kFf aS; clear aS; obtain ⟨rfl, rfl, rfl⟩ := kI3 H
               go_wp2
               go_ret3
               exact ⟨by first | rfl | (simp; done) | (simp [*]; done), by repeat (first | exact A0q.refl _ | apply A0q.step)⟩
    exact (kA c7 H).elim
   exact (kA c6 H).elim
end Go.Proofs.YtodocfjbpkicgaaDoor.All
end
