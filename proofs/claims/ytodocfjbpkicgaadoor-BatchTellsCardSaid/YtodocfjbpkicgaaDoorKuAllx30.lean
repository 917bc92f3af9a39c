-- copied by a program of the session
import Derived.Test.YtodocfjbpkicgaaDoorKuAllx0
section
namespace Go.Proofs.YtodocfjbpkicgaaDoor.All
open Go.RowKit Go.Proofs.YtodocfjbpkicgaaDoorW.PrintWords Go.Proofs.YtodocfjbpkicgaaDoorW.PrintLast Go.Proofs.YtodocfjbpkicgaaDoorW.PrintMore
attribute [local go_sem] A2g A2h A2v A2w A15 A16 A2i A2j
set_option linter.unusedVariables false
set_option linter.unusedSimpArgs false
mutual
def A02.j0 : Nat → Int → Bool → Int → Int → Int → Int → Int → Int → Int → Int → Int → Int → Int → Int → Int → Int → Int → Int → Int → Int → Int → Int → Int → Option (Int × Int × Int × Int × Int × Int × Int × Int)
 | 0, _, _, _, _, _, _, _, _, _, _, _, _, _, _, _, _, _, _, _, _, _, _, _ => none
 | k + 1, x0, az, an, af, ao, ap, aq, ar, au, av, ag, ah, aw, ax, ay, aa, ac, ai, ad, ae, aj, al, am => if az = true then (if x0 = 1 then (A02.j1 k aa ac ai ad ae ah 0 0) else (some (aa, ac, ai, ad, ae, aj, al, am))) else (A02.j2 k x0 an af ao ap aq ar au av ag ah aw ax ay aa ac (wrap64 (IntKind.u64.wrap ((IntKind.u64.wrap (ag)) - (IntKind.u64.wrap (af))))) ad ae aj al am)
def A02.j1 : Nat → Int → Int → Int → Int → Int → Int → Int → Int → Option (Int × Int × Int × Int × Int × Int × Int × Int)
 | 0, _, _, _, _, _, _, _, _ => none
 | k + 1, aa, ac, ad, ae, af, ag, ah, ai => some (aa, ac, ad, ae, af, ag, ah, ai)
def A02.j2 : Nat → Int → Int → Int → Int → Int → Int → Int → Int → Int → Int → Int → Int → Int → Int → Int → Int → Int → Int → Int → Int → Int → Int → Option (Int × Int × Int × Int × Int × Int × Int × Int)
 | 0, _, _, _, _, _, _, _, _, _, _, _, _, _, _, _, _, _, _, _, _, _, _ => none
 | k + 1, x0, ap, aq, ar, af, au, av, aw, ax, ay, ag, ah, ai, aj, aa, ac, ad, ae, al, am, an, ao => if x0 = 1 then (some (aa, ac, ad, ae, al, ah, ai, aj)) else (some (aa, ac, ad, ae, IntKind.u64.wrap (ag - af), am, an, ao))
end
def A02.f (k : Nat) (a0 : Int) (aa : Int) (ae : Int) (af : Int) (ag : Int) (ah : Int) (ai : Int) (aj : Int) (al : Int) (ac : Int) (ad : Int) (am : Int) (an : Int) (ao : Int) : Option (Int × Int × Int × Int × Int × Int × Int × Int) := A02.j0 k a0 (aa == 0) aa ae af ag ah ai aj al ac ad am an ao (wrap64 (aa + 1)) ac 0 ad 0 0 0 0
set_option maxHeartbeats 8000000 in
set_option maxRecDepth 100000 in
theorem A02.calls (k : Nat) (a0 : Int) (av : Int) (aC : Int) (aH : Int) (aD : Int) (aI : Int) (aJ : Int) (aK : Int) (aL : Int) (ay : Int) (aw : Int) (aE : Int) (aF : Int) (aG : Int) (r1 : Int) (r2 : Int) (r3 : Int) (r4 : Int) (r5 : Int) (r6 : Int) (r7 : Int) (r8 : Int) (w : World) (h : A02.f k a0 av aC aH aD aI aJ aK aL ay aw aE aF aG = some (r1, r2, r3, r4, r5, r6, r7, r8)) :
  Calls Tryd.prog 46 #[.int .i64 a0, .agg #[.int .i64 av, .int .i64 aC, .int .i64 aH, .int .u64 aD, .int .u64 aI, .int .u64 aJ, .int .i64 aK, .int .i64 aL], .agg #[.int .i64 ay, .int .u64 aw], .agg #[.int .u64 aE, .int .i64 aF, .int .i64 aG]] w fun e w' => e = .returned (.agg #[.int .i64 r1, .int .i64 r2, .int .i64 r3, .int .u64 r4, .int .u64 r5, .int .u64 r6, .int .i64 r7, .int .i64 r8]) ∧ Below w.heap.size w w' := by
 have hu35 := Tryd.underlying35; have hu42 := Tryd.underlying42; have hu33 := Tryd.underlying33; have HB := ak (Below.refl w.heap.size w); have H : (A02.j0 k a0 (av == 0) av aC aH aD aI aJ aK aL ay aw aE aF aG (wrap64 (av + 1)) ay 0 aw 0 0 0 0) = some (r1, r2, r3, r4, r5, r6, r7, r8) := h; clear h; have fL := ak H; clear H
 go_enter Tryd.func46, Tryd.ntmps46
 go_upto_region 2 with (first | ((with_reducible refine A0v (N := 5) rfl ?_); refine bxe 5 #[.int .i64 av, .int .i64 aC, .int .i64 aH, .int .u64 aD, .int .u64 aI, .int .u64 aJ, .int .i64 aK, .int .i64 aL] 35 (h := ?_); intro aN hg w6 hbox hb; have aa := ak (hbox); have fM := kG hg HB; have fN := kG hg HB; replace HB := kH HB hb; clear hb hbox hg) | ((with_reducible refine A0v (N := 6) rfl ?_); refine bxe 6 #[.int .i64 ay, .int .u64 aw] 42 (h := ?_); intro aO hg w7 hbox hb; have ac := ak (hbox); have fO := kG hg HB; have fP := kG hg HB; replace HB := kH HB hb; obtain ⟨az, a1⟩ := kN hg aa; replace aa := kB aa hb; clear hb hbox hg) | ((with_reducible refine A0v (N := 7) rfl ?_); refine bxe 7 #[.int .u64 aE, .int .i64 aF, .int .i64 aG] 33 (h := ?_); intro aP hg w8 hbox hb; have ax := ak (hbox); have fQ := kG hg HB; have fR := kG hg HB; replace HB := kH HB hb; obtain ⟨a2, a3⟩ := kN hg aa; replace aa := kB aa hb; obtain ⟨a4, a5⟩ := kN hg ac; replace ac := kB ac hb; clear hb hbox hg) | ((with_reducible refine A0v (N := 8) rfl ?_); refine bxe 8 #[.int .i64 0, .int .i64 0, .int .i64 0, .int .u64 0, .int .u64 0, .int .u64 0, .int .i64 0, .int .i64 0] 35 (h := ?_); intro aB hg w9 hbox hb; have ad := ak (hbox); have fS := kG hg HB; have fT := kG hg HB; replace HB := kH HB hb; obtain ⟨ah, ai⟩ := kN hg aa; replace aa := kB aa hb; obtain ⟨aj, al⟩ := kN hg ac; replace ac := kB ac hb; obtain ⟨a9, aA⟩ := kN hg ax; replace ax := kB ax hb; clear hb hbox hg; have fU := az.out; have fV := a1.out; have fW := a2.out; have fX := a3.out; have fY := ah.out; have fZ := ai.out; obtain ⟨aZ, ba, bb, bc, be, bf, bg, bh⟩ := kc8 aa; obtain ⟨bi, bj, bk, bm, bn, bo, bp, bq⟩ := kf8 aa; have ga := a4.out; have gb := a5.out; have gc := aj.out; have gf := al.out; obtain ⟨br, bs⟩ := kc2 ac; obtain ⟨bt, bu⟩ := kf2 ac) | ((with_reducible refine A0v (N := 9) rfl ?_); refine bxe 9 #[.int .i64 0, .int .i64 0, .int .i64 0, .int .u64 0, .int .u64 0, .int .u64 0, .int .i64 0, .int .i64 0] 35 (h := ?_); intro aQ hg i1 hbox hb; have ae := ak (hbox); have gg := kG hg HB; have gh := kG hg HB; replace HB := kH HB hb; obtain ⟨af, ag⟩ := kN hg aa; replace aa := kB aa hb; obtain ⟨am, an⟩ := kN hg ac; replace ac := kB ac hb; obtain ⟨ao, ap⟩ := kN hg ax; replace ax := kB ax hb; obtain ⟨aq, ar⟩ := kN hg ad; replace ad := kB ad hb; clear hb hbox hg; have gj := ag.out; have gk := af.out; have gl := an.out; have gm := am.out; have gn := ap.out; have gp := ao.out; have gq := ar.out; have gr := aq.out; obtain ⟨bv, bw, bx, bz, b0, b1, b2, b3⟩ := kc8 ae; obtain ⟨b4, b5, b6, b7, b8, b9, bA, bB⟩ := kf8 ae))
 (try simp only [Act.put, List.setIfInBounds_toArray, List.set_cons_zero, List.set_cons_succ])
 go_cut [20] (fun iw wc => ∃ (kq : Nat) (aM : Bool), iw = .bool aM ∧ A0d (A02.j0 kq a0 aM av aC aH aD aI aJ aK aL ay aw aE aF aG (wrap64 (av + 1)) ay 0 aw 0 0 0 0 = some (r1, r2, r3, r4, r5, r6, r7, r8)) ∧ A0d (kq ≤ k) ∧ A0d (wc.heap[aN]? = some (.cells #[.int .i64 av, .int .i64 aC, .int .i64 aH, .int .u64 aD, .int .u64 aI, .int .u64 aJ, .int .i64 aK, .int .i64 aL] 35 (0, 0))) ∧ A0d (wc.heap[aO]? = some (.cells #[.int .i64 ay, .int .u64 aw] 42 (0, 0))) ∧ A0d (wc.heap[aP]? = some (.cells #[.int .u64 aE, .int .i64 aF, .int .i64 aG] 33 (0, 0))) ∧ A0d (wc.heap[aB]? = some (.cells #[.int .i64 0, .int .i64 0, .int .i64 0, .int .u64 0, .int .u64 0, .int .u64 0, .int .i64 0, .int .i64 0] 35 (0, 0))) ∧ A0d (wc.heap[aQ]? = some (.cells #[.int .i64 (wrap64 (av + 1)), .int .i64 ay, .int .i64 0, .int .u64 aw, .int .u64 0, .int .u64 0, .int .i64 0, .int .i64 0] 35 (0, 0))) ∧ A0d (Below w.heap.size w wc))
 case first =>
  have H := fL.out; clear fL; have H' := ak H; clear H; have gs := az.out; have gu := a1.out; have gv := a2.out; have gw := a3.out; have gx := ah.out; have gy := ai.out; have gz := af.out; have g0 := ag.out; obtain ⟨bC, bD, bE, bF, bG, bH, bI, bJ⟩ := kc8 aa; obtain ⟨bK, bL, bM, bN, bO, bP, bQ, bR⟩ := kf8 aa
  go_wp2
  go_meet
  case rel => exact ⟨_, ((av == 0)), kE, H', ⟨by first | omega | exact Nat.le_refl _⟩, ⟨(kb aa)⟩, ⟨(kb ac)⟩, ⟨(kb ax)⟩, ⟨(kb ad)⟩, ⟨(kb ae)⟩, ⟨(kl HB)⟩⟩
 case rest =>
  clear fL; obtain ⟨kq, aM, rfl, HA, g1, aa, ac, ax, ad, ae, HB⟩ := hcut
  cases kq with
  | zero => exact absurd HA.out (by simp [A02.j0])
  | succ g2 =>
   have H := HA.out; clear HA; simp only [A02.j0] at H
   by_cases bS : aM = true
   ·subst bS
    rw [if_pos rfl] at H
    by_cases aT : a0 = 1
    ·rw [if_pos aT] at H; obtain ⟨aU, aV⟩ := kqT aT; clear aT; have aR := ak H; clear H
     go_upto_region 4 with (fail)
     go_cut [] (fun wc => ∃ (kq : Nat) (a6 : Int) (a7 : Int) (a8 : Int), A0d (A02.j1 kq (wrap64 (av + 1)) ay 0 aw 0 a6 a7 a8 = some (r1, r2, r3, r4, r5, r6, r7, r8)) ∧ A0d (kq ≤ g2) ∧ A0d (wc.heap[aN]? = some (.cells #[.int .i64 av, .int .i64 aC, .int .i64 aH, .int .u64 aD, .int .u64 aI, .int .u64 aJ, .int .i64 aK, .int .i64 aL] 35 (0, 0))) ∧ A0d (wc.heap[aO]? = some (.cells #[.int .i64 ay, .int .u64 aw] 42 (0, 0))) ∧ A0d (wc.heap[aP]? = some (.cells #[.int .u64 aE, .int .i64 aF, .int .i64 aG] 33 (0, 0))) ∧ A0d (wc.heap[aB]? = some (.cells #[.int .i64 0, .int .i64 0, .int .i64 0, .int .u64 0, .int .u64 0, .int .u64 0, .int .i64 0, .int .i64 0] 35 (0, 0))) ∧ A0d (wc.heap[aQ]? = some (.cells #[.int .i64 (wrap64 (av + 1)), .int .i64 ay, .int .i64 0, .int .u64 aw, .int .u64 0, .int .u64 a6, .int .i64 a7, .int .i64 a8] 35 (0, 0))) ∧ A0d (Below w.heap.size w wc))
     case first =>
      have H := aR.out; clear aR; have H' := ak H; clear H; have g3 := a1.out; have g4 := az.out; have g5 := a4.out; have g6 := a5.out; have g7 := aj.out; have g8 := al.out; have g9 := am.out; have gA := an.out; obtain ⟨bT, bU⟩ := kc2 ac; obtain ⟨bV, bW⟩ := kf2 ac; have gB := ag.out; have gC := af.out; have gD := ap.out; have gE := ao.out; have gF := ar.out; have gG := aq.out; obtain ⟨bX, bY, bZ, ca, cc, cd, ce, cf⟩ := kc8 ae; obtain ⟨cg, ch, ci, cj, ck, cm, co, cp⟩ := kf8 ae
      go_wp2
      go_meet
      case rel => exact ⟨_, (aw), (0), (0), H', ⟨by have := g1.out; first | omega | exact Nat.le_refl _⟩, ⟨(kb aa)⟩, ⟨(kb ac)⟩, ⟨(kb ax)⟩, ⟨(kb ad)⟩, ⟨(kb ae)⟩, ⟨(kl HB)⟩⟩
     case rest =>
      clear aR; obtain ⟨kq, a6, a7, a8, HA, ix, aa, ac, ax, ad, ae, HB⟩ := hcut
      cases kq with
      | zero => exact absurd HA.out (by simp [A02.j1])
      | succ iy =>
       have H := HA.out; clear HA; simp only [A02.j1] at H; simp only [Option.some.injEq, Prod.mk.injEq] at H; obtain ⟨rfl, rfl, rfl, rfl, rfl, rfl, rfl, rfl⟩ := H; have gH := ag.out; have gI := af.out; have gJ := an.out; have gK := am.out; have gL := ap.out; have gM := ao.out; have gN := ar.out; have gO := aq.out; obtain ⟨cq, cr, cs, ct, cu, cv, cw, cx⟩ := kc8 ae; obtain ⟨cy, cz, cA, cB, cC, cD, cE, cF⟩ := kf8 ae; have gP := ai.out; have gQ := ah.out; have gR := al.out; have gS := aj.out; have gT := aA.out; have gU := a9.out; obtain ⟨cG, cH, cI, cJ, cK, cL, cM, cN⟩ := kc8 ad; obtain ⟨cO, cP, cQ, cR, cS, cT, cU, cV⟩ := kf8 ad
       go_wp2
       refine bodyPost_ret (results_cell_row rfl _ _ aB 35 #[.int .i64 (wrap64 (av + 1)), .int .i64 ay, .int .i64 0, .int .u64 aw, .int .u64 0, .int .u64 a6, .int .i64 a7, .int .i64 a8] (0, 0) _ rfl (kb ad) Tryd.underlying35 rfl (by kernel_rfl)) rfl ?_
       exact ⟨kF, (kl HB)⟩
    ·rw [if_neg aT] at H; obtain ⟨aU, aV⟩ := kqF aT; simp only [Option.some.injEq, Prod.mk.injEq] at H; obtain ⟨rfl, rfl, rfl, rfl, rfl, rfl, rfl, rfl⟩ := H; have gV := ag.out; have gW := af.out; have gX := an.out; have gY := am.out; have gZ := ap.out; have ha := ao.out; have hc := ar.out; have he := aq.out; obtain ⟨cW, cX, cY, cZ, da, db, dc, dd⟩ := kc8 ae; obtain ⟨de, df, dg, dh, di, dj, dk, dl⟩ := kf8 ae; have hf := ai.out; have hh := ah.out; have hi := al.out; have hl := aj.out; have hm := aA.out; have hn := a9.out; obtain ⟨dm, dn, dp, dq, dr, ds, du, dw⟩ := kc8 ad; obtain ⟨dz, d0, d5, d6, d7, d8, d9, dA⟩ := kf8 ad
     go_wp2
     refine bodyPost_ret (results_cell_row rfl _ _ aB 35 #[.int .i64 (wrap64 (av + 1)), .int .i64 ay, .int .i64 0, .int .u64 aw, .int .u64 0, .int .u64 0, .int .i64 0, .int .i64 0] (0, 0) _ rfl (kb ad) Tryd.underlying35 rfl (by kernel_rfl)) rfl ?_
     exact ⟨kF, (kl HB)⟩
   ·replace bS := Bool.eq_false_iff.mpr bS; subst bS
    rw [if_neg (show ¬ (false = true) by decide)] at H; have aS := ak H; clear H
    go_upto_region 6 with (fail)
    go_cut [] (fun wc => ∃ (kq : Nat) (au : Int), A0d (A02.j2 kq a0 av aC aH aD aI aJ aK aL ay aw aE aF aG (wrap64 (av + 1)) ay au aw 0 0 0 0 = some (r1, r2, r3, r4, r5, r6, r7, r8)) ∧ A0d (kq ≤ g2) ∧ A0d (wc.heap[aN]? = some (.cells #[.int .i64 av, .int .i64 aC, .int .i64 aH, .int .u64 aD, .int .u64 aI, .int .u64 aJ, .int .i64 aK, .int .i64 aL] 35 (0, 0))) ∧ A0d (wc.heap[aO]? = some (.cells #[.int .i64 ay, .int .u64 aw] 42 (0, 0))) ∧ A0d (wc.heap[aP]? = some (.cells #[.int .u64 aE, .int .i64 aF, .int .i64 aG] 33 (0, 0))) ∧ A0d (wc.heap[aB]? = some (.cells #[.int .i64 0, .int .i64 0, .int .i64 0, .int .u64 0, .int .u64 0, .int .u64 0, .int .i64 0, .int .i64 0] 35 (0, 0))) ∧ A0d (wc.heap[aQ]? = some (.cells #[.int .i64 (wrap64 (av + 1)), .int .i64 ay, .int .i64 au, .int .u64 aw, .int .u64 0, .int .u64 0, .int .i64 0, .int .i64 0] 35 (0, 0))) ∧ A0d (Below w.heap.size w wc))
    case first =>
     have H := aS.out; clear aS; have H' := ak H; clear H; have hp := a1.out; have hq := az.out; have hs := a4.out; have ht := a5.out; have hu := aj.out; have hv := al.out; have hw := am.out; have hx := an.out; obtain ⟨dB, dC⟩ := kc2 ac; obtain ⟨dD, dE⟩ := kf2 ac; have hy := a2.out; have hz := a3.out; have h6 := ah.out; have h7 := ai.out; have h8 := af.out; have h9 := ag.out; obtain ⟨dF, dG, dH, dI, dJ, dK, dL, dM⟩ := kc8 aa; obtain ⟨dN, dO, dP, dQ, dR, dS, dT, dU⟩ := kf8 aa; have hA := ap.out; have hB := ao.out; have hC := ar.out; have hD := aq.out; obtain ⟨dV, dW, dX, dY, dZ, ea, eb, ec⟩ := kc8 ae; obtain ⟨ed, ee, ef, eg, eh, ei, ej, ek⟩ := kf8 ae
     go_wp2
     go_meet
     case rel => exact ⟨_, (wrap64 (IntKind.u64.wrap ((IntKind.u64.wrap (ay)) - (IntKind.u64.wrap (aC))))), H', ⟨by have := g1.out; first | omega | exact Nat.le_refl _⟩, ⟨(kb aa)⟩, ⟨(kb ac)⟩, ⟨(kb ax)⟩, ⟨(kb ad)⟩, ⟨(kb ae)⟩, ⟨(kl HB)⟩⟩
    case rest =>
     clear aS; 
     obtain ⟨kq, au, HA, iz, aa, ac, ax, ad, ae, HB⟩ := hcut
     cases kq with
     | zero => exact absurd HA.out (by simp [A02.j2])
     | succ i0 =>
      have H := HA.out; clear HA; simp only [A02.j2] at H
      by_cases aW : a0 = 1
      ·rw [if_pos aW] at H; obtain ⟨aX, aY⟩ := kqT aW; clear aW; simp only [Option.some.injEq, Prod.mk.injEq] at H; obtain ⟨rfl, rfl, rfl, rfl, rfl, rfl, rfl, rfl⟩ := H; have hE := a3.out; have hF := a2.out; have hG := a5.out; have hH := a4.out; have hI := a9.out; have hJ := aA.out; have hK := ao.out; have hL := ap.out; obtain ⟨el, em, en⟩ := kc3 ax; obtain ⟨eo, ep, er⟩ := kf3 ax; have hM := ag.out; have hN := af.out; have hO := an.out; have hP := am.out; have hQ := ar.out; have hR := aq.out; obtain ⟨et, eu, ev, ew, ex, ey, ez, e0⟩ := kc8 ae; obtain ⟨e4, e5, e6, e7, e8, e9, eA, eB⟩ := kf8 ae; have hS := ai.out; have hT := ah.out; have hU := al.out; have hV := aj.out; obtain ⟨eC, eD, eE, eF, eG, eH, eI, eJ⟩ := kc8 ad; obtain ⟨eK, eL, eM, eN, eO, eP, eQ, eR⟩ := kf8 ad
       go_wp2
       refine bodyPost_ret (results_cell_row rfl _ _ aB 35 #[.int .i64 (wrap64 (av + 1)), .int .i64 ay, .int .i64 au, .int .u64 aw, .int .u64 0, .int .u64 aE, .int .i64 aF, .int .i64 aG] (0, 0) _ rfl (kb ad) Tryd.underlying35 rfl (by kernel_rfl)) rfl ?_
       exact ⟨kF, (kl HB)⟩
      ·rw [if_neg aW] at H; obtain ⟨aX, aY⟩ := kqF aW; simp only [Option.some.injEq, Prod.mk.injEq] at H; obtain ⟨rfl, rfl, rfl, rfl, rfl, rfl, rfl, rfl⟩ := H; have hW := a1.out; have hX := az.out; have hY := a4.out; have hZ := a5.out; have ia := aj.out; have ib := al.out; have ic := am.out; have ie := an.out; obtain ⟨eS, eT⟩ := kc2 ac; obtain ⟨eU, eV⟩ := kf2 ac; have ig := a2.out; have ii := a3.out; have ij := ah.out; have ik := ai.out; have il := af.out; have im := ag.out; obtain ⟨eW, eX, eY, eZ, fa, fb, fc, fd⟩ := kc8 aa; obtain ⟨fe, ff, fg, fh, fi, fj, fk, fl⟩ := kf8 aa; have io := ap.out; have ip := ao.out; have iq := ar.out; have ir := aq.out; obtain ⟨fm, fo, fp, fq, fs, ft, fu, fv⟩ := kc8 ae; obtain ⟨fw, fx, fy, fz, f0, f2, f3, f4⟩ := kf8 ae; have iu := aA.out; have iv := a9.out; obtain ⟨f5, f6, f7, f8, f9, fA, fB, fC⟩ := kc8 ad; obtain ⟨fD, fE, fF, fG, fH, fI, fJ, fK⟩ := kf8 ad
       go_wp2
       refine bodyPost_ret (results_cell_row rfl _ _ aB 35 #[.int .i64 (wrap64 (av + 1)), .int .i64 ay, .int .i64 au, .int .u64 aw, .int .u64 (IntKind.u64.wrap (aw - aD)), .int .u64 0, .int .i64 0, .int .i64 0] (0, 0) _ rfl (kb ad) Tryd.underlying35 rfl (by kernel_rfl)) rfl ?_
       exact ⟨kF, (kl HB)⟩
end Go.Proofs.YtodocfjbpkicgaaDoor.All
end
section
namespace Go.Proofs.YtodocfjbpkicgaaDoor.All
open Go.RowKit Go.Proofs.YtodocfjbpkicgaaDoorW.PrintWords Go.Proofs.YtodocfjbpkicgaaDoorW.PrintLast Go.Proofs.YtodocfjbpkicgaaDoorW.PrintMore
attribute [local go_sem] A2g A2h A2v A2w A15 A16 A2i A2j
set_option linter.unusedVariables false
set_option linter.unusedSimpArgs false
def A3s.f (aa : Int) (a0_1 : Int) (ac : Int) : Option (Int × Int × Int) := some (aa, a0_1, ac)
set_option maxHeartbeats 8000000 in
set_option maxRecDepth 100000 in
theorem A3s.calls (ae : Int) (a0_1 : Int) (af : Int) (r1 : Int) (r2 : Int) (r3 : Int) (w : World) (h : A3s.f ae a0_1 af = some (r1, r2, r3)) :
  Calls Tryd.prog 49 #[.agg #[.int .u64 ae, .int .i64 a0_1, .int .i64 af]] w fun e w' => e = .returned (.agg #[.int .u64 r1, .int .i64 r2, .int .i64 r3]) ∧ Below w.heap.size w w' := by
 have hu30 := Tryd.underlying30; have hu33 := Tryd.underlying33; have HB := ak (Below.refl w.heap.size w); have H : (some (ae, a0_1, af)) = some (r1, r2, r3) := h; clear h; simp only [Option.some.injEq, Prod.mk.injEq] at H; obtain ⟨rfl, rfl, rfl⟩ := H
 go_enter Tryd.func49, Tryd.ntmps49
 go_wp2_with (first | ((with_reducible refine A0v (N := 1) rfl ?_); refine bxe 1 #[.int .u64 ae, .int .i64 a0_1, .int .i64 af] 30 (h := ?_); intro ax hg w2 hbox hb; have aa := ak (hbox); have ay := kG hg HB; have az := kG hg HB; replace HB := kH HB hb; clear hb hbox hg) | ((with_reducible refine A0v (N := 2) rfl ?_); refine bxe 2 #[.int .u64 0, .int .i64 0, .int .i64 0] 33 (h := ?_); intro ah hg w3 hbox hb; have ag := ak (hbox); have a1 := kG hg HB; have a2 := kG hg HB; replace HB := kH HB hb; obtain ⟨ac, ad⟩ := kN hg aa; replace aa := kB aa hb; clear hb hbox hg; have a3 := ac.out; have a4 := ad.out; obtain ⟨ai, aj, al⟩ := kc3 aa; obtain ⟨am, an, ao⟩ := kf3 aa; obtain ⟨ap, aq, ar⟩ := kc3 ag; obtain ⟨au, av, aw⟩ := kf3 ag))
 refine bodyPost_ret (results_cell_row rfl _ _ ah 33 #[.int .u64 ae, .int .i64 a0_1, .int .i64 af] (0, 0) _ rfl (kb ag) Tryd.underlying33 rfl (by kernel_rfl)) rfl ?_
 exact ⟨kF, (kl HB)⟩
end Go.Proofs.YtodocfjbpkicgaaDoor.All
end
section
namespace Go.Proofs.YtodocfjbpkicgaaDoor.All
open Go.RowKit Go.Proofs.YtodocfjbpkicgaaDoorW.PrintWords Go.Proofs.YtodocfjbpkicgaaDoorW.PrintLast Go.Proofs.YtodocfjbpkicgaaDoorW.PrintMore
attribute [local go_sem] A2g A2h A2v A2w A15 A16 A2i A2j
set_option linter.unusedVariables false
set_option linter.unusedSimpArgs false
mutual
def A2d.j0 : Nat → List Int → Int → Int → Bool → Option (Int × Bool)
 | 0, _, _, _, _ => none
 | k + 1, x0, x1, x2, aa => if aa = true then (some (0, false)) else (A2d.l0 k x0 x1 x2 0 x1)
def A2d.l0 : Nat → List Int → Int → Int → Int → Int → Option (Int × Bool)
 | 0, _, _, _, _, _ => none
 | k + 1, x0, x1, x2, x8, x9 => if x9 < (wrap64 (x1 + x2)) then (if 0 ≤ (wrap64 (Int.tdiv x9 8)) then (if (wrap64 (Int.tdiv x9 8)) < (x0.length : Int) then (if 0 ≤ (wrap64 (7 - (Int.tmod x9 8))) then (A2d.l0 k x0 x1 x2 (Go.bits .or .u64 (IntKind.u64.wrap (x8 * 2)) (IntKind.u64.wrap (Go.bits .and .u8 (shr .u8 (rd x0 (wrap64 (Int.tdiv x9 8))) (wrap64 (7 - (Int.tmod x9 8)))) 1))) (wrap64 (x9 + 1))) else (none)) else (none)) else (none)) else (some (x8, true))
end
def A2d.f (k : Nat) (l0 : List Int) (a1 : Int) (a2 : Int) : Option (Int × Bool) := if a2 < 0 then (A2d.j0 k l0 a1 a2 true) else (if a2 > 64 then (A2d.j0 k l0 a1 a2 true) else (if a1 < 0 then (A2d.j0 k l0 a1 a2 true) else (if a1 > (wrap64 (8 * (l0.length : Int))) then (A2d.j0 k l0 a1 a2 true) else (A2d.j0 k l0 a1 a2 (decide (a2 > (wrap64 ((wrap64 (8 * (l0.length : Int))) - a1))))))))
end Go.Proofs.YtodocfjbpkicgaaDoor.All
end
