-- copied by a program of the session
import Derived.Test.YtiahbcaoikoogabDoorKqAllx14
namespace Go.Proofs.YtiahbcaoikoogabDoor.All
open Go.RowKit Go.Proofs.YtiahbcaoikoogabDoorW.PrintWords Go.Proofs.YtiahbcaoikoogabDoorW.PrintLast Go.Proofs.YtiahbcaoikoogabDoorW.PrintMore
attribute [local go_sem] A2i A2j A2v A2w A14 A15 A2k A2l
set_option linter.unusedVariables false
set_option linter.unusedSimpArgs false
mutual
def A07.j0 : Nat → Int → Bool → Int → Int → Int → Int → Int → Int → Int → Int → Int → Int → Int → Int → Int → Int → Int → Int → Int → Int → Int → Int → Int → Option (Int × Int × Int × Int × Int × Int × Int × Int)
 | 0, _, _, _, _, _, _, _, _, _, _, _, _, _, _, _, _, _, _, _, _, _, _, _ => none
 | k + 1, x0, az, an, af, ao, ap, aq, ar, au, av, ag, ah, aw, ax, ay, aa, ac, ai, ad, ae, aj, al, am => if az = true then (if x0 = 1 then (A07.j1 k aa ac ai ad ae ah 0 0) else (some (aa, ac, ai, ad, ae, aj, al, am))) else (A07.j2 k x0 an af ao ap aq ar au av ag ah aw ax ay aa ac (wrap64 (IntKind.u64.wrap ((IntKind.u64.wrap (ag)) - (IntKind.u64.wrap (af))))) ad ae aj al am)
def A07.j1 : Nat → Int → Int → Int → Int → Int → Int → Int → Int → Option (Int × Int × Int × Int × Int × Int × Int × Int)
 | 0, _, _, _, _, _, _, _, _ => none
 | k + 1, aa, ac, ad, ae, af, ag, ah, ai => some (aa, ac, ad, ae, af, ag, ah, ai)
def A07.j2 : Nat → Int → Int → Int → Int → Int → Int → Int → Int → Int → Int → Int → Int → Int → Int → Int → Int → Int → Int → Int → Int → Int → Int → Option (Int × Int × Int × Int × Int × Int × Int × Int)
 | 0, _, _, _, _, _, _, _, _, _, _, _, _, _, _, _, _, _, _, _, _, _, _ => none
 | k + 1, x0, ap, aq, ar, af, au, av, aw, ax, ay, ag, ah, ai, aj, aa, ac, ad, ae, al, am, an, ao => if x0 = 1 then (some (aa, ac, ad, ae, al, ah, ai, aj)) else (some (aa, ac, ad, ae, IntKind.u64.wrap (ag - af), am, an, ao))
end
def A07.f (k : Nat) (a0 : Int) (aa : Int) (ae : Int) (af : Int) (ag : Int) (ah : Int) (ai : Int) (aj : Int) (al : Int) (ac : Int) (ad : Int) (am : Int) (an : Int) (ao : Int) : Option (Int × Int × Int × Int × Int × Int × Int × Int) := A07.j0 k a0 (aa == 0) aa ae af ag ah ai aj al ac ad am an ao (wrap64 (aa + 1)) ac 0 ad 0 0 0 0
set_option maxHeartbeats 8000000 in
set_option maxRecDepth 100000 in
theorem A07.calls (k : Nat) (a0 : Int) (av : Int) (aC : Int) (aH : Int) (aD : Int) (aI : Int) (aJ : Int) (aK : Int) (aL : Int) (ay : Int) (aw : Int) (aE : Int) (aF : Int) (aG : Int) (r1 : Int) (r2 : Int) (r3 : Int) (r4 : Int) (r5 : Int) (r6 : Int) (r7 : Int) (r8 : Int) (w : World) (h : A07.f k a0 av aC aH aD aI aJ aK aL ay aw aE aF aG = some (r1, r2, r3, r4, r5, r6, r7, r8)) :
  Calls Tryd.prog 40 #[.int .i64 a0, .agg #[.int .i64 av, .int .i64 aC, .int .i64 aH, .int .u64 aD, .int .u64 aI, .int .u64 aJ, .int .i64 aK, .int .i64 aL], .agg #[.int .i64 ay, .int .u64 aw], .agg #[.int .u64 aE, .int .i64 aF, .int .i64 aG]] w fun e w' => e = .returned (.agg #[.int .i64 r1, .int .i64 r2, .int .i64 r3, .int .u64 r4, .int .u64 r5, .int .u64 r6, .int .i64 r7, .int .i64 r8]) ∧ Below w.heap.size w w' := by
 have hu66 := Tryd.underlying66; have hu48 := Tryd.underlying48; have hu64 := Tryd.underlying64; have HB := ak (Below.refl w.heap.size w); have H : (A07.j0 k a0 (av == 0) av aC aH aD aI aJ aK aL ay aw aE aF aG (wrap64 (av + 1)) ay 0 aw 0 0 0 0) = some (r1, r2, r3, r4, r5, r6, r7, r8) := h; clear h; have fM := ak H; clear H
 go_enter Tryd.func40, Tryd.ntmps40
 go_upto_region 2 with (first | ((with_reducible refine A0u (N := 5) rfl ?_); refine bxe 5 #[.int .i64 av, .int .i64 aC, .int .i64 aH, .int .u64 aD, .int .u64 aI, .int .u64 aJ, .int .i64 aK, .int .i64 aL] 66 (h := ?_); intro b0 hg w6 hbox hb; have aa := ak (hbox); have fN := kG hg HB; have fO := kG hg HB; replace HB := kH HB hb; clear hb hbox hg) | ((with_reducible refine A0u (N := 6) rfl ?_); refine bxe 6 #[.int .i64 ay, .int .u64 aw] 48 (h := ?_); intro b1 hg w7 hbox hb; have ac := ak (hbox); have fP := kG hg HB; have fQ := kG hg HB; replace HB := kH HB hb; obtain ⟨az, a1⟩ := kN hg aa; replace aa := kB aa hb; clear hb hbox hg) | ((with_reducible refine A0u (N := 7) rfl ?_); refine bxe 7 #[.int .u64 aE, .int .i64 aF, .int .i64 aG] 64 (h := ?_); intro b2 hg w8 hbox hb; have ax := ak (hbox); have fR := kG hg HB; have fS := kG hg HB; replace HB := kH HB hb; obtain ⟨a2, a3⟩ := kN hg aa; replace aa := kB aa hb; obtain ⟨a4, a5⟩ := kN hg ac; replace ac := kB ac hb; clear hb hbox hg) | ((with_reducible refine A0u (N := 8) rfl ?_); refine bxe 8 #[.int .i64 0, .int .i64 0, .int .i64 0, .int .u64 0, .int .u64 0, .int .u64 0, .int .i64 0, .int .i64 0] 66 (h := ?_); intro aB hg w9 hbox hb; have ad := ak (hbox); have fT := kG hg HB; have fU := kG hg HB; replace HB := kH HB hb; obtain ⟨ah, ai⟩ := kN hg aa; replace aa := kB aa hb; obtain ⟨aj, al⟩ := kN hg ac; replace ac := kB ac hb; obtain ⟨a9, aA⟩ := kN hg ax; replace ax := kB ax hb; clear hb hbox hg; have fV := az.out; have fW := a1.out; have fX := a2.out; have fY := a3.out; have fZ := ah.out; have ga := ai.out; obtain ⟨aM, aN, aO, aP, aQ, aR, aS, aT⟩ := kc8 aa; obtain ⟨aU, aV, aW, aX, aY, aZ, ba, bb⟩ := kf8 aa; have gb := a4.out; have gc := a5.out; have gf := aj.out; have gg := al.out; obtain ⟨bc, be⟩ := kc2 ac; obtain ⟨bf, bg⟩ := kf2 ac) | ((with_reducible refine A0u (N := 9) rfl ?_); refine bxe 9 #[.int .i64 0, .int .i64 0, .int .i64 0, .int .u64 0, .int .u64 0, .int .u64 0, .int .i64 0, .int .i64 0] 66 (h := ?_); intro b3 hg i3 hbox hb; have ae := ak (hbox); have gh := kG hg HB; have gj := kG hg HB; replace HB := kH HB hb; obtain ⟨af, ag⟩ := kN hg aa; replace aa := kB aa hb; obtain ⟨am, an⟩ := kN hg ac; replace ac := kB ac hb; obtain ⟨ao, ap⟩ := kN hg ax; replace ax := kB ax hb; obtain ⟨aq, ar⟩ := kN hg ad; replace ad := kB ad hb; clear hb hbox hg; have gk := ag.out; have gl := af.out; have gm := an.out; have gn := am.out; have gp := ap.out; have gq := ao.out; have gr := ar.out; have gs := aq.out; obtain ⟨bh, bi, bj, bk, bm, bn, bo, bp⟩ := kc8 ae; obtain ⟨bq, br, bs, bt, bu, bv, bw, bx⟩ := kf8 ae))
 (try simp only [Act.put, List.setIfInBounds_toArray, List.set_cons_zero, List.set_cons_succ])
 go_cut [20] (fun ix wc => ∃ (kq : Nat) (bz : Bool), ix = .bool bz ∧ A0e (A07.j0 kq a0 bz av aC aH aD aI aJ aK aL ay aw aE aF aG (wrap64 (av + 1)) ay 0 aw 0 0 0 0 = some (r1, r2, r3, r4, r5, r6, r7, r8)) ∧ A0e (kq ≤ k) ∧ A0e (wc.heap[b0]? = some (.cells #[.int .i64 av, .int .i64 aC, .int .i64 aH, .int .u64 aD, .int .u64 aI, .int .u64 aJ, .int .i64 aK, .int .i64 aL] 66 (0, 0))) ∧ A0e (wc.heap[b1]? = some (.cells #[.int .i64 ay, .int .u64 aw] 48 (0, 0))) ∧ A0e (wc.heap[b2]? = some (.cells #[.int .u64 aE, .int .i64 aF, .int .i64 aG] 64 (0, 0))) ∧ A0e (wc.heap[aB]? = some (.cells #[.int .i64 0, .int .i64 0, .int .i64 0, .int .u64 0, .int .u64 0, .int .u64 0, .int .i64 0, .int .i64 0] 66 (0, 0))) ∧ A0e (wc.heap[b3]? = some (.cells #[.int .i64 (wrap64 (av + 1)), .int .i64 ay, .int .i64 0, .int .u64 aw, .int .u64 0, .int .u64 0, .int .i64 0, .int .i64 0] 66 (0, 0))) ∧ A0e (Below w.heap.size w wc))
 case first =>
  have H := fM.out; clear fM; have H' := ak H; clear H; have gu := az.out; have gv := a1.out; have gw := a2.out; have gx := a3.out; have gy := ah.out; have gz := ai.out; have g0 := af.out; have g1 := ag.out; obtain ⟨bD, bE, bF, bG, bH, bI, bJ, bK⟩ := kc8 aa; obtain ⟨bL, bM, bN, bO, bP, bQ, bR, bS⟩ := kf8 aa
  go_wp2
  go_meet
  case rel => exact ⟨_, ((av == 0)), kE, H', ⟨by first | omega | exact Nat.le_refl _⟩, ⟨(kb aa)⟩, ⟨(kb ac)⟩, ⟨(kb ax)⟩, ⟨(kb ad)⟩, ⟨(kb ae)⟩, ⟨(kl HB)⟩⟩
 case rest =>
  clear fM; (try clear aM); (try clear aN); (try clear aO); (try clear aP); (try clear aQ); (try clear aR); (try clear aS); (try clear aT); (try clear bc); (try clear be); (try clear bh); (try clear bi); (try clear bj); (try clear bk); (try clear bm); (try clear bn); (try clear bo); (try clear bp); (try clear aU); (try clear aV); (try clear aW); (try clear aX); (try clear aY); (try clear aZ); (try clear ba); (try clear bb); (try clear bf); (try clear bg); (try clear bq); (try clear br); (try clear bs); (try clear bt); (try clear bu); (try clear bv); (try clear bw); (try clear bx); obtain ⟨kq, bz, rfl, HA, g2, aa, ac, ax, ad, ae, HB⟩ := hcut
  cases kq with
  | zero => exact absurd HA.out (by simp [A07.j0])
  | succ g3 =>
   have H := HA.out; clear HA; simp only [A07.j0] at H
   by_cases b8 : bz = true
   ·subst b8
    rw [if_pos rfl] at H
    by_cases b9 : a0 = 1
    ·rw [if_pos b9] at H; obtain ⟨b4, b5⟩ := kqT b9; clear b9; have b6 := ak H; clear H
     go_upto_region 4 with (fail)
     go_cut [] (fun wc => ∃ (kq : Nat) (a6 : Int) (a7 : Int) (a8 : Int), A0e (A07.j1 kq (wrap64 (av + 1)) ay 0 aw 0 a6 a7 a8 = some (r1, r2, r3, r4, r5, r6, r7, r8)) ∧ A0e (kq ≤ g3) ∧ A0e (wc.heap[b0]? = some (.cells #[.int .i64 av, .int .i64 aC, .int .i64 aH, .int .u64 aD, .int .u64 aI, .int .u64 aJ, .int .i64 aK, .int .i64 aL] 66 (0, 0))) ∧ A0e (wc.heap[b1]? = some (.cells #[.int .i64 ay, .int .u64 aw] 48 (0, 0))) ∧ A0e (wc.heap[b2]? = some (.cells #[.int .u64 aE, .int .i64 aF, .int .i64 aG] 64 (0, 0))) ∧ A0e (wc.heap[aB]? = some (.cells #[.int .i64 0, .int .i64 0, .int .i64 0, .int .u64 0, .int .u64 0, .int .u64 0, .int .i64 0, .int .i64 0] 66 (0, 0))) ∧ A0e (wc.heap[b3]? = some (.cells #[.int .i64 (wrap64 (av + 1)), .int .i64 ay, .int .i64 0, .int .u64 aw, .int .u64 0, .int .u64 a6, .int .i64 a7, .int .i64 a8] 66 (0, 0))) ∧ A0e (Below w.heap.size w wc))
     case first =>
      have H := b6.out; clear b6; have H' := ak H; clear H; have g4 := a1.out; have g5 := az.out; have g6 := a4.out; have g7 := a5.out; have g8 := aj.out; have g9 := al.out; have gA := am.out; have gB := an.out; obtain ⟨bT, bU⟩ := kc2 ac; obtain ⟨bV, bW⟩ := kf2 ac; have gC := ag.out; have gD := af.out; have gE := ap.out; have gF := ao.out; have gG := ar.out; have gH := aq.out; obtain ⟨bX, bY, bZ, ca, cc, cd, ce, cf⟩ := kc8 ae; obtain ⟨cg, ch, ci, cj, ck, cm, co, cp⟩ := kf8 ae
      go_wp2
      go_meet
      case rel => exact ⟨_, (aw), (0), (0), H', ⟨by have := g2.out; first | omega | exact Nat.le_refl _⟩, ⟨(kb aa)⟩, ⟨(kb ac)⟩, ⟨(kb ax)⟩, ⟨(kb ad)⟩, ⟨(kb ae)⟩, ⟨(kl HB)⟩⟩
     case rest =>
      clear b6; (try clear b8); (try clear b9); (try clear b4); (try clear b5); (try clear aM); (try clear aN); (try clear aO); (try clear aP); (try clear aQ); (try clear aR); (try clear aS); (try clear aT); (try clear bc); (try clear be); (try clear bh); (try clear bi); (try clear bj); (try clear bk); (try clear bm); (try clear bn); (try clear bo); (try clear bp); (try clear aU); (try clear aV); (try clear aW); (try clear aX); (try clear aY); (try clear aZ); (try clear ba); (try clear bb); (try clear bf); (try clear bg); (try clear bq); (try clear br); (try clear bs); (try clear bt); (try clear bu); (try clear bv); (try clear bw); (try clear bx); obtain ⟨kq, a6, a7, a8, HA, iy, aa, ac, ax, ad, ae, HB⟩ := hcut
      cases kq with
      | zero => exact absurd HA.out (by simp [A07.j1])
      | succ iz =>
       have H := HA.out; clear HA; simp only [A07.j1] at H; simp only [Option.some.injEq, Prod.mk.injEq] at H; obtain ⟨rfl, rfl, rfl, rfl, rfl, rfl, rfl, rfl⟩ := H; have gI := ag.out; have gJ := af.out; have gK := an.out; have gL := am.out; have gM := ap.out; have gN := ao.out; have gO := ar.out; have gP := aq.out; obtain ⟨cq, cr, cs, ct, cu, cv, cw, cx⟩ := kc8 ae; obtain ⟨cy, cz, cA, cB, cC, cD, cE, cF⟩ := kf8 ae; have gQ := ai.out; have gR := ah.out; have gS := al.out; have gT := aj.out; have gU := aA.out; have gV := a9.out; obtain ⟨cG, cH, cI, cJ, cK, cL, cM, cN⟩ := kc8 ad; obtain ⟨cO, cP, cQ, cR, cS, cT, cU, cV⟩ := kf8 ad
       go_wp2
       refine bodyPost_ret (results_cell_row rfl _ _ aB 66 #[.int .i64 (wrap64 (av + 1)), .int .i64 ay, .int .i64 0, .int .u64 aw, .int .u64 0, .int .u64 a6, .int .i64 a7, .int .i64 a8] (0, 0) _ rfl (kb ad) Tryd.underlying66 rfl (by kernel_rfl)) rfl ?_
       exact ⟨kF, (kl HB)⟩
    ·rw [if_neg b9] at H; obtain ⟨b4, b5⟩ := kqF b9; simp only [Option.some.injEq, Prod.mk.injEq] at H; obtain ⟨rfl, rfl, rfl, rfl, rfl, rfl, rfl, rfl⟩ := H; have gW := ag.out; have gX := af.out; have gY := an.out; have gZ := am.out; have ha := ap.out; have hc := ao.out; have he := ar.out; have hf := aq.out; obtain ⟨cW, cX, cY, cZ, da, db, dc, dd⟩ := kc8 ae; obtain ⟨de, df, dg, dh, di, dj, dk, dl⟩ := kf8 ae; have hh := ai.out; have hi := ah.out; have hl := al.out; have hm := aj.out; have hn := aA.out; have hp := a9.out; obtain ⟨dm, dn, dp, dq, dr, ds, du, dw⟩ := kc8 ad; obtain ⟨dz, d0, d5, d6, d7, d8, d9, dA⟩ := kf8 ad
     go_wp2
     refine bodyPost_ret (results_cell_row rfl _ _ aB 66 #[.int .i64 (wrap64 (av + 1)), .int .i64 ay, .int .i64 0, .int .u64 aw, .int .u64 0, .int .u64 0, .int .i64 0, .int .i64 0] (0, 0) _ rfl (kb ad) Tryd.underlying66 rfl (by kernel_rfl)) rfl ?_
     exact ⟨kF, (kl HB)⟩
   ·replace b8 := Bool.eq_false_iff.mpr b8; subst b8
    rw [if_neg (show ¬ (false = true) by decide)] at H; have b7 := ak H; clear H
    go_upto_region 6 with (fail)
    go_cut [] (fun wc => ∃ (kq : Nat) (au : Int), A0e (A07.j2 kq a0 av aC aH aD aI aJ aK aL ay aw aE aF aG (wrap64 (av + 1)) ay au aw 0 0 0 0 = some (r1, r2, r3, r4, r5, r6, r7, r8)) ∧ A0e (kq ≤ g3) ∧ A0e (wc.heap[b0]? = some (.cells #[.int .i64 av, .int .i64 aC, .int .i64 aH, .int .u64 aD, .int .u64 aI, .int .u64 aJ, .int .i64 aK, .int .i64 aL] 66 (0, 0))) ∧ A0e (wc.heap[b1]? = some (.cells #[.int .i64 ay, .int .u64 aw] 48 (0, 0))) ∧ A0e (wc.heap[b2]? = some (.cells #[.int .u64 aE, .int .i64 aF, .int .i64 aG] 64 (0, 0))) ∧ A0e (wc.heap[aB]? = some (.cells #[.int .i64 0, .int .i64 0, .int .i64 0, .int .u64 0, .int .u64 0, .int .u64 0, .int .i64 0, .int .i64 0] 66 (0, 0))) ∧ A0e (wc.heap[b3]? = some (.cells #[.int .i64 (wrap64 (av + 1)), .int .i64 ay, .int .i64 au, .int .u64 aw, .int .u64 0, .int .u64 0, .int .i64 0, .int .i64 0] 66 (0, 0))) ∧ A0e (Below w.heap.size w wc))
    case first =>
     have H := b7.out; clear b7; have H' := ak H; clear H; have hq := a1.out; have hs := az.out; have ht := a4.out; have hu := a5.out; have hv := aj.out; have hw := al.out; have hx := am.out; have hy := an.out; obtain ⟨dB, dC⟩ := kc2 ac; obtain ⟨dD, dE⟩ := kf2 ac; have hz := a2.out; have h6 := a3.out; have h7 := ah.out; have h8 := ai.out; have h9 := af.out; have hA := ag.out; obtain ⟨dF, dG, dH, dI, dJ, dK, dL, dM⟩ := kc8 aa; obtain ⟨dN, dO, dP, dQ, dR, dS, dT, dU⟩ := kf8 aa; have hB := ap.out; have hC := ao.out; have hD := ar.out; have hE := aq.out; obtain ⟨dV, dW, dX, dY, dZ, ea, eb, ec⟩ := kc8 ae; obtain ⟨ed, ee, ef, eg, eh, ei, ej, ek⟩ := kf8 ae
     go_wp2
     go_meet
     case rel => exact ⟨_, (wrap64 (IntKind.u64.wrap ((IntKind.u64.wrap (ay)) - (IntKind.u64.wrap (aC))))), H', ⟨by have := g2.out; first | omega | exact Nat.le_refl _⟩, ⟨(kb aa)⟩, ⟨(kb ac)⟩, ⟨(kb ax)⟩, ⟨(kb ad)⟩, ⟨(kb ae)⟩, ⟨(kl HB)⟩⟩
    case rest =>
     clear b7; (try clear b8); (try clear aM); (try clear aN); (try clear aO); (try clear aP); (try clear aQ); (try clear aR); (try clear aS); (try clear aT); (try clear bc); (try clear be); (try clear bh); (try clear bi); (try clear bj); (try clear bk); (try clear bm); (try clear bn); (try clear bo); (try clear bp); (try clear aU); (try clear aV); (try clear aW); (try clear aX); (try clear aY); (try clear aZ); (try clear ba); (try clear bb); (try clear bf); (try clear bg); (try clear bq); (try clear br); (try clear bs); (try clear bt); (try clear bu); (try clear bv); (try clear bw); (try clear bx); 
     obtain ⟨kq, au, HA, i0, aa, ac, ax, ad, ae, HB⟩ := hcut
     cases kq with
     | zero => exact absurd HA.out (by simp [A07.j2])
     | succ i1 =>
      have H := HA.out; clear HA; simp only [A07.j2] at H
      by_cases bA : a0 = 1
      ·rw [if_pos bA] at H; obtain ⟨bB, bC⟩ := kqT bA; clear bA; simp only [Option.some.injEq, Prod.mk.injEq] at H; obtain ⟨rfl, rfl, rfl, rfl, rfl, rfl, rfl, rfl⟩ := H; have hF := a3.out; have hG := a2.out; have hH := a5.out; have hI := a4.out; have hJ := a9.out; have hK := aA.out; have hL := ao.out; have hM := ap.out; obtain ⟨el, em, en⟩ := kc3 ax; obtain ⟨eo, ep, er⟩ := kf3 ax; have hN := ag.out; have hO := af.out; have hP := an.out; have hQ := am.out; have hR := ar.out; have hS := aq.out; obtain ⟨et, eu, ev, ew, ex, ey, ez, e0⟩ := kc8 ae; obtain ⟨e4, e5, e6, e7, e8, e9, eA, eB⟩ := kf8 ae; have hT := ai.out; have hU := ah.out; have hV := al.out; have hW := aj.out; obtain ⟨eC, eD, eE, eF, eG, eH, eI, eJ⟩ := kc8 ad; obtain ⟨eK, eL, eM, eN, eO, eP, eQ, eR⟩ := kf8 ad
       go_wp2
       refine bodyPost_ret (results_cell_row rfl _ _ aB 66 #[.int .i64 (wrap64 (av + 1)), .int .i64 ay, .int .i64 au, .int .u64 aw, .int .u64 0, .int .u64 aE, .int .i64 aF, .int .i64 aG] (0, 0) _ rfl (kb ad) Tryd.underlying66 rfl (by kernel_rfl)) rfl ?_
       exact ⟨kF, (kl HB)⟩
      ·rw [if_neg bA] at H; obtain ⟨bB, bC⟩ := kqF bA; simp only [Option.some.injEq, Prod.mk.injEq] at H; obtain ⟨rfl, rfl, rfl, rfl, rfl, rfl, rfl, rfl⟩ := H; have hX := a1.out; have hY := az.out; have hZ := a4.out; have ia := a5.out; have ib := aj.out; have ic := al.out; have ie := am.out; have ig := an.out; obtain ⟨eS, eT⟩ := kc2 ac; obtain ⟨eU, eV⟩ := kf2 ac; have ii := a2.out; have ij := a3.out; have ik := ah.out; have il := ai.out; have im := af.out; have io := ag.out; obtain ⟨eW, eX, eY, eZ, fa, fb, fd, fe⟩ := kc8 aa; obtain ⟨ff, fg, fh, fi, fj, fk, fl, fm⟩ := kf8 aa; have ip := ap.out; have iq := ao.out; have ir := ar.out; have iu := aq.out; obtain ⟨fo, fp, fq, fs, ft, fu, fv, fw⟩ := kc8 ae; obtain ⟨fx, fy, fz, f0, f2, f3, f4, f5⟩ := kf8 ae; have iv := aA.out; have iw := a9.out; obtain ⟨f6, f7, f8, f9, fA, fB, fC, fD⟩ := kc8 ad; obtain ⟨fE, fF, fG, fH, fI, fJ, fK, fL⟩ := kf8 ad
       go_wp2
       refine bodyPost_ret (results_cell_row rfl _ _ aB 66 #[.int .i64 (wrap64 (av + 1)), .int .i64 ay, .int .i64 au, .int .u64 aw, .int .u64 (IntKind.u64.wrap (aw - aD)), .int .u64 0, .int .i64 0, .int .i64 0] (0, 0) _ rfl (kb ad) Tryd.underlying66 rfl (by kernel_rfl)) rfl ?_
       exact ⟨kF, (kl HB)⟩
end Go.Proofs.YtiahbcaoikoogabDoor.All
