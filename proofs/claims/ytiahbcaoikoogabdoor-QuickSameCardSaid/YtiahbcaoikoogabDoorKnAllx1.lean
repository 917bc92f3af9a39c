-- copied by a program of the session
import Derived.Test.YtiahbcaoikoogabDoorKnAllx0
import Derived.Test.YtiahbcaoikoogabDoorKnXw
section
namespace Go.Proofs.YtiahbcaoikoogabDoor.All
open Go.RowKit Go.Proofs.YtiahbcaoikoogabDoorW.PrintWords Go.Proofs.YtiahbcaoikoogabDoorW.PrintLast Go.Proofs.YtiahbcaoikoogabDoorW.PrintMore
attribute [local go_sem] A2m A2n A25 A26 A2b A2c A2o A2p
set_option linter.unusedVariables false
set_option linter.unusedSimpArgs false
def xor_window.f (a0 : Int) : Option (Int × Int) := (bits_LeadingZeros64.f a0).bind fun aa => ((bits_TrailingZeros64.f a0).bind fun ac => (some (aa, wrap64 ((wrap64 (64 - aa)) - ac))))
set_option maxHeartbeats 8000000 in
set_option maxRecDepth 100000 in
theorem xor_window.calls (a0 : Int) (r1 : Int) (r2 : Int) (w : World) (hT : A3l w) (h : xor_window.f a0 = some (r1, r2)) :
  Calls Tryd.prog 50 #[.int .u64 a0] w fun e w' => e = .returned (.tuple #[.int .i64 r1, .int .i64 r2]) ∧ A1i w w' := by
 have HT := ak hT; clear hT; have H : ((bits_LeadingZeros64.f a0).bind fun aa => ((bits_TrailingZeros64.f a0).bind fun ac => (some (aa, wrap64 ((wrap64 (64 - aa)) - ac))))) = some (r1, r2) := h; clear h; replace H := bkH H; obtain ⟨aa, A2, H⟩ := H; replace H := bkH H; obtain ⟨ac, A3, H⟩ := H; simp only [Option.some.injEq, Prod.mk.injEq] at H; obtain ⟨rfl, rfl⟩ := H
 go_enter Tryd.func50, Tryd.ntmps50
 go_wp2_with (first | ((with_reducible refine A0f (f := 63) rfl ?_); refine A03 (some 6) rfl rfl Tryd.func63 (by kernel_rfl) rfl #[.int .u64 a0] rfl km ?_; (with_reducible refine (bits_LeadingZeros64.calls a0 aa _ A2.out).mono ?_); rintro e w' ⟨rfl, ⟨nd, rfl⟩⟩; refine ⟨_, rfl, ?_⟩) | ((with_reducible refine A0f (f := 64) rfl ?_); refine A03 (some 11) rfl rfl Tryd.func64 (by kernel_rfl) rfl #[.int .u64 a0] rfl km ?_; (with_reducible refine (bits_TrailingZeros64.calls a0 ac _ ?ad A3.out).mono ?_); (case ad => exact HT.out); rintro e w' ⟨rfl, ⟨nd, rfl⟩⟩; refine ⟨_, rfl, ?_⟩))
 go_ret2
 exact ⟨by first | rfl | (simp; done) | (simp [*]; done), by repeat (first | exact A1i.refl _ | apply A1i.step)⟩
end Go.Proofs.YtiahbcaoikoogabDoor.All
end
section
namespace Go.Proofs.YtiahbcaoikoogabDoor.All
open Go.RowKit Go.Proofs.YtiahbcaoikoogabDoorW.PrintWords Go.Proofs.YtiahbcaoikoogabDoorW.PrintLast Go.Proofs.YtiahbcaoikoogabDoorW.PrintMore
attribute [local go_sem] A2m A2n A25 A26 A2b A2c A2o A2p
set_option linter.unusedVariables false
set_option linter.unusedSimpArgs false
mutual
def A0s.j0 : Nat → Int → Int → Int → Int → Int → Int → Int → Int → Int → Int → Int → Int → Int → Int → Int → Int → Int → Int → Int → Int → Int → Int → Option (Int × Int × Int × Int × Int × Int × Int × Int)
 | 0, _, _, _, _, _, _, _, _, _, _, _, _, _, _, _, _, _, _, _, _, _, _ => none
 | k + 1, x0, aa, ac, ad, ae, af, ag, ah, ai, aj, al, am, an, ao, ap, aq, ar, au, av, aw, ax, ay => if x0 = 1 then (A0s.j1 k x0 (aa == 0) aa ac ad ae af ag ah ai aj al am an ao ap aq ar au av aw ax ay) else (A0s.j1 k x0 false aa ac ad ae af ag ah ai aj al am an ao ap aq ar au av aw ax ay)
def A0s.j1 : Nat → Int → Bool → Int → Int → Int → Int → Int → Int → Int → Int → Int → Int → Int → Int → Int → Int → Int → Int → Int → Int → Int → Int → Int → Option (Int × Int × Int × Int × Int × Int × Int × Int)
 | 0, _, _, _, _, _, _, _, _, _, _, _, _, _, _, _, _, _, _, _, _, _, _, _ => none
 | k + 1, x0, az, al, aq, ar, am, au, av, aw, ax, ay, ag, an, ao, ap, aa, ac, ad, ae, af, ah, ai, aj => if az = true then (some (aa, ac, ad, ae, af, ag, 0, 0)) else (if x0 = 1 then (some (aa, ac, ad, ae, af, an, ao, ap)) else (if al > 0 then (some (aa, ac, ad, ae, IntKind.u64.wrap (ag - am), ah, ai, aj)) else (some (aa, ac, ad, ae, af, ah, ai, aj))))
end
def A0s.f (k : Nat) (a0 : Int) (aa : Int) (ae : Int) (af : Int) (ag : Int) (ah : Int) (ai : Int) (aj : Int) (al : Int) (ac : Int) (ad : Int) (am : Int) (an : Int) (ao : Int) : Option (Int × Int × Int × Int × Int × Int × Int × Int) := if aa > 0 then (A0s.j0 k a0 aa ae af ag ah ai aj al ac ad am an ao (wrap64 (aa + 1)) ac (wrap64 (ac - ae)) ad 0 0 0 0) else (A0s.j0 k a0 aa ae af ag ah ai aj al ac ad am an ao (wrap64 (aa + 1)) ac 0 ad 0 0 0 0)
theorem A0s.A3f : ∀ k, (∀ y0 y1 y2 y3 y4 y5 y6 y7 y8 y9 aa ac ad ae af ag ah ai aj al am an, LeO (A0s.j0 k y0 y1 y2 y3 y4 y5 y6 y7 y8 y9 aa ac ad ae af ag ah ai aj al am an) (A0s.j0 (k + 1) y0 y1 y2 y3 y4 y5 y6 y7 y8 y9 aa ac ad ae af ag ah ai aj al am an)) ∧ (∀ y0 y1 y2 y3 y4 y5 y6 y7 y8 y9 aa ac ad ae af ag ah ai aj al am an ao, LeO (A0s.j1 k y0 y1 y2 y3 y4 y5 y6 y7 y8 y9 aa ac ad ae af ag ah ai aj al am an ao) (A0s.j1 (k + 1) y0 y1 y2 y3 y4 y5 y6 y7 y8 y9 aa ac ad ae af ag ah ai aj al am an ao))
 | 0 => ⟨fun _ _ _ _ _ _ _ _ _ _ _ _ _ _ _ _ _ _ _ _ _ _ r h => by simp [A0s.j0] at h, fun _ _ _ _ _ _ _ _ _ _ _ _ _ _ _ _ _ _ _ _ _ _ _ r h => by simp [A0s.j1] at h⟩
 | k + 1 => by
  obtain ⟨ih0, ih1⟩ := A0s.A3f k
  refine ⟨?_, ?_⟩ <;> intros <;> (first | unfold A0s.j0 | unfold A0s.j1) <;> (
   repeat' first
   | (with_reducible exact ih0 _ _ _ _ _ _ _ _ _ _ _ _ _ _ _ _ _ _ _ _ _ _)
   | (with_reducible exact ih1 _ _ _ _ _ _ _ _ _ _ _ _ _ _ _ _ _ _ _ _ _ _ _)
   | (with_reducible exact LeO.refl _)
   | (with_reducible exact LeO.none _)
   | (with_reducible refine LeO.ite ?_ ?_)
   | (with_reducible refine LeO.bind ?_ (fun _ => ?_))
   | exact ih0 _ _ _ _ _ _ _ _ _ _ _ _ _ _ _ _ _ _ _ _ _ _
   | exact ih1 _ _ _ _ _ _ _ _ _ _ _ _ _ _ _ _ _ _ _ _ _ _ _
   | exact LeO.none _
   | refine LeO.ite ?_ ?_
   | refine LeO.bind ?_ (fun _ => ?_))
theorem A0s.mono : ∀ a0 a1 a2 a3 a4 a5 a6 a7 a8 a9 aa ac ad ae k, LeO (A0s.f k a0 a1 a2 a3 a4 a5 a6 a7 a8 a9 aa ac ad ae) (A0s.f (k + 1) a0 a1 a2 a3 a4 a5 a6 a7 a8 a9 aa ac ad ae) := by
 intro a0 a1 a2 a3 a4 a5 a6 a7 a8 a9 aa ac ad ae k
 obtain ⟨ih0, ih1⟩ := A0s.A3f k
 unfold A0s.f
 repeat' first
   | (with_reducible exact ih0 _ _ _ _ _ _ _ _ _ _ _ _ _ _ _ _ _ _ _ _ _ _)
   | (with_reducible exact ih1 _ _ _ _ _ _ _ _ _ _ _ _ _ _ _ _ _ _ _ _ _ _ _)
   | (with_reducible exact LeO.refl _)
   | (with_reducible exact LeO.none _)
   | (with_reducible refine LeO.ite ?_ ?_)
   | (with_reducible refine LeO.bind ?_ (fun _ => ?_))
   | exact ih0 _ _ _ _ _ _ _ _ _ _ _ _ _ _ _ _ _ _ _ _ _ _
   | exact ih1 _ _ _ _ _ _ _ _ _ _ _ _ _ _ _ _ _ _ _ _ _ _ _
   | exact LeO.none _
   | refine LeO.ite ?_ ?_
   | refine LeO.bind ?_ (fun _ => ?_)
set_option maxHeartbeats 8000000 in
set_option maxRecDepth 100000 in
theorem A0s.calls (k : Nat) (a0 : Int) (ag : Int) (a8 : Int) (aE : Int) (a9 : Int) (aF : Int) (aG : Int) (aH : Int) (aI : Int) (a2 : Int) (a3 : Int) (aA : Int) (aB : Int) (aC : Int) (r1 : Int) (r2 : Int) (r3 : Int) (r4 : Int) (r5 : Int) (r6 : Int) (r7 : Int) (r8 : Int) (w : World) (h : A0s.f k a0 ag a8 aE a9 aF aG aH aI a2 a3 aA aB aC = some (r1, r2, r3, r4, r5, r6, r7, r8)) :
  Calls Tryd.prog 33 #[.int .i64 a0, .agg #[.int .i64 ag, .int .i64 a8, .int .i64 aE, .int .u64 a9, .int .u64 aF, .int .u64 aG, .int .i64 aH, .int .i64 aI], .agg #[.int .i64 a2, .int .u64 a3], .agg #[.int .u64 aA, .int .i64 aB, .int .i64 aC]] w fun e w' => e = .returned (.agg #[.int .i64 r1, .int .i64 r2, .int .i64 r3, .int .u64 r4, .int .u64 r5, .int .u64 r6, .int .i64 r7, .int .i64 r8]) ∧ Below w.heap.size w w' := by
 have hu44 := Tryd.underlying44; have hu48 := Tryd.underlying48; have hu42 := Tryd.underlying42; have HB := ak (Below.refl w.heap.size w); have H : (if ag > 0 then (A0s.j0 k a0 ag a8 aE a9 aF aG aH aI a2 a3 aA aB aC (wrap64 (ag + 1)) a2 (wrap64 (a2 - a8)) a3 0 0 0 0) else (A0s.j0 k a0 ag a8 aE a9 aF aG aH aI a2 a3 aA aB aC (wrap64 (ag + 1)) a2 0 a3 0 0 0 0)) = some (r1, r2, r3, r4, r5, r6, r7, r8) := h; clear h; have gc := ak H; clear H
 go_enter Tryd.func33, Tryd.ntmps33
 go_upto_if 20 with (first | ((with_reducible refine A0p (N := 5) rfl ?_); refine bxe 5 #[.int .i64 ag, .int .i64 a8, .int .i64 aE, .int .u64 a9, .int .u64 aF, .int .u64 aG, .int .i64 aH, .int .i64 aI] 44 (h := ?_); intro bF hg w6 hbox hb; have aa := ak (hbox); have gf := kG hg HB; have gg := kG hg HB; replace HB := kH HB hb; clear hb hbox hg) | ((with_reducible refine A0p (N := 6) rfl ?_); refine bxe 6 #[.int .i64 a2, .int .u64 a3] 48 (h := ?_); intro bG hg w7 hbox hb; have ac := ak (hbox); have gh := kG hg HB; have gj := kG hg HB; replace HB := kH HB hb; obtain ⟨am, an⟩ := kN hg aa; replace aa := kB aa hb; clear hb hbox hg) | ((with_reducible refine A0p (N := 7) rfl ?_); refine bxe 7 #[.int .u64 aA, .int .i64 aB, .int .i64 aC] 42 (h := ?_); intro bH hg w8 hbox hb; have a1 := ak (hbox); have gk := kG hg HB; have gl := kG hg HB; replace HB := kH HB hb; obtain ⟨ao, ap⟩ := kN hg aa; replace aa := kB aa hb; obtain ⟨a4, a5⟩ := kN hg ac; replace ac := kB ac hb; clear hb hbox hg) | ((with_reducible refine A0p (N := 8) rfl ?_); refine bxe 8 #[.int .i64 0, .int .i64 0, .int .i64 0, .int .u64 0, .int .u64 0, .int .u64 0, .int .i64 0, .int .i64 0] 44 (h := ?_); intro aD hg w9 hbox hb; have ae := ak (hbox); have gm := kG hg HB; have gn := kG hg HB; replace HB := kH HB hb; obtain ⟨ah, ai⟩ := kN hg aa; replace aa := kB aa hb; obtain ⟨aq, ar⟩ := kN hg ac; replace ac := kB ac hb; obtain ⟨a6, a7⟩ := kN hg a1; replace a1 := kB a1 hb; clear hb hbox hg; have gp := am.out; have gq := an.out; have gr := ao.out; have gs := ap.out; have gu := ah.out; have gv := ai.out; obtain ⟨aM, aN, aO, aP, aQ, aR, aS, aT⟩ := kc8 aa; obtain ⟨aU, aV, aW, aX, aY, aZ, ba, bb⟩ := kf8 aa; have gw := a4.out; have gx := a5.out; have gy := aq.out; have gz := ar.out; obtain ⟨bc, be⟩ := kc2 ac; obtain ⟨bf, bg⟩ := kf2 ac) | ((with_reducible refine A0p (N := 9) rfl ?_); refine bxe 9 #[.int .i64 0, .int .i64 0, .int .i64 0, .int .u64 0, .int .u64 0, .int .u64 0, .int .i64 0, .int .i64 0] 44 (h := ?_); intro bI hg iC hbox hb; have af := ak (hbox); have g0 := kG hg HB; have g1 := kG hg HB; replace HB := kH HB hb; obtain ⟨aj, al⟩ := kN hg aa; replace aa := kB aa hb; obtain ⟨au, av⟩ := kN hg ac; replace ac := kB ac hb; obtain ⟨aw, ax⟩ := kN hg a1; replace a1 := kB a1 hb; obtain ⟨ay, az⟩ := kN hg ae; replace ae := kB ae hb; clear hb hbox hg; have g2 := al.out; have g3 := aj.out; have g4 := av.out; have g5 := au.out; have g6 := ax.out; have g7 := aw.out; have g8 := az.out; have g9 := ay.out; obtain ⟨bh, bi, bj, bk, bm, bn, bo, bp⟩ := kc8 af; obtain ⟨bq, br, bs, bt, bu, bv, bw, bx⟩ := kf8 af; obtain ⟨bz, b0, b1, b2, b3, b4, b5, b6⟩ := kc8 aa; obtain ⟨b7, b8, b9, bA, bB, bC, bD, bE⟩ := kf8 aa))
 (try simp only [Act.put, List.setIfInBounds_toArray, List.set_cons_zero, List.set_cons_succ])
 go_cut [] (fun wc => ∃ (kq : Nat) (ad : Int), A0e (A0s.j0 kq a0 ag a8 aE a9 aF aG aH aI a2 a3 aA aB aC (wrap64 (ag + 1)) a2 ad a3 0 0 0 0 = some (r1, r2, r3, r4, r5, r6, r7, r8)) ∧ A0e (kq ≤ k) ∧ A0e (wc.heap[bF]? = some (.cells #[.int .i64 ag, .int .i64 a8, .int .i64 aE, .int .u64 a9, .int .u64 aF, .int .u64 aG, .int .i64 aH, .int .i64 aI] 44 (0, 0))) ∧ A0e (wc.heap[bG]? = some (.cells #[.int .i64 a2, .int .u64 a3] 48 (0, 0))) ∧ A0e (wc.heap[bH]? = some (.cells #[.int .u64 aA, .int .i64 aB, .int .i64 aC] 42 (0, 0))) ∧ A0e (wc.heap[aD]? = some (.cells #[.int .i64 0, .int .i64 0, .int .i64 0, .int .u64 0, .int .u64 0, .int .u64 0, .int .i64 0, .int .i64 0] 44 (0, 0))) ∧ A0e (wc.heap[bI]? = some (.cells #[.int .i64 (wrap64 (ag + 1)), .int .i64 a2, .int .i64 ad, .int .u64 a3, .int .u64 0, .int .u64 0, .int .i64 0, .int .i64 0] 44 (0, 0))) ∧ A0e (Below w.heap.size w wc))
 case first =>
  have H := gc.out; clear gc
  by_cases bK : ag > 0
  ·rw [if_pos bK] at H; have aK : decide (0 < ag) = true := decide_eq_true bK; clear bK
   (first | rw [aK] | (simp only [A2w, A3k]; rw [aK]) | skip)
   have H' := ak H; clear H; have gA := an.out; have gB := am.out; have gC := a4.out; have gD := a5.out; have gE := aq.out; have gF := ar.out; have gG := au.out; have gH := av.out; obtain ⟨bS, bT⟩ := kc2 ac; obtain ⟨bU, bV⟩ := kf2 ac; have gI := ao.out; have gJ := ap.out; have gK := ah.out; have gL := ai.out; have gM := aj.out; have gN := al.out; obtain ⟨bW, bX, bY, bZ, ca, cc, cd, ce⟩ := kc8 aa; obtain ⟨cf, cg, ch, ci, cj, ck, cm, co⟩ := kf8 aa; have gO := ax.out; have gP := aw.out; have gQ := az.out; have gR := ay.out; obtain ⟨cp, cq, cr, cs, ct, cu, cv, cw⟩ := kc8 af; obtain ⟨cx, cy, cz, cA, cB, cC, cD, cE⟩ := kf8 af
   go_wp2
   go_meet
   case rel => exact ⟨_, (wrap64 (a2 - a8)), H', ⟨by first | omega | exact Nat.le_refl _⟩, ⟨(kb aa)⟩, ⟨(kb ac)⟩, ⟨(kb a1)⟩, ⟨(kb ae)⟩, ⟨(kb af)⟩, ⟨(kl HB)⟩⟩
  ·rw [if_neg bK] at H; have aK : decide (0 < ag) = false := decide_eq_false bK; clear bK
   (first | rw [aK] | (simp only [A2w, A3k]; rw [aK]) | skip)
   have H' := ak H; clear H
   go_wp2
   go_meet
   case rel => exact ⟨_, (0), H', ⟨by first | omega | exact Nat.le_refl _⟩, ⟨(kb aa)⟩, ⟨(kb ac)⟩, ⟨(kb a1)⟩, ⟨(kb ae)⟩, ⟨(kb af)⟩, ⟨(kl HB)⟩⟩
 case rest =>
  clear gc; (try clear aM); (try clear aN); (try clear aO); (try clear aP); (try clear aQ); (try clear aR); (try clear aS); (try clear aT); (try clear bc); (try clear be); (try clear bh); (try clear bi); (try clear bj); (try clear bk); (try clear bm); (try clear bn); (try clear bo); (try clear bp); (try clear bz); (try clear b0); (try clear b1); (try clear b2); (try clear b3); (try clear b4); (try clear b5); (try clear b6); (try clear aU); (try clear aV); (try clear aW); (try clear aX); (try clear aY); (try clear aZ); (try clear ba); (try clear bb); (try clear bf); (try clear bg); (try clear bq); (try clear br); (try clear bs); (try clear bt); (try clear bu); (try clear bv); (try clear bw); (try clear bx); (try clear b7); (try clear b8); (try clear b9); (try clear bA); (try clear bB); (try clear bC); (try clear bD); (try clear bE); obtain ⟨kq, ad, HA, gS, aa, ac, a1, ae, af, HB⟩ := hcut
  cases kq with
  | zero => exact absurd HA.out (by simp [A0s.j0])
  | succ i7 =>
   have H := HA.out; clear HA; simp only [A0s.j0] at H; have bJ := ak H; clear H
   go_upto_region 4 with (fail)
   go_cut [27] (fun i9 wc => ∃ (kq : Nat) (aJ : Bool), i9 = .bool aJ ∧ A0e (A0s.j1 kq a0 aJ ag a8 aE a9 aF aG aH aI a2 a3 aA aB aC (wrap64 (ag + 1)) a2 ad a3 0 0 0 0 = some (r1, r2, r3, r4, r5, r6, r7, r8)) ∧ A0e (kq ≤ i7) ∧ A0e (wc.heap[bF]? = some (.cells #[.int .i64 ag, .int .i64 a8, .int .i64 aE, .int .u64 a9, .int .u64 aF, .int .u64 aG, .int .i64 aH, .int .i64 aI] 44 (0, 0))) ∧ A0e (wc.heap[bG]? = some (.cells #[.int .i64 a2, .int .u64 a3] 48 (0, 0))) ∧ A0e (wc.heap[bH]? = some (.cells #[.int .u64 aA, .int .i64 aB, .int .i64 aC] 42 (0, 0))) ∧ A0e (wc.heap[aD]? = some (.cells #[.int .i64 0, .int .i64 0, .int .i64 0, .int .u64 0, .int .u64 0, .int .u64 0, .int .i64 0, .int .i64 0] 44 (0, 0))) ∧ A0e (wc.heap[bI]? = some (.cells #[.int .i64 (wrap64 (ag + 1)), .int .i64 a2, .int .i64 ad, .int .u64 a3, .int .u64 0, .int .u64 0, .int .i64 0, .int .i64 0] 44 (0, 0))) ∧ A0e (Below w.heap.size w wc))
   case first =>
    have H := bJ.out; clear bJ
    by_cases bM : a0 = 1
    ·rw [if_pos bM] at H; obtain ⟨aL, bN⟩ := kqT bM; clear bM
     (first | rw [aL] | (simp only [A2w, A3k]; rw [aL]) | skip)
     have H' := ak H; clear H; have gT := am.out; have gU := an.out; have gV := ao.out; have gW := ap.out; have gX := ah.out; have gY := ai.out; have gZ := aj.out; have ha := al.out; obtain ⟨cF, cG, cH, cI, cJ, cK, cL, cM⟩ := kc8 aa; obtain ⟨cN, cO, cP, cQ, cR, cS, cT, cU⟩ := kf8 aa
     go_wp2
     go_meet
     case rel => exact ⟨_, ((ag == 0)), kE, H', ⟨by have := gS.out; first | omega | exact Nat.le_refl _⟩, ⟨kb aa⟩, ⟨kb ac⟩, ⟨kb a1⟩, ⟨kb ae⟩, ⟨kb af⟩, ⟨(kl HB)⟩⟩
    ·rw [if_neg bM] at H; obtain ⟨aL, bN⟩ := kqF bM
     (first | rw [aL] | (simp only [A2w, A3k]; rw [aL]) | skip)
     have H' := ak H; clear H
     go_wp2
     go_meet
     case rel => exact ⟨_, (false), kE, H', ⟨by have := gS.out; first | omega | exact Nat.le_refl _⟩, ⟨kb aa⟩, ⟨kb ac⟩, ⟨kb a1⟩, ⟨kb ae⟩, ⟨kb af⟩, ⟨(kl HB)⟩⟩
   case rest =>
    clear bJ; (try clear aM); (try clear aN); (try clear aO); (try clear aP); (try clear aQ); (try clear aR); (try clear aS); (try clear aT); (try clear bc); (try clear be); (try clear bh); (try clear bi); (try clear bj); (try clear bk); (try clear bm); (try clear bn); (try clear bo); (try clear bp); (try clear bz); (try clear b0); (try clear b1); (try clear b2); (try clear b3); (try clear b4); (try clear b5); (try clear b6); (try clear aU); (try clear aV); (try clear aW); (try clear aX); (try clear aY); (try clear aZ); (try clear ba); (try clear bb); (try clear bf); (try clear bg); (try clear bq); (try clear br); (try clear bs); (try clear bt); (try clear bu); (try clear bv); (try clear bw); (try clear bx); (try clear b7); (try clear b8); (try clear b9); (try clear bA); (try clear bB); (try clear bC); (try clear bD); (try clear bE); obtain ⟨kq, aJ, rfl, HA, iA, aa, ac, a1, ae, af, HB⟩ := hcut
    cases kq with
    | zero => exact absurd HA.out (by simp [A0s.j1])
    | succ iB =>
     have H := HA.out; clear HA; simp only [A0s.j1] at H
     by_cases cV : aJ = true
     ·subst cV
      rw [if_pos rfl] at H; simp only [Option.some.injEq, Prod.mk.injEq] at H; obtain ⟨rfl, rfl, rfl, rfl, rfl, rfl, rfl, rfl⟩ := H; have hc := an.out; have he := am.out; have hf := a4.out; have hh := a5.out; have hi := aq.out; have hl := ar.out; have hm := au.out; have hn := av.out; obtain ⟨cW, cX⟩ := kc2 ac; obtain ⟨cY, cZ⟩ := kf2 ac; have hp := al.out; have hq := aj.out; have hs := ax.out; have ht := aw.out; have hu := az.out; have hv := ay.out; obtain ⟨da, db, dc, dd, de, df, dg, dh⟩ := kc8 af; obtain ⟨di, dj, dk, dl, dm, dn, dp, dq⟩ := kf8 af; have hw := ai.out; have hx := ah.out; have hy := a7.out; have hz := a6.out; obtain ⟨dr, ds, du, dw, dz, d0, d5, d6⟩ := kc8 ae; obtain ⟨d7, d8, d9, dA, dB, dC, dD, dE⟩ := kf8 ae
      go_wp2
      refine bodyPost_ret (results_cell_row rfl _ _ aD 44 #[.int .i64 (wrap64 (ag + 1)), .int .i64 a2, .int .i64 ad, .int .u64 a3, .int .u64 0, .int .u64 a3, .int .i64 0, .int .i64 0] (0, 0) _ rfl (kb ae) Tryd.underlying44 rfl (by kernel_rfl)) rfl ?_
      exact ⟨kF, (kl HB)⟩
     ·replace cV := Bool.eq_false_iff.mpr cV; subst cV
      rw [if_neg (show ¬ (false = true) by decide)] at H
      by_cases bO : a0 = 1
      ·rw [if_pos bO] at H; obtain ⟨bP, bQ⟩ := kqT bO; clear bO; simp only [Option.some.injEq, Prod.mk.injEq] at H; obtain ⟨rfl, rfl, rfl, rfl, rfl, rfl, rfl, rfl⟩ := H; have h6 := ap.out; have h7 := ao.out; have h8 := a5.out; have h9 := a4.out; have hA := a6.out; have hB := a7.out; have hC := aw.out; have hD := ax.out; obtain ⟨dF, dG, dH⟩ := kc3 a1; obtain ⟨dI, dJ, dK⟩ := kf3 a1; have hE := al.out; have hF := aj.out; have hG := av.out; have hH := au.out; have hI := az.out; have hJ := ay.out; obtain ⟨dL, dM, dN, dO, dP, dQ, dR, dS⟩ := kc8 af; obtain ⟨dT, dU, dV, dW, dX, dY, dZ, ea⟩ := kf8 af; have hK := ai.out; have hL := ah.out; have hM := ar.out; have hN := aq.out; obtain ⟨eb, ec, ed, ee, ef, eg, eh, ei⟩ := kc8 ae; obtain ⟨ej, ek, el, em, en, eo, ep, er⟩ := kf8 ae
       go_wp2
       refine bodyPost_ret (results_cell_row rfl _ _ aD 44 #[.int .i64 (wrap64 (ag + 1)), .int .i64 a2, .int .i64 ad, .int .u64 a3, .int .u64 0, .int .u64 aA, .int .i64 aB, .int .i64 aC] (0, 0) _ rfl (kb ae) Tryd.underlying44 rfl (by kernel_rfl)) rfl ?_
       exact ⟨kF, (kl HB)⟩
      ·rw [if_neg bO] at H; obtain ⟨bP, bQ⟩ := kqF bO
       by_cases bL : ag > 0
       ·rw [if_pos bL] at H; have bR : decide (0 < ag) = true := decide_eq_true bL; clear bL; simp only [Option.some.injEq, Prod.mk.injEq] at H; obtain ⟨rfl, rfl, rfl, rfl, rfl, rfl, rfl, rfl⟩ := H; have hO := am.out; have hP := an.out; have hQ := ao.out; have hR := ap.out; have hS := ah.out; have hT := ai.out; have hU := aj.out; have hV := al.out; obtain ⟨et, eu, ev, ew, ex, ey, ez, e0⟩ := kc8 aa; obtain ⟨e4, e5, e6, e7, e8, e9, eA, eB⟩ := kf8 aa; have hW := a4.out; have hX := a5.out; have hY := aq.out; have hZ := ar.out; have ia := au.out; have ib := av.out; obtain ⟨eC, eD⟩ := kc2 ac; obtain ⟨eE, eF⟩ := kf2 ac; have ic := ax.out; have ie := aw.out; have ig := az.out; have ii := ay.out; obtain ⟨eG, eH, eI, eJ, eK, eL, eM, eN⟩ := kc8 af; obtain ⟨eO, eP, eQ, eR, eS, eT, eU, eV⟩ := kf8 af; have ij := a7.out; have ik := a6.out; obtain ⟨eW, eX, eY, eZ, fa, fb, fd, fe⟩ := kc8 ae; obtain ⟨ff, fg, fh, fi, fj, fk, fl, fm⟩ := kf8 ae
        go_wp2
        refine bodyPost_ret (results_cell_row rfl _ _ aD 44 #[.int .i64 (wrap64 (ag + 1)), .int .i64 a2, .int .i64 ad, .int .u64 a3, .int .u64 (IntKind.u64.wrap (a3 - a9)), .int .u64 0, .int .i64 0, .int .i64 0] (0, 0) _ rfl (kb ae) Tryd.underlying44 rfl (by kernel_rfl)) rfl ?_
        exact ⟨kF, (kl HB)⟩
       ·rw [if_neg bL] at H; have bR : decide (0 < ag) = false := decide_eq_false bL; clear bL; simp only [Option.some.injEq, Prod.mk.injEq] at H; obtain ⟨rfl, rfl, rfl, rfl, rfl, rfl, rfl, rfl⟩ := H; have il := am.out; have im := an.out; have io := ao.out; have ip := ap.out; have iq := ah.out; have ir := ai.out; have iu := aj.out; have iv := al.out; obtain ⟨fo, fp, fq, fs, ft, fu, fv, fw⟩ := kc8 aa; obtain ⟨fx, fy, fz, f0, f2, f3, f4, f5⟩ := kf8 aa; have iw := av.out; have ix := au.out; have iy := ax.out; have iz := aw.out; have i0 := az.out; have i1 := ay.out; obtain ⟨f6, f7, f8, f9, fA, fB, fC, fD⟩ := kc8 af; obtain ⟨fE, fF, fG, fH, fI, fJ, fK, fL⟩ := kf8 af; have i3 := ar.out; have i4 := aq.out; have i5 := a7.out; have i6 := a6.out; obtain ⟨fM, fN, fO, fP, fQ, fR, fS, fT⟩ := kc8 ae; obtain ⟨fU, fV, fW, fX, fY, fZ, ga, gb⟩ := kf8 ae
        go_wp2
        refine bodyPost_ret (results_cell_row rfl _ _ aD 44 #[.int .i64 (wrap64 (ag + 1)), .int .i64 a2, .int .i64 ad, .int .u64 a3, .int .u64 0, .int .u64 0, .int .i64 0, .int .i64 0] (0, 0) _ rfl (kb ae) Tryd.underlying44 rfl (by kernel_rfl)) rfl ?_
        exact ⟨kF, (kl HB)⟩
end Go.Proofs.YtiahbcaoikoogabDoor.All
end
section
namespace Go.Proofs.YtiahbcaoikoogabDoor.All
open Go.RowKit Go.Proofs.YtiahbcaoikoogabDoorW.PrintWords Go.Proofs.YtiahbcaoikoogabDoorW.PrintLast Go.Proofs.YtiahbcaoikoogabDoorW.PrintMore
attribute [local go_sem] A2m A2n A25 A26 A2b A2c A2o A2p
set_option linter.unusedVariables false
set_option linter.unusedSimpArgs false
theorem eqA48 (d : Nat) (w : World) (x0 y0 : Int) (x1 y1 : Int) :
    (Op.equalIn (d + 2) 48 (.agg #[.int .i64 x0, .int .u64 x1]) (.agg #[.int .i64 y0, .int .u64 y1])).run Tryd.prog w = .ok (x0 == y0 && (x1 == y1)) w := by
  refine eqA_of Tryd.underlying48 (by kernel_rfl) ?_
  refine eqf_cons (by rfl) (by go_simp; rfl) (by go_simp; rfl) (by go_simp) ?_
  exact eqf_last (by rfl) (by go_simp; rfl) (by go_simp; rfl) (by go_simp)
end Go.Proofs.YtiahbcaoikoogabDoor.All
end
