-- copied by a program of the session
import Derived.Test.YtodocfjbpkicgaaDoorKwAllx5
import Derived.Test.YtodocfjbpkicgaaDoorKwAllx35
set_option linter.unusedSimpArgs false
set_option linter.unusedVariables false
set_option maxHeartbeats 8000000
set_option maxRecDepth 100000
namespace Go.Proofs.YtodocfjbpkicgaaDoor.All
open Go.RowKit Go.Zw Go.Zl Go.Zm
attribute [local go_sem] A2h A2r
def A1u.j0 : Nat → Int → Int → Option Int → Int → Int → Int → Int → Int → Int → Int → Int → Int → Int → Int → Int → Int → Option (Int × Int × Int × Int × Int × Int × Int × Int × Int × Int × Int × Option Int)
 | 0, _, _, _, _, _, _, _, _, _, _, _, _, _, _, _, _ => none
 | k + 1, x0, ar, au, af, ag, ah, ai, aj, al, am, an, aa, ae, ao, ap, aq => if au.isNone = true then (if af > 0 then (if aa ≤ ag then (some (0, 0, 0, 0, 0, 0, 0, 0, 0, 0, 0, some 4)) else ((A1f.f k x0 af ag ah ai aj al am an aa ae ao ap aq).bind fun ac => (some (aa, ae, ac.1, ac.2.1, ac.2.2.1, ac.2.2.2.1, ac.2.2.2.2.1, ac.2.2.2.2.2.1, ac.2.2.2.2.2.2.1, ac.2.2.2.2.2.2.2, ar, none)))) else ((A1f.f k x0 af ag ah ai aj al am an aa ae ao ap aq).bind fun ad => (some (aa, ae, ad.1, ad.2.1, ad.2.2.1, ad.2.2.2.1, ad.2.2.2.2.1, ad.2.2.2.2.2.1, ad.2.2.2.2.2.2.1, ad.2.2.2.2.2.2.2, ar, none)))) else (some (0, 0, 0, 0, 0, 0, 0, 0, 0, 0, 0, some (au.getD 0)))
def A1u.f (k : Nat) (a0 : Int) (ad : Int) (ae : Int) (af : Int) (ag : Int) (ah : Int) (ai : Int) (aj : Int) (al : Int) (l2 : List Int) (a3 : Int) : Option (Int × Int × Int × Int × Int × Int × Int × Int × Int × Int × Int × Option Int) := (A32.f a0).bind fun am => (if am = true then (if ad = 0 then ((A3b.f k l2 a3).bind fun ac => (A1u.j0 k a0 ac.2.2.1 ac.2.2.2 ad ae af ag ah ai aj al ac.1 ac.2.1 0 0 0)) else ((A2w.f k a0 ad ae af ag ah ai aj al l2 a3).bind fun aa => (A1u.j0 k a0 aa.2.2.2.2.2.1 aa.2.2.2.2.2.2 ad ae af ag ah ai aj al aa.1 aa.2.1 aa.2.2.1 aa.2.2.2.1 aa.2.2.2.2.1))) else (some (0, 0, 0, 0, 0, 0, 0, 0, 0, 0, 0, some 6)))
theorem A1u.A2x : ∀ k, (∀ y0 y1 y2 y3 y4 y5 y6 y7 y8 y9 aa ac ad ae af ag, LeO (A1u.j0 k y0 y1 y2 y3 y4 y5 y6 y7 y8 y9 aa ac ad ae af ag) (A1u.j0 (k + 1) y0 y1 y2 y3 y4 y5 y6 y7 y8 y9 aa ac ad ae af ag))
 | 0 => fun _ _ _ _ _ _ _ _ _ _ _ _ _ _ _ _ r h => by simp [A1u.j0] at h
 | k + 1 => by
  have ih0 := A1u.A2x k <;> intros <;> (first | unfold A1u.j0) <;> (
   repeat' first
   | with_reducible apply ih0
   | with_reducible apply A1f.mono
   | with_reducible apply A3b.mono
   | with_reducible apply A2w.mono
   | (with_reducible exact LeO.refl _)
   | (with_reducible exact LeO.none _)
   | (with_reducible refine LeO.ite ?_ ?_)
   | (with_reducible refine LeO.bind ?_ (fun _ => ?_))
   | exact LeO.none _
   | refine LeO.ite ?_ ?_
   | refine LeO.bind ?_ (fun _ => ?_))
theorem A1u.mono : ∀ a0 a1 a2 a3 a4 a5 a6 a7 a8 a9 aa k, LeO (A1u.f k a0 a1 a2 a3 a4 a5 a6 a7 a8 a9 aa) (A1u.f (k + 1) a0 a1 a2 a3 a4 a5 a6 a7 a8 a9 aa) := by
 intro a0 a1 a2 a3 a4 a5 a6 a7 a8 a9 aa k
 have ih0 := A1u.A2x k
 unfold A1u.f
 repeat' first
   | with_reducible apply ih0
   | with_reducible apply A1f.mono
   | with_reducible apply A3b.mono
   | with_reducible apply A2w.mono
   | (with_reducible exact LeO.refl _)
   | (with_reducible exact LeO.none _)
   | (with_reducible refine LeO.ite ?_ ?_)
   | (with_reducible refine LeO.bind ?_ (fun _ => ?_))
   | exact LeO.none _
   | refine LeO.ite ?_ ?_
   | refine LeO.bind ?_ (fun _ => ?_)
def A1u.T14 : Bool × List (List Nat × List Nat) := (true, [([], []), ([], []), ([], []), ([], []), ([], []), ([1, 2, 3, 4], [1, 2, 3, 4]), ([], []), ([0, 5, 0], [0]), ([5, 7, 0, 1, 2, 3, 4, 5, 7], [5]), ([6, 8, 0, 1, 2, 3, 4, 5, 6, 7, 8], [6]), ([9, 0, 1, 2, 3, 4, 5, 6, 7, 8, 9], [])])
def A1u.B14 : List Nat := [0, 0, 0, 0, 0, 30, 0, 63, 191, 511, 1023]
theorem A1u.tab14 : rtab .any (opsOf Tryd.f20 14) = A1u.T14 := by kernel_rfl
theorem A1u.bits14 : A26 A1u.T14.2 A1u.B14 = true := by kernel_rfl
theorem A1u.calls (k : Nat) (a0 : Int) (a2 : Int) (aA : Int) (aB : Int) (aC : Int) (aD : Int) (aE : Int) (aF : Int) (aG : Int) (A2 : Option Addr) (c2 : Nat) (l2 : List Int) (a3 : Int) (r1 : Int) (r2 : Int) (r3 : Int) (r4 : Int) (r5 : Int) (r6 : Int) (r7 : Int) (r8 : Int) (r9 : Int) (aX : Int) (aY : Int) (aZ : Option Int) (w : World) (hT : A39 w) (hr2 : Kd.C (Kd.int .u8) w A2 l2.length l2) (hc2 : l2.length ≤ c2) (h : A1u.f k a0 a2 aA aB aC aD aE aF aG l2 a3 = some (r1, r2, r3, r4, r5, r6, r7, r8, r9, aX, aY, aZ)) :
  Calls Tryd.prog 20 #[.int .i64 a0, .agg #[.int .i64 a2, .int .i64 aA, .int .i64 aB, .int .u64 aC, .int .u64 aD, .int .u64 aE, .int .i64 aF, .int .i64 aG], .slice A2 l2.length c2, .int .i64 a3] w fun e w' => e = .returned (.tuple #[.agg #[.int .i64 r1, .int .u64 r2], .agg #[.int .i64 r3, .int .i64 r4, .int .i64 r5, .int .u64 r6, .int .u64 r7, .int .u64 r8, .int .i64 r9, .int .i64 aX], .int .i64 aY, errW aZ]) ∧ Below w.heap.size w w' := by
 have hu32 := Tryd.underlying32; have hu42 := Tryd.underlying42; have hu30 := Tryd.underlying30; have hu38 := Tryd.underlying38; have hu94 := Tryd.underlying94; have HT := ak hT; clear hT; have fD := ak hr2; have fE := ak hc2; clear hr2 hc2; have HB := ak (Below.refl w.heap.size w); have H := h; clear h; unfold A1u.f at H; replace H := bkH H; obtain ⟨fy, A5, H⟩ := H
 by_cases c6 : fy = true
 ·subst c6
  rw [if_pos rfl] at H; have fz := ak H; clear H
  go_enter Tryd.func20, Tryd.ntmps20
  go_upto_if 24 with (first | ((with_reducible refine A0s (N := 5) rfl ?_); refine bxe 5 #[.int .i64 a2, .int .i64 aA, .int .i64 aB, .int .u64 aC, .int .u64 aD, .int .u64 aE, .int .i64 aF, .int .i64 aG] 32 (h := ?_); intro ar hg w8 hbox hb; have ad := ak (hbox); have ba := kG hg HB; have bb := kG hg HB; replace HB := kH HB hb; clear hb hbox hg) | ((with_reducible refine A0s (N := 8) rfl ?_); refine bxe 8 #[.int .i64 0, .int .u64 0] 42 (h := ?_); intro aJ hg w9 hbox hb; have ac := ak (hbox); have bc := kG hg HB; have be := kG hg HB; replace HB := kH HB hb; obtain ⟨al, am⟩ := kN hg ad; replace ad := kB ad hb; clear hb hbox hg) | ((with_reducible refine A0s (N := 9) rfl ?_); refine bxe 9 #[.int .i64 0, .int .i64 0, .int .i64 0, .int .u64 0, .int .u64 0, .int .u64 0, .int .i64 0, .int .i64 0] 32 (h := ?_); intro aK hg ix hbox hb; have aa := ak (hbox); have bf := kG hg HB; have bh := kG hg HB; replace HB := kH HB hb; obtain ⟨an, ao⟩ := kN hg ad; replace ad := kB ad hb; obtain ⟨ap, aq⟩ := kN hg ac; replace ac := kB ac hb; clear hb hbox hg) | ((with_reducible refine A0l (f := 50) rfl ?_); refine A1d (some 17) rfl rfl Tryd.func50 (by kernel_rfl) rfl #[.int .i64 a0] rfl km ?_; (with_reducible refine (A32.calls a0 true _ A5.out).mono ?_); rintro e w' ⟨rfl, ⟨nd, rfl⟩⟩; refine ⟨_, rfl, ?_⟩) | ((with_reducible refine A0s (N := 12) rfl ?_); refine bxe 12 #[.int .i64 0, .int .u64 0] 42 (h := ?_); intro aO hg iy hbox hb; have ag := ak (hbox); have fF := kG hg HB; have fG := kG hg HB; replace HB := kH HB hb; obtain ⟨az, a1⟩ := kN hg ad; replace ad := kB ad hb; obtain ⟨av, aw⟩ := kN hg ac; replace ac := kB ac hb; obtain ⟨ax, ay⟩ := kN hg aa; replace aa := kB aa hb; clear hb hbox hg) | ((with_reducible refine A0s (N := 13) rfl ?_); refine bxe 13 #[.int .u64 0, .int .i64 0, .int .i64 0] 30 (h := ?_); intro aN hg iz hbox hb; have au := ak (hbox); have fH := kG hg HB; have fI := kG hg HB; replace HB := kH HB hb; obtain ⟨a4, a5⟩ := kN hg ad; replace ad := kB ad hb; obtain ⟨a6, a7⟩ := kN hg ac; replace ac := kB ac hb; obtain ⟨a8, a9⟩ := kN hg aa; replace aa := kB aa hb; obtain ⟨aH, aI⟩ := kN hg ag; replace ag := kB ag hb; clear hb hbox hg; have fJ := al.out; have fK := am.out; have fL := an.out; have fM := ao.out; have fN := az.out; have fO := a1.out; have fP := a4.out; have fQ := a5.out; obtain ⟨cA, cB, cC, cD, cF, cG, cH, cI⟩ := kc8 ad; obtain ⟨cJ, cK, cL, cM, cN, cO, cP, cQ⟩ := kf8 ad))
  (try simp only [Act.put, List.setIfInBounds_toArray, List.set_cons_zero, List.set_cons_succ])
  go_cut [14, 15] (fun hO hP wc => ∃ (kq : Nat) (aP : Int) (aS : Option Int) (ae : Int) (af : Int) (ah : Int) (ai : Int) (aj : Int), hO = .int .i64 aP ∧ hP = errW aS ∧ A0b (A1u.j0 kq a0 aP aS a2 aA aB aC aD aE aF aG ae af ah ai aj = some (r1, r2, r3, r4, r5, r6, r7, r8, r9, aX, aY, aZ)) ∧ A0b (kq ≤ k) ∧ A0b (wc.heap[ar]? = some (.cells #[.int .i64 a2, .int .i64 aA, .int .i64 aB, .int .u64 aC, .int .u64 aD, .int .u64 aE, .int .i64 aF, .int .i64 aG] 32 (0, 0))) ∧ A0b (wc.heap[aJ]? = some (.cells #[.int .i64 0, .int .u64 0] 42 (0, 0))) ∧ A0b (wc.heap[aK]? = some (.cells #[.int .i64 0, .int .i64 0, .int .i64 0, .int .u64 0, .int .u64 0, .int .u64 0, .int .i64 0, .int .i64 0] 32 (0, 0))) ∧ A0b (wc.heap[aO]? = some (.cells #[.int .i64 ae, .int .u64 af] 42 (0, 0))) ∧ A0b (wc.heap[aN]? = some (.cells #[.int .u64 ah, .int .i64 ai, .int .i64 aj] 30 (0, 0))) ∧ A0b (Below w.heap.size w wc))
  case first =>
   have H := fz.out; clear fz
   by_cases bi : a2 = 0
   ·rw [kIp bi] at H; obtain ⟨aQ, bj⟩ := kqT bi; clear bi
    (first | rw [aQ] | (simp only [A2i, A2u]; rw [aQ]) | skip)
    replace H := bkH H; obtain ⟨⟨bk, bm, bn, bo⟩, hQ, H⟩ := H; (try dsimp only at H); have H' := ak H; clear H
    go_wp2_with (first | ((with_reducible refine A0l (f := 51) rfl ?_); refine A1d (some 28) rfl rfl Tryd.func51 (by kernel_rfl) rfl #[.slice A2 l2.length c2, .int .i64 a3] rfl km ?_; (with_reducible refine (A3b.calls k _ _ l2 a3 bk bm bn bo _ ?aT ?aU hQ.out).mono ?_); (case aT => exact kC (Kd.A1i fD.out HB.out)); (case aU => exact fE.out); rintro e i0 ⟨rfl, hb⟩; refine ⟨_, rfl, ?_⟩; replace ad := kB ad hb; replace ac := kB ac hb; replace aa := kB aa hb; replace ag := kB ag hb; replace au := kB au hb; replace HB := kH HB hb; (try simp only [A0i, A0j]); have fR := a1.out; have fS := az.out; have fT := aw.out; have fU := av.out; have fV := ay.out; have fW := ax.out; have fX := aH.out; have fY := aI.out; obtain ⟨cR, cS⟩ := kc2 ag; obtain ⟨cT, cU⟩ := kf2 ag))
    go_meet
    case rel => exact ⟨_, (bn), (bo), (bk), (bm), (0), (0), (0), kE, kE, H', kO, ⟨(kb ad)⟩, ⟨(kb ac)⟩, ⟨(kb aa)⟩, ⟨(kb ag)⟩, ⟨(kb au)⟩, ⟨(kl HB)⟩⟩
   rw [kIn bi] at H; obtain ⟨aQ, bj⟩ := kqF bi
   (first | rw [aQ] | (simp only [A2i, A2u]; rw [aQ]) | skip)
   replace H := bkH H; obtain ⟨⟨bp, bq, br, bs, bt, bu, bv⟩, hR, H⟩ := H; (try dsimp only at H); have H' := ak H; clear H; have fZ := al.out; have ga := am.out; have gb := an.out; have gc := ao.out; have gf := az.out; have gg := a1.out; have gh := a4.out; have gj := a5.out; obtain ⟨cV, cW, cX, cY, cZ, da, db, dc⟩ := kc8 ad; obtain ⟨dd, de, df, dg, dh, di, dj, dk⟩ := kf8 ad
   go_wp2_with (first | ((with_reducible refine A0l (f := 52) rfl ?_); refine A1d (some 37) rfl rfl Tryd.func52 (by kernel_rfl) rfl #[.int .i64 a0, .agg #[.int .i64 a2, .int .i64 aA, .int .i64 aB, .int .u64 aC, .int .u64 aD, .int .u64 aE, .int .i64 aF, .int .i64 aG], .slice A2 l2.length c2, .int .i64 a3] rfl km ?_; (with_reducible refine (A2w.calls k a0 a2 aA aB aC aD aE aF aG _ _ l2 a3 bp bq br bs bt bu bv _ ?aT ?aU ?bw hR.out).mono ?_); (case aT => exact A39.below HT.out (kl HB) (Nat.le_refl _)); (case aU => exact kC (Kd.A1i fD.out HB.out)); (case bw => exact fE.out); rintro e i1 ⟨rfl, hb⟩; refine ⟨_, rfl, ?_⟩; replace ad := kB ad hb; replace ac := kB ac hb; replace aa := kB aa hb; replace ag := kB ag hb; replace au := kB au hb; replace HB := kH HB hb; (try simp only [A0i, A0j]); have gk := aw.out; have gm := av.out; have gn := ay.out; have gp := ax.out; have gq := aH.out; have gr := aI.out; obtain ⟨dl, dm⟩ := kc2 ag; obtain ⟨dn, dp⟩ := kf2 ag; have gs := a7.out; have gv := a6.out; have gw := a9.out; have gx := a8.out; obtain ⟨dq, dr, dt⟩ := kc3 au; obtain ⟨du, dv, dw⟩ := kf3 au))
   go_meet
   case rel => exact ⟨_, (bu), (bv), (bp), (bq), (br), (bs), (bt), kE, kE, H', kO, ⟨(kb ad)⟩, ⟨(kb ac)⟩, ⟨(kb aa)⟩, ⟨(kb ag)⟩, ⟨(kb au)⟩, ⟨(kl HB)⟩⟩
  case rest =>
   clear fz; obtain ⟨kq, aP, aS, ae, af, ah, ai, aj, rfl, rfl, HA, i3, ad, ac, aa, ag, au, HB⟩ := hcut
   cases kq with
   | zero => exact absurd HA.out (by simp [A1u.j0])
   | succ dz =>
    have H := HA.out; clear HA; simp only [A1u.j0] at H
    rcases aS with _ | bx
    ·have H1 : (if a2 > 0 then (if ae ≤ aA then (some (0, 0, 0, 0, 0, 0, 0, 0, 0, 0, 0, some 4)) else ((A1f.f dz a0 a2 aA aB aC aD aE aF aG ae af ah ai aj).bind fun aL => (some (ae, af, aL.1, aL.2.1, aL.2.2.1, aL.2.2.2.1, aL.2.2.2.2.1, aL.2.2.2.2.2.1, aL.2.2.2.2.2.2.1, aL.2.2.2.2.2.2.2, aP, none)))) else ((A1f.f dz a0 a2 aA aB aC aD aE aF aG ae af ah ai aj).bind fun aM => (some (ae, af, aM.1, aM.2.1, aM.2.2.1, aM.2.2.2.1, aM.2.2.2.2.1, aM.2.2.2.2.2.1, aM.2.2.2.2.2.2.1, aM.2.2.2.2.2.2.2, aP, none)))) = some (r1, r2, r3, r4, r5, r6, r7, r8, r9, aX, aY, aZ) := by rw [if_pos (show (none : Option Int).isNone = true by rfl)] at H; exact H
     clear H; have H := H1; clear H1
     try simp only [A0i, A0j]
     by_cases aV : a2 > 0
     ·rw [kIp aV] at H; have bz : decide (0 < a2) = true := kTt aV; clear aV
      by_cases aW : ae ≤ aA
      ·rw [kIp aW] at H; have b0 := kTt aW; clear aW; simp only [Option.some.injEq, Prod.mk.injEq] at H; obtain ⟨rfl, rfl, rfl, rfl, rfl, rfl, rfl, rfl, rfl, rfl, rfl, rfl⟩ := H; have gy := al.out; have gz := am.out; have g0 := an.out; have g1 := ao.out; have g2 := az.out; have g3 := a1.out; have g4 := a4.out; have g5 := a5.out; obtain ⟨d0, d5, d6, d7, d8, d9, dA, dB⟩ := kc8 ad; obtain ⟨dC, dD, dF, dG, dH, dI, dJ, dK⟩ := kf8 ad; have g6 := aw.out; have g7 := av.out; have g8 := ay.out; have g9 := ax.out; have gA := aH.out; have gB := aI.out; obtain ⟨dL, dM⟩ := kc2 ag; obtain ⟨dN, dO⟩ := kf2 ag; have gC := ap.out; have gD := aq.out; have gE := a6.out; have gF := a7.out; obtain ⟨dP, dQ⟩ := kc2 ac; obtain ⟨dR, dS⟩ := kf2 ac; have gG := a8.out; have gH := a9.out; obtain ⟨dT, dU, dV, dW, dX, dY, dZ, ea⟩ := kc8 aa; obtain ⟨eb, ec, ed, ee, ef, eg, eh, ei⟩ := kf8 aa
       go_wp2
       refine bodyPost_ret (A1c (rs := [.cell 8 42, .cell 9 32, .tmp 10, .tmp 11]) rfl (by simp) (.cell aJ 42 #[.int .i64 0, .int .u64 0] (0, 0) _ rfl (kb ac) Tryd.underlying42 rfl (by kernel_rfl) (.cell aK 32 #[.int .i64 0, .int .i64 0, .int .i64 0, .int .u64 0, .int .u64 0, .int .u64 0, .int .i64 0, .int .i64 0] (0, 0) _ rfl (kb aa) Tryd.underlying32 rfl (by kernel_rfl) (.tmp (.tmp .nil))))) rfl ?_
       exact ⟨kF, (kl HB)⟩
      rw [kIn aW] at H; have b0 := kFf aW; clear aW; replace H := bkH H; obtain ⟨⟨b1, b2, b3, b4, b5, b6, b7, b8⟩, hS, H⟩ := H; (try dsimp only at H); simp only [Option.some.injEq, Prod.mk.injEq] at H; obtain ⟨rfl, rfl, rfl, rfl, rfl, rfl, rfl, rfl, rfl, rfl, rfl, rfl⟩ := H; have gI := al.out; have gJ := am.out; have gK := an.out; have gL := ao.out; have gM := az.out; have gN := a1.out; have gO := a4.out; have gP := a5.out; obtain ⟨ej, ek, el, em, eo, ep, et, eu⟩ := kc8 ad; obtain ⟨ev, ew, ex, ey, ez, e0, e4, e5⟩ := kf8 ad; have gQ := aw.out; have gR := av.out; have gS := ay.out; have gT := ax.out; have gU := aH.out; have gV := aI.out; obtain ⟨e6, e7⟩ := kc2 ag; obtain ⟨e8, e9⟩ := kf2 ag
      try go_wp2
      replace ad := ak (A0v ad.out); replace ac := ak (A0v ac.out); replace aa := ak (A0v aa.out); replace ag := ak (A0v ag.out); replace au := ak (A0v au.out); replace HB := ak (A04 HB.out)
      refine A28 (n := 11) (S := fun w' => w'.cell? ⟨aO, 0, none⟩ = some (.int .i64 ae) ∧ w'.cell? ⟨aO, 1, none⟩ = some (.int .u64 af) ∧ w'.cell? ⟨ar, 0, none⟩ = some (.int .i64 a2) ∧ w'.cell? ⟨ar, 1, none⟩ = some (.int .i64 aA) ∧ w'.cell? ⟨ar, 2, none⟩ = some (.int .i64 aB) ∧ w'.cell? ⟨ar, 3, none⟩ = some (.int .u64 aC) ∧ w'.cell? ⟨ar, 4, none⟩ = some (.int .u64 aD) ∧ w'.cell? ⟨ar, 5, none⟩ = some (.int .u64 aE) ∧ w'.cell? ⟨ar, 6, none⟩ = some (.int .i64 aF) ∧ w'.cell? ⟨ar, 7, none⟩ = some (.int .i64 aG) ∧ w'.cell? ⟨aN, 0, none⟩ = some (.int .u64 ah) ∧ w'.cell? ⟨aN, 1, none⟩ = some (.int .i64 ai) ∧ w'.cell? ⟨aN, 2, none⟩ = some (.int .i64 aj)) (ds := []) (bl 11 0) (by kernel_rfl) rfl rfl kz (fun hHeld => ?_); refine A2j A1u.tab14 A1u.bits14 (fun HT_ HW_ => ?_)
      generalize wc.drew = i4 at ad ac aa ag au HB hHeld ⊢; refine pv 1 63 ?_; refine pv 6 68 ?_; refine ta 0 (some 62) (bl 11 67) (h := ?_); refine ta 2 (some 64) (bl 11 71) (h := ?_); refine ta 3 (some 65) (bl 11 79) (h := ?_); refine ta 4 (some 66) (bl 11 95) (h := ?_); refine one_ (i := 5) (N := some 67) (bl 11 127) rfl rfl (A2s HT_.out (by kernel_rfl)) (by decide) (fun K hK => ?_); refine goes_ Tryd.func53 (by kernel_rfl) rfl #[.int .i64 a0, .agg #[.int .i64 a2, .int .i64 aA, .int .i64 aB, .int .u64 aC, .int .u64 aD, .int .u64 aE, .int .i64 aF, .int .i64 aG], .agg #[.int .i64 ae, .int .u64 af], .agg #[.int .u64 ah, .int .i64 ai, .int .i64 aj]] (by rfl) rfl rfl km ?_
      with_reducible refine (A1f.calls dz a0 a2 aA aB aC aD aE aF aG ae af ah ai aj b1 b2 b3 b4 b5 b6 b7 b8 _ hS.out).mono ?_
      rintro e i5 ⟨rfl, hb⟩; refine ⟨_, rfl, ?_⟩; replace ad := kB ad hb; replace ac := kB ac hb; replace aa := kB aa hb; replace ag := kB ag hb; replace au := kB au hb; replace HB := kH HB hb; refine hK.out _ _ kz (fun hHeld => ?_); clear hK K; refine nm (some 67) (h := ?_)
      refine one_ (i := 7) (N := none) (bl 11 255) rfl rfl (A2s HT_.out (by kernel_rfl)) (by decide) (fun K hK => ?_); have hU := (kc2 ac).1; have gW := A0d ac.out 0; have eA := al.out; have eB := aq.out; have eC := aw.out; have eD := a7.out; have eE := am.out; have eF := ap.out; have eG := av.out; have eH := a6.out; have hV := (kc2 ac).2; have gX := A0d ac.out 1; refine skip_ (w1 := ?_) (by rfl) rfl ?_ ?_
      rotate_left
      ·go_simp
       rfl
      refine hK.out _ _ (ks hHeld) (fun hHeld => ?_); clear hK K; refine one_ (i := 8) (N := none) (bl 11 511) rfl rfl (A2s HT_.out (by kernel_rfl)) (by decide) (fun K hK => ?_); have hW := (kc8 aa).1; have gY := A0d aa.out 0; have eI := an.out; have eJ := ap.out; have eK := ay.out; have eL := a9.out; have eM := ao.out; have eN := aq.out; have eO := ax.out; have eP := a8.out; have hX := (kc8 aa).2.1; have gZ := A0d aa.out 1; have hY := (kc8 aa).2.2.1; have ha := A0d aa.out 2; have hZ := (kc8 aa).2.2.2.1; have hc := A0d aa.out 3; have ia := (kc8 aa).2.2.2.2.1; have he := A0d aa.out 4; have ib := (kc8 aa).2.2.2.2.2.1; have hf := A0d aa.out 5; have ic := (kc8 aa).2.2.2.2.2.2.1; have hh := A0d aa.out 6; have ie := (kc8 aa).2.2.2.2.2.2.2; have hi := A0d aa.out 7; refine skip_ (w1 := ?_) (by rfl) rfl ?_ ?_
      rotate_left
      ·go_simp
       rfl
      refine hK.out _ _ (ks hHeld) (fun hHeld => ?_); clear hK K; refine pv 9 10 ?_; refine pv 10 11 ?_; refine A3u (A22 HT_.out (by kernel_rfl)) ?_
      try go_wp2
      refine bodyPost_ret (A1c (rs := [.cell 8 42, .cell 9 32, .tmp 10, .tmp 11]) rfl (by simp) (.cell aJ 42 #[.int .i64 ae, .int .u64 af] (0, 0) _ rfl (kb ac) Tryd.underlying42 rfl (by kernel_rfl) (.cell aK 32 #[.int .i64 b1, .int .i64 b2, .int .i64 b3, .int .u64 b4, .int .u64 b5, .int .u64 b6, .int .i64 b7, .int .i64 b8] (0, 0) _ rfl (kb aa) Tryd.underlying32 rfl (by kernel_rfl) (.tmp (.tmp .nil))))) rfl ?_
      exact ⟨kF, (kl HB)⟩
     rw [kIn aV] at H; have bz : decide (0 < a2) = false := kFf aV; clear aV; replace H := bkH H; obtain ⟨⟨b9, bA, bB, bC, bD, bE, bF, bG⟩, ig, H⟩ := H; (try dsimp only at H); simp only [Option.some.injEq, Prod.mk.injEq] at H; obtain ⟨rfl, rfl, rfl, rfl, rfl, rfl, rfl, rfl, rfl, rfl, rfl, rfl⟩ := H; have hl := al.out; have hm := am.out; have hn := an.out; have hp := ao.out; have hq := az.out; have hs := a1.out; have ht := a4.out; have hu := a5.out; obtain ⟨eQ, eR, eS, eT, eU, eV, eW, eX⟩ := kc8 ad; obtain ⟨eY, eZ, fa, fb, fc, fd, fe, ff⟩ := kf8 ad
     try go_wp2
     replace ad := ak (A0v ad.out); replace ac := ak (A0v ac.out); replace aa := ak (A0v aa.out); replace ag := ak (A0v ag.out); replace au := ak (A0v au.out); replace HB := ak (A04 HB.out)
     refine A28 (n := 11) (S := fun w' => w'.cell? ⟨aO, 0, none⟩ = some (.int .i64 ae) ∧ w'.cell? ⟨aO, 1, none⟩ = some (.int .u64 af) ∧ w'.cell? ⟨ar, 0, none⟩ = some (.int .i64 a2) ∧ w'.cell? ⟨ar, 1, none⟩ = some (.int .i64 aA) ∧ w'.cell? ⟨ar, 2, none⟩ = some (.int .i64 aB) ∧ w'.cell? ⟨ar, 3, none⟩ = some (.int .u64 aC) ∧ w'.cell? ⟨ar, 4, none⟩ = some (.int .u64 aD) ∧ w'.cell? ⟨ar, 5, none⟩ = some (.int .u64 aE) ∧ w'.cell? ⟨ar, 6, none⟩ = some (.int .i64 aF) ∧ w'.cell? ⟨ar, 7, none⟩ = some (.int .i64 aG) ∧ w'.cell? ⟨aN, 0, none⟩ = some (.int .u64 ah) ∧ w'.cell? ⟨aN, 1, none⟩ = some (.int .i64 ai) ∧ w'.cell? ⟨aN, 2, none⟩ = some (.int .i64 aj)) (ds := []) (bl 11 0) (by kernel_rfl) rfl rfl kz (fun hHeld => ?_); refine A2j A1u.tab14 A1u.bits14 (fun HT_ HW_ => ?_)
     generalize wc.drew = i6 at ad ac aa ag au HB hHeld ⊢; refine pv 1 63 ?_; refine pv 6 68 ?_; refine ta 0 (some 62) (bl 11 67) (h := ?_); refine ta 2 (some 64) (bl 11 71) (h := ?_); refine ta 3 (some 65) (bl 11 79) (h := ?_); refine ta 4 (some 66) (bl 11 95) (h := ?_); refine one_ (i := 5) (N := some 67) (bl 11 127) rfl rfl (A2s HT_.out (by kernel_rfl)) (by decide) (fun K hK => ?_); refine goes_ Tryd.func53 (by kernel_rfl) rfl #[.int .i64 a0, .agg #[.int .i64 a2, .int .i64 aA, .int .i64 aB, .int .u64 aC, .int .u64 aD, .int .u64 aE, .int .i64 aF, .int .i64 aG], .agg #[.int .i64 ae, .int .u64 af], .agg #[.int .u64 ah, .int .i64 ai, .int .i64 aj]] (by rfl) rfl rfl km ?_
     with_reducible refine (A1f.calls dz a0 a2 aA aB aC aD aE aF aG ae af ah ai aj b9 bA bB bC bD bE bF bG _ ig.out).mono ?_
     rintro e i7 ⟨rfl, hb⟩; refine ⟨_, rfl, ?_⟩; replace ad := kB ad hb; replace ac := kB ac hb; replace aa := kB aa hb; replace ag := kB ag hb; replace au := kB au hb; replace HB := kH HB hb; refine hK.out _ _ kz (fun hHeld => ?_); clear hK K; refine nm (some 67) (h := ?_)
     refine one_ (i := 7) (N := none) (bl 11 255) rfl rfl (A2s HT_.out (by kernel_rfl)) (by decide) (fun K hK => ?_); have ii := (kc2 ac).1; have hv := A0d ac.out 0; have fg := al.out; have fh := aq.out; have fi := aw.out; have fj := a7.out; have fk := am.out; have fl := ap.out; have fm := av.out; have fo := a6.out; have ij := (kc2 ac).2; have hw := A0d ac.out 1; refine skip_ (w1 := ?_) (by rfl) rfl ?_ ?_
     rotate_left
     ·go_simp
      rfl
     refine hK.out _ _ (ks hHeld) (fun hHeld => ?_); clear hK K; refine one_ (i := 8) (N := none) (bl 11 511) rfl rfl (A2s HT_.out (by kernel_rfl)) (by decide) (fun K hK => ?_); have ik := (kc8 aa).1; have hx := A0d aa.out 0; have fp := an.out; have fq := ap.out; have fs := ay.out; have ft := a9.out; have fu := ao.out; have fv := aq.out; have fw := ax.out; have fx := a8.out; have il := (kc8 aa).2.1; have hy := A0d aa.out 1; have im := (kc8 aa).2.2.1; have hz := A0d aa.out 2; have io := (kc8 aa).2.2.2.1; have h6 := A0d aa.out 3; have ip := (kc8 aa).2.2.2.2.1; have h7 := A0d aa.out 4; have iq := (kc8 aa).2.2.2.2.2.1; have h8 := A0d aa.out 5; have ir := (kc8 aa).2.2.2.2.2.2.1; have h9 := A0d aa.out 6; have iu := (kc8 aa).2.2.2.2.2.2.2; have hA := A0d aa.out 7; refine skip_ (w1 := ?_) (by rfl) rfl ?_ ?_
     rotate_left
     ·go_simp
      rfl
     refine hK.out _ _ (ks hHeld) (fun hHeld => ?_); clear hK K; refine pv 9 10 ?_; refine pv 10 11 ?_; refine A3u (A22 HT_.out (by kernel_rfl)) ?_
     try go_wp2
     refine bodyPost_ret (A1c (rs := [.cell 8 42, .cell 9 32, .tmp 10, .tmp 11]) rfl (by simp) (.cell aJ 42 #[.int .i64 ae, .int .u64 af] (0, 0) _ rfl (kb ac) Tryd.underlying42 rfl (by kernel_rfl) (.cell aK 32 #[.int .i64 b9, .int .i64 bA, .int .i64 bB, .int .u64 bC, .int .u64 bD, .int .u64 bE, .int .i64 bF, .int .i64 bG] (0, 0) _ rfl (kb aa) Tryd.underlying32 rfl (by kernel_rfl) (.tmp (.tmp .nil))))) rfl ?_
     exact ⟨kF, (kl HB)⟩
    have H1 : (some (0, 0, 0, 0, 0, 0, 0, 0, 0, 0, 0, some bx)) = some (r1, r2, r3, r4, r5, r6, r7, r8, r9, aX, aY, aZ) := by rw [if_neg (show ¬ (some bx).isNone = true by simp)] at H; exact H
    clear H; have H := H1; clear H1
    try simp only [A0i, A0j]
    simp only [Option.some.injEq, Prod.mk.injEq] at H; obtain ⟨rfl, rfl, rfl, rfl, rfl, rfl, rfl, rfl, rfl, rfl, rfl, rfl⟩ := H; have hB := am.out; have hC := al.out; have hD := ap.out; have hE := aq.out; have hF := av.out; have hG := aw.out; have hH := a6.out; have hI := a7.out; obtain ⟨bH, bI⟩ := kc2 ac; obtain ⟨bJ, bK⟩ := kf2 ac; have f0 := ao.out; have f2 := an.out; have f3 := ax.out; have f4 := ay.out; have f5 := a8.out; have f6 := a9.out; obtain ⟨bL, bM, bN, bO, bP, bQ, bR, bS⟩ := kc8 aa; obtain ⟨bT, bU, bV, bW, bX, bY, bZ, ca⟩ := kf8 aa
    go_wp2
    refine bodyPost_ret (A1c (rs := [.cell 8 42, .cell 9 32, .tmp 10, .tmp 11]) rfl (by simp) (.cell aJ 42 #[.int .i64 0, .int .u64 0] (0, 0) _ rfl (kb ac) Tryd.underlying42 rfl (by kernel_rfl) (.cell aK 32 #[.int .i64 0, .int .i64 0, .int .i64 0, .int .u64 0, .int .u64 0, .int .u64 0, .int .i64 0, .int .i64 0] (0, 0) _ rfl (kb aa) Tryd.underlying32 rfl (by kernel_rfl) (.tmp (.tmp .nil))))) rfl ?_
    exact ⟨kF, (kl HB)⟩
 replace c6 := Bool.eq_false_iff.mpr c6; subst c6
 rw [if_neg (show ¬ (false = true) by decide)] at H; simp only [Option.some.injEq, Prod.mk.injEq] at H; obtain ⟨rfl, rfl, rfl, rfl, rfl, rfl, rfl, rfl, rfl, rfl, rfl, rfl⟩ := H
 go_enter Tryd.func20, Tryd.ntmps20
 go_wp2_with (first | ((with_reducible refine A0s (N := 5) rfl ?_); refine bxe 5 #[.int .i64 a2, .int .i64 aA, .int .i64 aB, .int .u64 aC, .int .u64 aD, .int .u64 aE, .int .i64 aF, .int .i64 aG] 32 (h := ?_); intro ar hg iv hbox hb; have ad := ak (hbox); have ba := kG hg HB; have bb := kG hg HB; replace HB := kH HB hb; clear hb hbox hg) | ((with_reducible refine A0s (N := 8) rfl ?_); refine bxe 8 #[.int .i64 0, .int .u64 0] 42 (h := ?_); intro aJ hg iw hbox hb; have ac := ak (hbox); have bc := kG hg HB; have be := kG hg HB; replace HB := kH HB hb; obtain ⟨al, am⟩ := kN hg ad; replace ad := kB ad hb; clear hb hbox hg) | ((with_reducible refine A0s (N := 9) rfl ?_); refine bxe 9 #[.int .i64 0, .int .i64 0, .int .i64 0, .int .u64 0, .int .u64 0, .int .u64 0, .int .i64 0, .int .i64 0] 32 (h := ?_); intro aK hg aR hbox hb; have aa := ak (hbox); have bf := kG hg HB; have bh := kG hg HB; replace HB := kH HB hb; obtain ⟨an, ao⟩ := kN hg ad; replace ad := kB ad hb; obtain ⟨ap, aq⟩ := kN hg ac; replace ac := kB ac hb; clear hb hbox hg) | ((with_reducible refine A0l (f := 50) rfl ?_); refine A1d (some 17) rfl rfl Tryd.func50 (by kernel_rfl) rfl #[.int .i64 a0] rfl km ?_; (with_reducible refine (A32.calls a0 false _ A5.out).mono ?_); rintro e w' ⟨rfl, ⟨nd, rfl⟩⟩; refine ⟨_, rfl, ?_⟩; (repeat (rw [A3c aR]; generalize hq_ : World.drewN aR _ = aR; have hJ : A0b (aR.heap[ar]? = some (.cells #[.int .i64 a2, .int .i64 aA, .int .i64 aB, .int .u64 aC, .int .u64 aD, .int .u64 aE, .int .i64 aF, .int .i64 aG] 32 (0, 0))) := ⟨by rw [← hq_]; exact (kb ad)⟩; have hL : A0b (aR.heap[aJ]? = some (.cells #[.int .i64 0, .int .u64 0] 42 (0, 0))) := ⟨by rw [← hq_]; exact (kb ac)⟩; have hM : A0b (aR.heap[aK]? = some (.cells #[.int .i64 0, .int .i64 0, .int .i64 0, .int .u64 0, .int .u64 0, .int .u64 0, .int .i64 0, .int .i64 0] 32 (0, 0))) := ⟨by rw [← hq_]; exact (kb aa)⟩; have hN : A0b (Below w.heap.size w aR) := ⟨by rw [← hq_]; exact (kl HB)⟩; clear ad ac aa HB hq_; have ad := hJ; have ac := hL; have aa := hM; have HB := hN; clear hJ hL hM hN)); have f7 := am.out; have f8 := al.out; have f9 := ap.out; have fA := aq.out; obtain ⟨cc, cf⟩ := kc2 ac; obtain ⟨cg, ch⟩ := kf2 ac; have fB := ao.out; have fC := an.out; obtain ⟨ci, cj, ck, cm, co, cp, cq, cr⟩ := kc8 aa; obtain ⟨cs, ct, cu, cv, cw, cx, cy, cz⟩ := kf8 aa))
 refine bodyPost_ret (A1c (rs := [.cell 8 42, .cell 9 32, .tmp 10, .tmp 11]) rfl (by simp) (.cell aJ 42 #[.int .i64 0, .int .u64 0] (0, 0) _ rfl (kb ac) Tryd.underlying42 rfl (by kernel_rfl) (.cell aK 32 #[.int .i64 0, .int .i64 0, .int .i64 0, .int .u64 0, .int .u64 0, .int .u64 0, .int .i64 0, .int .i64 0] (0, 0) _ rfl (kb aa) Tryd.underlying32 rfl (by kernel_rfl) (.tmp (.tmp .nil))))) rfl ?_
 exact ⟨kF, (kl HB)⟩
end Go.Proofs.YtodocfjbpkicgaaDoor.All
