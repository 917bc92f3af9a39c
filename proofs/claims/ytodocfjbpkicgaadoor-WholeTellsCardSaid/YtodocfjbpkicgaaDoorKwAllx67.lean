-- copied by a program of the session
import Derived.Test.YtodocfjbpkicgaaDoorKwAllx43
import Derived.Test.YtodocfjbpkicgaaDoorKwAllx65
set_option linter.unusedSimpArgs false
set_option linter.unusedVariables false
set_option maxHeartbeats 8000000
set_option maxRecDepth 100000
namespace Go.Proofs.YtodocfjbpkicgaaDoor.All
open Go.RowKit Go.Zw Go.Zl Go.Zm
attribute [local go_sem] A2h A2r
attribute [local go_sem high] errW_match A34
mutual
def A0r.j0 : Nat → List Int → Bool → List Int → Int → Option Int → Int → Option (Int × (List (S62)) × Int × Option Int)
 | 0, _, _, _, _, _, _ => none
 | k + 1, x0, af, aa, ac, ae, ad => if af = true then (A0r.j1 k x0 aa ac (some 6) ad) else (A0r.j1 k x0 aa ac ae ad)
def A0r.j1 : Nat → List Int → List Int → Int → Option Int → Int → Option (Int × (List (S62)) × Int × Option Int)
 | 0, _, _, _, _, _ => none
 | k + 1, x0, ae, af, ag, ad => (A0e.f k ae af ag).bind fun aa => ((A0k.f k aa.2.1 aa.2.2.1 aa.2.2.2 4).bind fun ac => (if ac.2.2.2.isNone = true then (if 0 ≤ aa.2.2.1 then (if aa.2.2.1 ≤ (x0.length : Int) then ((A2f.f k (x0.take (aa.2.2.1 : Int).toNat)).bind fun ah => (A0r.j2 k x0 aa.1 (ac.1 != (IntKind.u64.wrap (ah))) ac.2.1 ac.2.2.1 none ad)) else (none)) else (none)) else (A0r.j2 k x0 aa.1 false ac.2.1 ac.2.2.1 (some (ac.2.2.2.getD 0)) ad)))
def A0r.j2 : Nat → List Int → List (S178) → Bool → List Int → Int → Option Int → Int → Option (Int × (List (S62)) × Int × Option Int)
 | 0, _, _, _, _, _, _, _ => none
 | k + 1, x0, x7, af, aa, ac, ae, ad => if af = true then (A0r.j3 k x0 x7 aa ac (some 7) ad) else (A0r.j3 k x0 x7 aa ac ae ad)
def A0r.j3 : Nat → List Int → List (S178) → List Int → Int → Option Int → Int → Option (Int × (List (S62)) × Int × Option Int)
 | 0, _, _, _, _, _, _ => none
 | k + 1, x0, x7, ad, aa, ac, ae => if ac.isNone = true then (A0r.l0 k (wrap64 ((x0.length : Int) - aa)) x7 (x7.length : Int) 0 ad aa none ae ([] : List (S62))) else (some (0, ([] : List (S62)), 0, some (ac.getD 0)))
def A0r.l0 : Nat → Int → List (S178) → Int → Int → List Int → Int → Option Int → Int → List (S62) → Option (Int × (List (S62)) × Int × Option Int)
 | 0, _, _, _, _, _, _, _, _, _ => none
 | k + 1, al, ai, am, ah, af, ae, ag, ad, ac => if ah < am then (if 0 ≤ ah then (if ah < (ai.length : Int) then ((A3r.f ((A1l ai ah).f0) ((A1l ai ah).f1) ((A1l ai ah).f2) ((A1l ai ah).f3)).bind fun aa => (if aa.2.2.2.2 = true then (if aa.2.2.2.1 > al then (some (0, ([] : List (S62)), 0, some 8)) else (if ac.length < 4398046511104 then (A0r.l0 k (wrap64 (al - aa.2.2.2.1)) ai am (wrap64 (ah + 1)) af ae ag ad (ac ++ [(⟨aa.1, aa.2.1, aa.2.2.1, aa.2.2.2.1⟩ : S62)])) else (none))) else (some (0, ([] : List (S62)), 0, some 8)))) else (none)) else (none)) else (if al = 0 then ((A1v.f k ad ac).bind fun aj => (if aj = true then (some (ad, ac, ae, none)) else (some (0, ([] : List (S62)), 0, some 8)))) else (some (0, ([] : List (S62)), 0, some 8)))
end
def A0r.f (k : Nat) (l0 : List Int) : Option (Int × (List (S62)) × Int × Option Int) := (strings_HasPrefix.f (strOfNums l0) (⟨#[71, 84, 83, 49]⟩ : ByteArray)).bind fun ac => (if ac = true then ((A0k.f k l0 4 none 1).bind fun aa => (if aa.2.2.2.isNone = true then (if (wrap64 (aa.1)) = 1 then (A0r.j0 k l0 false aa.2.1 aa.2.2.1 none (wrap64 (aa.1))) else (A0r.j0 k l0 ((wrap64 (aa.1)) != 2) aa.2.1 aa.2.2.1 none (wrap64 (aa.1)))) else (A0r.j0 k l0 false aa.2.1 aa.2.2.1 (some (aa.2.2.2.getD 0)) (wrap64 (aa.1))))) else (some (0, ([] : List (S62)), 0, some 5)))
theorem A0r.A2x : ∀ k, (∀ y0 y1 y2 y3 y4 y5, LeO (A0r.j0 k y0 y1 y2 y3 y4 y5) (A0r.j0 (k + 1) y0 y1 y2 y3 y4 y5)) ∧ (∀ y0 y1 y2 y3 y4, LeO (A0r.j1 k y0 y1 y2 y3 y4) (A0r.j1 (k + 1) y0 y1 y2 y3 y4)) ∧ (∀ y0 y1 y2 y3 y4 y5 y6, LeO (A0r.j2 k y0 y1 y2 y3 y4 y5 y6) (A0r.j2 (k + 1) y0 y1 y2 y3 y4 y5 y6)) ∧ (∀ y0 y1 y2 y3 y4 y5, LeO (A0r.j3 k y0 y1 y2 y3 y4 y5) (A0r.j3 (k + 1) y0 y1 y2 y3 y4 y5)) ∧ (∀ y0 y1 y2 y3 y4 y5 y6 y7 y8, LeO (A0r.l0 k y0 y1 y2 y3 y4 y5 y6 y7 y8) (A0r.l0 (k + 1) y0 y1 y2 y3 y4 y5 y6 y7 y8))
 | 0 => ⟨fun _ _ _ _ _ _ r h => by simp [A0r.j0] at h, fun _ _ _ _ _ r h => by simp [A0r.j1] at h, fun _ _ _ _ _ _ _ r h => by simp [A0r.j2] at h, fun _ _ _ _ _ _ r h => by simp [A0r.j3] at h, fun _ _ _ _ _ _ _ _ _ r h => by simp [A0r.l0] at h⟩
 | k + 1 => by
  obtain ⟨ih0, ih1, ih2, ih3, ih4⟩ := A0r.A2x k
  refine ⟨?_, ?_, ?_, ?_, ?_⟩ <;> intros <;> (first | unfold A0r.j0 | unfold A0r.j1 | unfold A0r.j2 | unfold A0r.j3 | unfold A0r.l0) <;> (
   repeat' first
   | with_reducible apply ih0
   | with_reducible apply ih1
   | with_reducible apply ih2
   | with_reducible apply ih3
   | with_reducible apply ih4
   | with_reducible apply A2f.mono
   | with_reducible apply A1v.mono
   | with_reducible apply A0k.mono
   | with_reducible apply A0e.mono
   | (with_reducible exact LeO.refl _)
   | (with_reducible exact LeO.none _)
   | (with_reducible refine LeO.ite ?_ ?_)
   | (with_reducible refine LeO.bind ?_ (fun _ => ?_))
   | exact LeO.none _
   | refine LeO.ite ?_ ?_
   | refine LeO.bind ?_ (fun _ => ?_))
theorem A0r.mono : ∀ a0 k, LeO (A0r.f k a0) (A0r.f (k + 1) a0) := by
 intro a0 k
 obtain ⟨ih0, ih1, ih2, ih3, ih4⟩ := A0r.A2x k
 unfold A0r.f
 repeat' first
   | with_reducible apply ih0
   | with_reducible apply ih1
   | with_reducible apply ih2
   | with_reducible apply ih3
   | with_reducible apply ih4
   | with_reducible apply A2f.mono
   | with_reducible apply A1v.mono
   | with_reducible apply A0k.mono
   | with_reducible apply A0e.mono
   | (with_reducible exact LeO.refl _)
   | (with_reducible exact LeO.none _)
   | (with_reducible refine LeO.ite ?_ ?_)
   | (with_reducible refine LeO.bind ?_ (fun _ => ?_))
   | exact LeO.none _
   | refine LeO.ite ?_ ?_
   | refine LeO.bind ?_ (fun _ => ?_)
def A0r.T13 : Bool × List (List Nat × List Nat) := (true, [([], []), ([], []), ([1], [1]), ([2], [2]), ([3], [3]), ([0, 0], [0]), ([5, 0, 5], []), ([4, 6, 0, 1, 2, 3, 4, 5, 6], [4])])
def A0r.B13 : List Nat := [0, 0, 2, 6, 14, 1, 33, 127]
theorem A0r.tab13 : rtab .any (opsOf Tryd.f66 13) = A0r.T13 := by kernel_rfl
theorem A0r.bits13 : A26 A0r.T13.2 A0r.B13 = true := by kernel_rfl
def A0r.T26 : Bool × List (List Nat × List Nat) := (true, [([], []), ([], []), ([1], [1]), ([2], [2]), ([3], [3]), ([0, 0], [0]), ([4, 5, 0, 1, 2, 3, 4, 5], [4]), ([6, 0, 1, 2, 3, 4, 5, 6], [])])
def A0r.B26 : List Nat := [0, 0, 2, 6, 14, 1, 63, 127]
theorem A0r.tab26 : rtab .any (opsOf Tryd.f66 26) = A0r.T26 := by kernel_rfl
theorem A0r.bits26 : A26 A0r.T26.2 A0r.B26 = true := by kernel_rfl
theorem A0r.calls (k : Nat) (A0 : Option Addr) (c0 : Nat) (l0 : List Int) (r1 : Int) (r2 : List (S62)) (r3 : Int) (r4 : Option Int) (w : World) (hr0 : Kd.C (Kd.int .u8) w A0 l0.length l0) (hc0 : l0.length ≤ c0) (h : A0r.f k l0 = some (r1, r2, r3, r4)) :
  Calls Tryd.prog 66 #[.slice A0 l0.length c0] w fun e w' => ∃ gj : Value, e = .returned (.tuple #[.agg #[.int .i64 r1, gj], .int .i64 r3, errW r4]) ∧ Kd.R k62 62 w' w.heap.size (fun _ => True) gj r2 ∧ Below w.heap.size w w' := by
 have hu113 := Tryd.underlying113; have hu173 := Tryd.underlying173; have hu178 := Tryd.underlying178; have hu62 := Tryd.underlying62; have hu38 := Tryd.underlying38; have hu94 := Tryd.underlying94; have bL := ak hr0; have gm := ak hc0; clear hr0 hc0; have HB := ak (Below.refl w.heap.size w); have H := h; clear h; unfold A0r.f at H; replace H := bkH H; obtain ⟨ck, A2, H⟩ := H
 by_cases c3 : ck = true
 ·subst c3
  rw [if_pos rfl] at H; replace H := bkH H; obtain ⟨⟨ap, aV, aW, bc⟩, A4, H⟩ := H; (try dsimp only at H); have fB := ak H; clear H
  go_enter Tryd.func66, Tryd.ntmps66
  go_upto_region 5 with (first | ((with_reducible refine A0s (N := 2) rfl ?_); refine bxe 2 #[.int .i64 0, .slice none 0 0] 113 (h := ?_); intro aq hg w6 hbox hb; have ac := ak (hbox); have bU := kG hg HB; have bV := kG hg HB; replace HB := kH HB hb; clear hb hbox hg; have hcv7 := Kd.A3m (P := Tryd.prog) (A := A0) (c := c0) Tryd.underlying22 Tryd.underlying5 Tryd.underlying9 (Kd.A1i bL.out HB.out); have hcv7d := fun (m_ : Nat) => Kd.A3m (P := Tryd.prog) (A := A0) (c := c0) Tryd.underlying22 Tryd.underlying5 Tryd.underlying9 (Kd.C_drewN (Kd.A1i bL.out HB.out) m_); (try (have hcv7e := Kd.A3m (P := Tryd.prog) (A := A0) (c := c0) Tryd.underlying22 Tryd.underlying5 Tryd.underlying9 (Kd.C_drew (Kd.A1i bL.out HB.out))))) | ((with_reducible refine A0l (f := 94) rfl ?_); refine A1d (some 17) rfl rfl Tryd.func94 (by kernel_rfl) rfl #[.string (strOfNums l0), .string (⟨#[71, 84, 83, 49]⟩ : ByteArray)] rfl km ?_; (with_reducible refine (strings_HasPrefix.calls (strOfNums l0) (⟨#[71, 84, 83, 49]⟩ : ByteArray) true _ A2.out).mono ?_); rintro e w' ⟨rfl, ⟨nd, rfl⟩⟩; refine ⟨_, rfl, ?_⟩; (repeat (rw [A3c w6]; generalize hq_ : World.drewN w6 _ = w6; have bM : A0b (w6.heap[aq]? = some (.cells #[.int .i64 0, .slice none 0 0] 113 (0, 0))) := ⟨by rw [← hq_]; exact (kb ac)⟩; have bN : A0b (Below w.heap.size w w6) := ⟨by rw [← hq_]; exact (kl HB)⟩; clear ac HB hq_; have ac := bM; have HB := bN; clear bM bN))) | ((with_reducible refine A0s (N := 23) rfl ?_); refine bxe 23 #[.slice A0 l0.length c0, .int .i64 4, errW none] 173 (h := ?_); intro ai hg w8 hbox hb; have fC := kG hg HB; have fD := kG hg HB; obtain ⟨av, af⟩ := kN hg ac; replace ac := kB ac hb; have aa := ak ((show A0a w w8 ai l0 4 none from ⟨_, _, hbox, (by rw [hg]; exact (A0t (kl HB))), bL.out, gm.out⟩)); replace HB := kH HB hb; clear hb hbox hg) | ((with_reducible refine A0l (f := 95) rfl ?_); refine A1d (some 25) rfl rfl Tryd.func95 (by kernel_rfl) rfl #[.pointer (some ⟨ai, 0, none⟩), .int .i64 1] rfl km ?_; (with_reducible refine (A0k.calls k ai l0 4 none 1 ap aV aW bc w _ ?aX ?aY A4.out).mono ?_); (case aX => repeat (first | (with_reducible first | exact aa.out | apply A0a.alloc | apply A0a.drewN | apply A0a.drew | apply A0a.A3y | apply A0a.A2g | refine A0a.far ?_ af.out _) | exact aa.out | apply A0a.A2g (x := some _) | apply A0a.A2g (x := none))); (case aY => exact A0a.kl HB); rintro e w9 ⟨rfl, hi, hb, hk⟩; refine ⟨_, rfl, ?_⟩; replace ac := ak (A1r.blk hk (g' := aq) (o := .cells #[.int .i64 0, .slice none 0 0] 113 (0, 0)) (kb ac) av.out (by simp)); replace HB := ak (hb); replace aa := ak (hi); (try simp only [A0i, A0j])) | ((with_reducible refine A0s (N := 6) rfl ?_); refine bxe 6 #[.int .i64 0, .slice none 0 0] 113 (h := ?_); intro ay hg il hbox hb; have ad := ak (hbox); have fE := ak ((by rw [hg]; exact (A0t (A0a.kl HB)) : w.heap.size ≤ ay)); have fF := ak ((by rw [hg]; exact (A0t (A0a.kl HB)) : w.heap.size ≤ ay)); replace HB := ak (A2t (A0a.kl HB) hb); obtain ⟨an, ao⟩ := kN hg ac; replace ac := kB ac hb; have ah := ak ((by rw [hg]; exact Nat.ne_of_lt (A0a.lt (show A0a w _ ai aV aW bc from by repeat (first | (with_reducible first | exact aa.out | apply A0a.alloc | apply A0a.drewN | apply A0a.drew | apply A0a.A3y | apply A0a.A2g | refine A0a.far ?_ af.out _) | exact aa.out | apply A0a.A2g (x := some _) | apply A0a.A2g (x := none)))) : ai ≠ ay)); have ax := ak ((by rw [hg]; exact Nat.ne_of_gt (A0a.lt (show A0a w _ ai aV aW bc from by repeat (first | (with_reducible first | exact aa.out | apply A0a.alloc | apply A0a.drewN | apply A0a.drew | apply A0a.A3y | apply A0a.A2g | refine A0a.far ?_ af.out _) | exact aa.out | apply A0a.A2g (x := some _) | apply A0a.A2g (x := none)))) : ay ≠ ai)); replace aa := ak (A0a.below (A0a.k aa) hb); clear hb hbox hg; have gn := ao.out; have gp := an.out; have gq := ax.out; have gr := ah.out; obtain ⟨dm, dn⟩ := kc2 ad; obtain ⟨dp, dq⟩ := kf2 ad))
  (try simp only [Act.put, List.setIfInBounds_toArray, List.set_cons_zero, List.set_cons_succ])
  go_cut [42] (fun hT wc => ∃ (kq : Nat) (bs : Bool), hT = .bool bs ∧ A0b (A0r.j0 kq l0 bs aV aW bc (wrap64 (ap)) = some (r1, r2, r3, r4)) ∧ A0b (kq ≤ k) ∧ A0b (wc.heap[aq]? = some (.cells #[.int .i64 0, (.slice none 0 0)] 113 (0, 0))) ∧ A0b (wc.heap[ay]? = some (.cells #[.int .i64 (wrap64 (ap)), (.slice none 0 0)] 113 (0, 0))) ∧ A0b (A0a w wc ai aV aW bc) ∧ A0b (Below w.heap.size w wc))
  case first =>
   have H := fB.out; clear fB
   rcases bc with _ | bO
   ·have H1 : (if (wrap64 (ap)) = 1 then (A0r.j0 k l0 false aV aW none (wrap64 (ap))) else (A0r.j0 k l0 ((wrap64 (ap)) != 2) aV aW none (wrap64 (ap)))) = some (r1, r2, r3, r4) := by rw [if_pos (show (none : Option Int).isNone = true by rfl)] at H; exact H
    clear H; have H := H1; clear H1
    try simp only [A0i, A0j]
    by_cases cm : (wrap64 (ap)) = 1
    ·rw [kIp cm] at H; obtain ⟨bi, co⟩ := kqT cm; clear cm
     (first | rw [bi] | (simp only [A2i, A2u]; rw [bi]) | skip)
     have H' := ak H; clear H; obtain ⟨ASz15_0, cSz15_0, HGz15, hgz15, HSz15_0, HLSz15_0⟩ := aa.out; have dr := A2o HGz15; have dt := A2p HGz15; have bA := A2q HGz15
     try simp only [A0i, A0j] at bA
     have du := A0d HGz15 0; have dv := A0d HGz15 1; have dw := A0d HGz15 2; clear HGz15 hgz15; have gs := ao.out; have gv := an.out; have gw := ax.out; have gx := ah.out; obtain ⟨dz, d0⟩ := kc2 ad; obtain ⟨d5, d6⟩ := kf2 ad
     go_wp2
     go_meet
     case rel => exact ⟨_, (false), kE, H', kO, ⟨(kb ac)⟩, ⟨(kb ad)⟩, ⟨(A0a.k aa)⟩, ⟨(A0a.kl HB)⟩⟩
    rw [kIn cm] at H; obtain ⟨bi, co⟩ := kqF cm
    (first | rw [bi] | (simp only [A2i, A2u]; rw [bi]) | skip)
    have H' := ak H; clear H; obtain ⟨ASz19_0, cSz19_0, HGz19, hgz19, HSz19_0, HLSz19_0⟩ := aa.out; have d7 := A2o HGz19; have d8 := A2p HGz19; have bB := A2q HGz19
    try simp only [A0i, A0j] at bB
    have d9 := A0d HGz19 0; have dA := A0d HGz19 1; have dB := A0d HGz19 2; clear HGz19 hgz19; have gy := ao.out; have gz := an.out; have g0 := ax.out; have g1 := ah.out; obtain ⟨dC, dD⟩ := kc2 ad; obtain ⟨dF, dG⟩ := kf2 ad
    go_wp2
    go_meet
    case rel => exact ⟨_, (((wrap64 (ap)) != 2)), kE, H', kO, ⟨(kb ac)⟩, ⟨(kb ad)⟩, ⟨(A0a.k aa)⟩, ⟨(A0a.kl HB)⟩⟩
   have H1 : (A0r.j0 k l0 false aV aW (some bO) (wrap64 (ap))) = some (r1, r2, r3, r4) := by rw [if_neg (show ¬ (some bO).isNone = true by simp)] at H; exact H
   clear H; have H := H1; clear H1
   try simp only [A0i, A0j]
   have H' := ak H; clear H; obtain ⟨ASz23_0, cSz23_0, HGz23, hgz23, HSz23_0, HLSz23_0⟩ := aa.out; have dH := A2o HGz23; have dI := A2p HGz23; have bC := A2q HGz23
   try simp only [A0i, A0j] at bC
   have dJ := A0d HGz23 0; have dK := A0d HGz23 1; have dL := A0d HGz23 2; clear HGz23 hgz23
   go_wp2
   go_meet
   case rel => exact ⟨_, (false), kE, H', kO, ⟨(kb ac)⟩, ⟨(kb ad)⟩, ⟨(A0a.k aa)⟩, ⟨(A0a.kl HB)⟩⟩
  case rest =>
   clear fB; obtain ⟨kq, bs, rfl, HA, bP, ac, ad, aa, HB⟩ := hcut
   cases kq with
   | zero => exact absurd HA.out (by simp [A0r.j0])
   | succ hU =>
    have H := HA.out; clear HA; simp only [A0r.j0] at H; have bW := ak H; clear H
    go_upto_if 42 with (fail)
    go_cut [] (fun wc => ∃ (kq : Nat) (aK : Option Int), A0b (A0r.j1 kq l0 aV aW aK (wrap64 (ap)) = some (r1, r2, r3, r4)) ∧ A0b (kq ≤ hU) ∧ A0b (wc.heap[aq]? = some (.cells #[.int .i64 0, (.slice none 0 0)] 113 (0, 0))) ∧ A0b (wc.heap[ay]? = some (.cells #[.int .i64 (wrap64 (ap)), (.slice none 0 0)] 113 (0, 0))) ∧ A0b (A0a w wc ai aV aW aK) ∧ A0b (Below w.heap.size w wc))
    case first =>
     have H := bW.out; clear bW
     by_cases dM : bs = true
     ·subst dM
      rw [if_pos rfl] at H; have H' := ak H; clear H; obtain ⟨ASz26_0, cSz26_0, HGz26, hgz26, HSz26_0, HLSz26_0⟩ := aa.out; have dN := A2o HGz26; have dO := A2p HGz26; have bD := A2q HGz26
      try simp only [A0i, A0j] at bD
      have dP := A0d HGz26 0; have dQ := A0d HGz26 1; have dR := A0d HGz26 2; clear HGz26 hgz26
      go_wp2
      go_meet
      case rel => exact ⟨_, (some 6), H', ⟨by have := bP.out; first | omega | exact Nat.le_refl _⟩, ⟨(kb ac)⟩, ⟨(kb ad)⟩, ⟨(A0a.k aa)⟩, ⟨(A0a.kl HB)⟩⟩
     replace dM := Bool.eq_false_iff.mpr dM; subst dM
     rw [if_neg (show ¬ (false = true) by decide)] at H; have H' := ak H; clear H
     go_wp2
     go_meet
     case rel => exact ⟨_, (bc), H', ⟨by have := bP.out; first | omega | exact Nat.le_refl _⟩, ⟨kb ac⟩, ⟨kb ad⟩, ⟨(A0a.k aa)⟩, ⟨(A0a.kl HB)⟩⟩
    case rest =>
     clear bW; obtain ⟨kq, aK, HA, bu, ac, ad, aa, HB⟩ := hcut
     cases kq with
     | zero => exact absurd HA.out (by simp [A0r.j1])
     | succ br =>
      have H := HA.out; clear HA; simp only [A0r.j1] at H; replace H := bkH H; obtain ⟨⟨ae, bv, aM, bw⟩, hV, H⟩ := H; (try dsimp only at H); replace H := bkH H; obtain ⟨⟨bx, aw, ar, bj⟩, hW, H⟩ := H; (try dsimp only at H); have bX := ak H; clear H
      go_upto_region 10 with (first | ((with_reducible refine A0l (f := 96) rfl ?_); refine A1d (some 48) rfl rfl Tryd.func96 (by kernel_rfl) rfl #[.pointer (some ⟨ai, 0, none⟩)] rfl km ?_; (with_reducible refine (A0e.calls br ai aV aW aK ae bv aM bw w _ ?aX ?aY hV.out).mono ?_); (case aX => repeat (first | (with_reducible first | exact aa.out | apply A0a.alloc | apply A0a.drewN | apply A0a.drew | apply A0a.A3y | apply A0a.A2g | refine A0a.far ?_ af.out _ | refine A0a.far ?_ ah.out _) | exact aa.out | apply A0a.A2g (x := some _) | apply A0a.A2g (x := none))); (case aY => exact A0a.kl HB); rintro e im ⟨bQ, rfl, ho0, hi, hb, hk⟩; refine ⟨_, rfl, ?_⟩; replace ac := ak (A1r.blk hk (g' := aq) (o := .cells #[.int .i64 0, .slice none 0 0] 113 (0, 0)) (kb ac) av.out (by simp)); replace ad := ak (A1r.blk hk (g' := ay) (o := .cells #[.int .i64 (wrap64 (ap)), .slice none 0 0] 113 (0, 0)) (kb ad) ax.out (by simp)); have bf := ak (Kd.A2l ho0 (A0t (A0a.kl HB))); replace HB := ak (hb); replace aa := ak (hi); (try simp only [A0i, A0j]); obtain ⟨ASz31_0, cSz31_0, HGz31, hgz31, HSz31_0, HLSz31_0⟩ := aa.out; have dS := A2o HGz31; have dT := A2p HGz31; have bE := A2q HGz31; try simp only [A0i, A0j] at bE; have dU := A0d HGz31 0; have dV := A0d HGz31 1; have dW := A0d HGz31 2; clear HGz31 hgz31) | ((with_reducible refine A0l (f := 95) rfl ?_); refine A1d (some 54) rfl rfl Tryd.func95 (by kernel_rfl) rfl #[.pointer (some ⟨ai, 0, none⟩), .int .i64 4] rfl km ?_; (with_reducible refine (A0k.calls br ai bv aM bw 4 bx aw ar bj w _ ?aX ?aY hW.out).mono ?_); (case aX => repeat (first | (with_reducible first | exact aa.out | apply A0a.alloc | apply A0a.drewN | apply A0a.drew | apply A0a.A3y | apply A0a.A2g | refine A0a.far ?_ af.out _ | refine A0a.far ?_ ah.out _) | exact aa.out | apply A0a.A2g (x := some _) | apply A0a.A2g (x := none))); (case aY => exact A0a.kl HB); rintro e io ⟨rfl, hi, hb, hk⟩; refine ⟨_, rfl, ?_⟩; replace ac := ak (A1r.blk hk (g' := aq) (o := .cells #[.int .i64 0, .slice none 0 0] 113 (0, 0)) (kb ac) av.out (by simp)); replace ad := ak (A1r.blk hk (g' := ay) (o := .cells #[.int .i64 (wrap64 (ap)), .slice none 0 0] 113 (0, 0)) (kb ad) ax.out (by simp)); replace bf := ak (Kd.A1e (Kd.R_keep (A0a.apart (show A0a w _ ai bv aM bw from by repeat (first | (with_reducible first | exact aa.out | apply A0a.alloc | apply A0a.drewN | apply A0a.drew | apply A0a.A3y | apply A0a.A2g | refine A0a.far ?_ af.out _ | refine A0a.far ?_ ah.out _) | exact aa.out | apply A0a.A2g (x := some _) | apply A0a.A2g (x := none))) (kr bf) (by decide)) hk (fun _ h => h.2)) (fun _ h => h.1)); replace HB := ak (hb); replace aa := ak (hi); (try simp only [A0i, A0j])))
      (try simp only [Act.put, List.setIfInBounds_toArray, List.set_cons_zero, List.set_cons_succ])
      go_cut [68] (fun hX wc => ∃ (kq : Nat) (bh : Bool), hX = .bool bh ∧ A0b (A0r.j2 kq l0 ae bh aw ar bj (wrap64 (ap)) = some (r1, r2, r3, r4)) ∧ A0b (kq ≤ br) ∧ A0b (Kd.R k178 178 wc w.heap.size (fun _ => True) bQ ae) ∧ A0b (wc.heap[aq]? = some (.cells #[.int .i64 0, (.slice none 0 0)] 113 (0, 0))) ∧ A0b (wc.heap[ay]? = some (.cells #[.int .i64 (wrap64 (ap)), (.slice none 0 0)] 113 (0, 0))) ∧ A0b (A0a w wc ai aw ar bj) ∧ A0b (Below w.heap.size w wc))
      case first =>
       have H := bX.out; clear bX
       rcases bj with _ | bR
       ·have H1 : (if 0 ≤ aM then (if aM ≤ (l0.length : Int) then ((A2f.f br (l0.take (aM : Int).toNat)).bind fun bt => (A0r.j2 br l0 ae (bx != (IntKind.u64.wrap (bt))) aw ar none (wrap64 (ap)))) else (none)) else (none)) = some (r1, r2, r3, r4) := by rw [if_pos (show (none : Option Int).isNone = true by rfl)] at H; exact H
        clear H; have H := H1; clear H1
        try simp only [A0i, A0j]
        by_cases cp : 0 ≤ aM
        ·rw [kIp cp] at H; have g2 := kEt cp; have g3 := kTt cp; clear cp
         by_cases cq : aM ≤ (l0.length : Int)
         ·rw [kIp cq] at H; have g4 := kEt cq; have g5 := kTt cq; clear cq; replace H := bkH H; obtain ⟨bt, hY, H⟩ := H; have H' := ak H; clear H; obtain ⟨ASz36_0, cSz36_0, HGz36, hgz36, HSz36_0, HLSz36_0⟩ := aa.out; have dX := A2o HGz36; have dY := A2p HGz36; have bF := A2q HGz36
          try simp only [A0i, A0j] at bF
          have dZ := A0d HGz36 0; have ea := A0d HGz36 1; have eb := A0d HGz36 2; clear HGz36 hgz36; obtain ⟨hZ, bS, _, bT, _⟩ := info_parts info5; obtain ⟨fG, cr, cs⟩ := A27 (P := Tryd.prog) (Value.int .u8) 0 22 5 .i64 Tryd.underlying22 bS bT A0 c0 l0 aM kD kD gm.out; have bY := ak (Kd.A2b (h1 := fun _ => rfl) (cr _ (Kd.A18 bL.out))); have bZ := ak cs; clear cr cs bS bT
          go_wp2_with (first | (go_at_call 57; refine A3k (args' := #[.slice A0 (l0.take (aM : Int).toNat).length c0]) (by first | rfl | (rw [show (l0.take (aM : Int).toNat).length = aM.toNat from (by rw [List.length_take]; have h_ : (aM : Int) ≤ (l0.length : Int) := kD; omega)] <;> rfl) | rfl) ?_; (with_reducible refine (A2f.calls br _ _ (l0.take (aM : Int).toNat) bt _ ?aX ?aY hY.out).mono ?_); (case aX => exact kC (Kd.A1i bY.out HB.out)); (case aY => exact bZ.out); rintro e w' ⟨rfl, ⟨nd, rfl⟩⟩))
          go_meet
          case rel => exact ⟨_, ((bx != (IntKind.u64.wrap (bt)))), kE, H', ⟨by have := bP.out; have := bu.out; first | omega | exact Nat.le_refl _⟩, ⟨kr bf⟩, ⟨kb ac⟩, ⟨kb ad⟩, ⟨(A0a.k aa)⟩, ⟨(A0a.kl HB)⟩⟩
         exact (kA cq H).elim
        exact (kA cp H).elim
       have H1 : (A0r.j2 br l0 ae false aw ar (some bR) (wrap64 (ap))) = some (r1, r2, r3, r4) := by rw [if_neg (show ¬ (some bR).isNone = true by simp)] at H; exact H
       clear H; have H := H1; clear H1
       try simp only [A0i, A0j]
       have H' := ak H; clear H; obtain ⟨ASz38_0, cSz38_0, HGz38, hgz38, HSz38_0, HLSz38_0⟩ := aa.out; have ec := A2o HGz38; have ed := A2p HGz38; have bG := A2q HGz38
       try simp only [A0i, A0j] at bG
       have ee := A0d HGz38 0; have ef := A0d HGz38 1; have eg := A0d HGz38 2; clear HGz38 hgz38
       go_wp2
       go_meet
       case rel => exact ⟨_, (false), kE, H', ⟨by have := bP.out; have := bu.out; first | omega | exact Nat.le_refl _⟩, ⟨kr bf⟩, ⟨kb ac⟩, ⟨kb ad⟩, ⟨(A0a.k aa)⟩, ⟨(A0a.kl HB)⟩⟩
      case rest =>
       clear bX; obtain ⟨kq, bh, rfl, HA, bH, HO_7, ac, ad, aa, HB⟩ := hcut
       cases kq with
       | zero => exact absurd HA.out (by simp [A0r.j2])
       | succ fH =>
        have H := HA.out; clear HA; simp only [A0r.j2] at H; have ca := ak H; clear H
        go_upto_if 68 with (fail)
        go_cut [] (fun wc => ∃ (kq : Nat) (aN : Option Int), A0b (A0r.j3 kq l0 ae aw ar aN (wrap64 (ap)) = some (r1, r2, r3, r4)) ∧ A0b (kq ≤ fH) ∧ A0b (Kd.R k178 178 wc w.heap.size (fun _ => True) bQ ae) ∧ A0b (wc.heap[aq]? = some (.cells #[.int .i64 0, (.slice none 0 0)] 113 (0, 0))) ∧ A0b (wc.heap[ay]? = some (.cells #[.int .i64 (wrap64 (ap)), (.slice none 0 0)] 113 (0, 0))) ∧ A0b (A0a w wc ai aw ar aN) ∧ A0b (Below w.heap.size w wc))
        case first =>
         have H := ca.out; clear ca
         by_cases eh : bh = true
         ·subst eh
          rw [if_pos rfl] at H; have H' := ak H; clear H; obtain ⟨ASz41_0, cSz41_0, HGz41, hgz41, HSz41_0, HLSz41_0⟩ := aa.out; have ei := A2o HGz41; have ej := A2p HGz41; have bI := A2q HGz41
          try simp only [A0i, A0j] at bI
          have ek := A0d HGz41 0; have el := A0d HGz41 1; have em := A0d HGz41 2; clear HGz41 hgz41
          go_wp2
          go_meet
          case rel => exact ⟨_, (some 7), H', ⟨by have := bP.out; have := bu.out; have := bH.out; first | omega | exact Nat.le_refl _⟩, ⟨by (with_reducible repeat (first | apply Kd.R_alloc | apply Kd.A00 | apply Kd.A02)); exact Kd.A1e (Kd.A03 (p := ⟨ai, 2, none⟩) (A0a.apart aa.out HO_7.out (by decide)) (fun _ hk => hk.2) (errW (some 7))) (fun _ hk => trivial)⟩, ⟨(kb ac)⟩, ⟨(kb ad)⟩, ⟨(A0a.k aa)⟩, ⟨(A0a.kl HB)⟩⟩
         replace eh := Bool.eq_false_iff.mpr eh; subst eh
         rw [if_neg (show ¬ (false = true) by decide)] at H; have H' := ak H; clear H
         go_wp2
         go_meet
         case rel => exact ⟨_, (bj), H', ⟨by have := bP.out; have := bu.out; have := bH.out; first | omega | exact Nat.le_refl _⟩, ⟨kr HO_7⟩, ⟨kb ac⟩, ⟨kb ad⟩, ⟨(A0a.k aa)⟩, ⟨(A0a.kl HB)⟩⟩
        case rest =>
         clear ca; obtain ⟨kq, aN, HA, ct, HO_7, ac, ad, aa, HB⟩ := hcut
         cases kq with
         | zero => exact absurd HA.out (by simp [A0r.j3])
         | succ cc =>
          have H := HA.out; clear HA; simp only [A0r.j3] at H
          rcases aN with _ | bz
          ·have H1 : (A0r.l0 cc (wrap64 ((l0.length : Int) - ar)) ae (ae.length : Int) 0 aw ar none (wrap64 (ap)) ([] : List (S62))) = some (r1, r2, r3, r4) := by rw [if_pos (show (none : Option Int).isNone = true by rfl)] at H; exact H
           clear H; have H := H1; clear H1
           try simp only [A0i, A0j]
           have H' := ak H; clear H; obtain ⟨ASz42_0, cSz42_0, HGz42, hgz42, HSz42_0, HLSz42_0⟩ := aa.out; have eo := A2o HGz42; have ep := A2p HGz42; have bJ := A2q HGz42
           try simp only [A0i, A0j] at bJ
           have et := A0d HGz42 0; have eu := A0d HGz42 1; have ev := A0d HGz42 2; clear HGz42 hgz42; obtain ⟨fI, fJ, fK⟩ := Kd.A11 HO_7.out; subst fK
           go_wp2
           go_loopg [10, 92] cc (fun kq ia ib w' => ∃ (bb : Int) (x92_5 : Int) (az : Int) (au : List (S62)) (a3 : Value), ia = .int .i64 bb ∧ ib = .int .i64 x92_5 ∧ A0b (A0r.l0 kq bb ae (ae.length : Int) x92_5 aw ar none (wrap64 (ap)) au = some (r1, r2, r3, r4)) ∧ A0b (kq ≤ cc) ∧ A0b (Kd.R k178 178 w' w.heap.size (fun _ => True) (.slice fI ae.length fJ) ae) ∧ A0b (Kd.R k62 62 w' w.heap.size (fun _ => True) a3 au) ∧ A0b (w'.heap[aq]? = some (.cells #[.int .i64 az, (.slice none 0 0)] 113 (0, 0))) ∧ A0b (w'.heap[ay]? = some (.cells #[.int .i64 (wrap64 (ap)), a3] 113 (0, 0))) ∧ A0b (A0a w w' ai aw ar none) ∧ A0b (Below w.heap.size w w'))
           case atStart => exact ⟨(wrap64 ((l0.length : Int) - ar)), (0), (0), (([] : List (S62))), (.slice none 0 0), kE, kE, H', ⟨Nat.le_refl _⟩, ⟨kr HO_7⟩, ⟨kNi⟩, ⟨kb ac⟩, ⟨kb ad⟩, ⟨(A0a.k aa)⟩, ⟨(A0a.kl HB)⟩⟩
           case round =>
            clear H'; obtain ⟨bb, x92_5, az, au, a3, rfl, rfl, HA, g6, HO_90, HO_1308001, ac, ad, aa, HB⟩ := hrel
            cases gk with
            | zero => exact absurd HA.out (by simp [A0r.l0])
            | succ k5 =>
             have H := HA.out; clear HA; simp only [A0r.l0] at H
             by_cases ci : x92_5 < (ae.length : Int)
             ·rw [kIp ci] at H; have cu := kTt ci; clear ci
              by_cases ew : 0 ≤ x92_5
              ·rw [kIp ew] at H; have g7 := kTt ew; clear ew
               by_cases ex : x92_5 < (ae.length : Int)
               ·rw [kIp ex] at H; have g8 := kTt ex; clear ex; replace H := bkH H; obtain ⟨⟨aR, aT, aU, a4, cv⟩, fL, H⟩ := H; (try dsimp only at H)
                by_cases ey : cv = true
                ·subst ey
                 rw [if_pos rfl] at H
                 by_cases cj : a4 > bb
                 ·rw [kIp cj] at H; have cw : decide (bb < a4) = true := kTt cj; clear cj; simp only [Option.some.injEq, Prod.mk.injEq] at H; obtain ⟨rfl, rfl, rfl, rfl⟩ := H; have aZ : 0 ≤ (x92_5 : Int) := kD; have aQ : x92_5 < (ae.length : Int) := kD; obtain ⟨b0, bk, bm, bn, bo, bp⟩ := at_T178 (Kd.A0y HO_90.out).2.2 x92_5 aZ aQ
                  cases bk
                  replace aZ := kEt aZ
                  (try (have aJ := aQ; simp only [List.length_drop, List.length_take] at aJ; replace aJ := kEt aJ)); replace aQ := kEt aQ
                  go_wp2_with (first | ((with_reducible refine A0s (N := 12) rfl ?_); refine bxe 12 #[.int .i64 0, .int .u64 0, .int .u64 0, .int .u64 0] 178 (h := ?_); intro ag hg ic hbox hb; replace HO_90 := ak (Kd.A1x (Kd.A31 (kr HO_90) ag (Nat.le_of_eq hg.symm)) hb); replace HO_1308001 := ak (Kd.A1x (kr HO_1308001) hb); have am := ak (hbox); have b1 := ak ((by rw [hg]; exact (A0t (A0a.kl HB)) : w.heap.size ≤ ag)); have b2 := ak ((by rw [hg]; exact (A0t (A0a.kl HB)) : w.heap.size ≤ ag)); replace HB := ak (A2t (A0a.kl HB) hb); obtain ⟨a5, a6⟩ := kN hg ac; replace ac := kB ac hb; obtain ⟨a7, a8⟩ := kN hg ad; replace ad := kB ad hb; have aj := ak ((by rw [hg]; exact Nat.ne_of_lt (A0a.lt (show A0a w _ ai aw ar none from by repeat (first | (with_reducible first | exact aa.out | apply A0a.alloc | apply A0a.drewN | apply A0a.drew | apply A0a.A3y | apply A0a.A2g | refine A0a.far ?_ af.out _ | refine A0a.far ?_ ah.out _) | exact aa.out | apply A0a.A2g (x := some _) | apply A0a.A2g (x := none)))) : ai ≠ ag)); have a9 := ak ((by rw [hg]; exact Nat.ne_of_gt (A0a.lt (show A0a w _ ai aw ar none from by repeat (first | (with_reducible first | exact aa.out | apply A0a.alloc | apply A0a.drewN | apply A0a.drew | apply A0a.A3y | apply A0a.A2g | refine A0a.far ?_ af.out _ | refine A0a.far ?_ ah.out _) | exact aa.out | apply A0a.A2g (x := some _) | apply A0a.A2g (x := none)))) : ag ≠ ai)); replace aa := ak (A0a.below (A0a.k aa) hb); clear hb hbox hg; have g9 := a6.out; have gA := a5.out; have gB := a8.out; have gC := a7.out; have gD := a9.out; have gE := aj.out; obtain ⟨ez, e0, e4, e5⟩ := kc4 am; obtain ⟨e6, e7, e8, e9⟩ := kf4 am) | ((with_reducible refine A0l (f := 97) rfl ?_); refine A1d (some 98) rfl rfl Tryd.func97 (by kernel_rfl) rfl #[.agg #[.int .i64 ((A1l ae x92_5).f0), .int .u64 ((A1l ae x92_5).f1), .int .u64 ((A1l ae x92_5).f2), .int .u64 ((A1l ae x92_5).f3)]] rfl km ?_; (with_reducible refine (A3r.calls ((A1l ae x92_5).f0) ((A1l ae x92_5).f1) ((A1l ae x92_5).f2) ((A1l ae x92_5).f3) aR aT aU a4 true _ fL.out).mono ?_); rintro e ip ⟨rfl, hb⟩; refine ⟨_, rfl, ?_⟩; replace HO_90 := ak (Kd.A1x (by (with_reducible repeat (first | apply Kd.R_alloc | apply Kd.A00 | apply Kd.A02)); exact (Kd.A1e (Kd.A03 (p := ⟨ag, 3, none⟩) (Kd.A03 (p := ⟨ag, 2, none⟩) (Kd.A03 (p := ⟨ag, 1, none⟩) (Kd.A03 (p := ⟨ag, 0, none⟩) (Kd.A1e HO_90.out (fun k_ hk => (⟨hk, hk.2⟩ : _ ∧ k_ ≠ ag))) (fun _ hk => hk.2) (.int .i64 ((A1l ae x92_5).f0))) (fun _ hk => hk.2) (.int .u64 ((A1l ae x92_5).f1))) (fun _ hk => hk.2) (.int .u64 ((A1l ae x92_5).f2))) (fun _ hk => hk.2) (.int .u64 ((A1l ae x92_5).f3))) (fun _ h_ => h_.1))) hb); replace HO_1308001 := ak (Kd.A1x (by (with_reducible repeat (first | apply Kd.R_alloc | apply Kd.A00 | apply Kd.A02)); exact (Kd.A1e (Kd.A03 (p := ⟨ag, 3, none⟩) (Kd.A03 (p := ⟨ag, 2, none⟩) (Kd.A03 (p := ⟨ag, 1, none⟩) (Kd.A03 (p := ⟨ag, 0, none⟩) (Kd.A2a HO_1308001.out am.out (by decide)) (fun _ hk => hk.2) (.int .i64 ((A1l ae x92_5).f0))) (fun _ hk => hk.2) (.int .u64 ((A1l ae x92_5).f1))) (fun _ hk => hk.2) (.int .u64 ((A1l ae x92_5).f2))) (fun _ hk => hk.2) (.int .u64 ((A1l ae x92_5).f3))) (fun _ h_ => h_.1))) hb); replace ac := ak (A2m (g := aq) (o := .cells #[.int .i64 az, .slice none 0 0] 113 (0, 0)) (kb ac) hb); replace ad := ak (A2m (g := ay) (o := .cells #[.int .i64 (wrap64 (ap)), a3] 113 (0, 0)) (kb ad) hb); replace am := ak (A2m (g := ag) (o := .cells #[.int .i64 ((A1l ae x92_5).f0), .int .u64 ((A1l ae x92_5).f1), .int .u64 ((A1l ae x92_5).f2), .int .u64 ((A1l ae x92_5).f3)] 178 (0, 0)) (kb am) hb); replace HB := ak (A2t (A0a.kl HB) hb); replace aa := ak (A0a.below (show A0a w ((((ic.setCell ⟨ag, 0, none⟩ (.int .i64 ((A1l ae x92_5).f0))).setCell ⟨ag, 1, none⟩ (.int .u64 ((A1l ae x92_5).f1))).setCell ⟨ag, 2, none⟩ (.int .u64 ((A1l ae x92_5).f2))).setCell ⟨ag, 3, none⟩ (.int .u64 ((A1l ae x92_5).f3))) ai aw ar none from by repeat (first | (with_reducible first | exact aa.out | apply A0a.alloc | apply A0a.drewN | apply A0a.drew | apply A0a.A3y | apply A0a.A2g | refine A0a.far ?_ af.out _ | refine A0a.far ?_ ah.out _ | refine A0a.far ?_ aj.out _) | exact aa.out | apply A0a.A2g (x := some _) | apply A0a.A2g (x := none))) hb); ) | ((with_reducible refine A0s (N := 13) rfl ?_); refine bxe 13 #[.int .i64 0, .int .i64 0, .int .i64 0, .int .i64 0] 62 (h := ?_); intro al hg iq hbox hb; replace HO_90 := ak (Kd.A1x (kr HO_90) hb); replace HO_1308001 := ak (Kd.A1x (Kd.A31 (kr HO_1308001) al (Nat.le_of_eq hg.symm)) hb); have a2 := ak (hbox); have b3 := ak ((by rw [hg]; exact (A0t (A0a.kl HB)) : w.heap.size ≤ al)); have b4 := ak ((by rw [hg]; exact (A0t (A0a.kl HB)) : w.heap.size ≤ al)); replace HB := ak (A2t (A0a.kl HB) hb); obtain ⟨aA, aC⟩ := kN hg ac; replace ac := kB ac hb; obtain ⟨aD, aE⟩ := kN hg ad; replace ad := kB ad hb; obtain ⟨aG, aH⟩ := kN hg am; replace am := kB am hb; have a1 := ak ((by rw [hg]; exact Nat.ne_of_lt (A0a.lt (show A0a w _ ai aw ar none from by repeat (first | (with_reducible first | exact aa.out | apply A0a.alloc | apply A0a.drewN | apply A0a.drew | apply A0a.A3y | apply A0a.A2g | refine A0a.far ?_ af.out _ | refine A0a.far ?_ ah.out _ | refine A0a.far ?_ aj.out _) | exact aa.out | apply A0a.A2g (x := some _) | apply A0a.A2g (x := none)))) : ai ≠ al)); have aI := ak ((by rw [hg]; exact Nat.ne_of_gt (A0a.lt (show A0a w _ ai aw ar none from by repeat (first | (with_reducible first | exact aa.out | apply A0a.alloc | apply A0a.drewN | apply A0a.drew | apply A0a.A3y | apply A0a.A2g | refine A0a.far ?_ af.out _ | refine A0a.far ?_ ah.out _ | refine A0a.far ?_ aj.out _) | exact aa.out | apply A0a.A2g (x := some _) | apply A0a.A2g (x := none)))) : al ≠ ai)); replace aa := ak (A0a.below (A0a.k aa) hb); clear hb hbox hg; have gF := aC.out; have gG := aA.out; have gH := aE.out; have gI := aD.out; have gJ := aH.out; have gK := aG.out; have gL := aI.out; have gM := a1.out; obtain ⟨eA, eB, eC, eD⟩ := kc4 a2; obtain ⟨eE, eF, eG, eH⟩ := kf4 a2; have gN := an.out; have gO := ao.out; have gP := av.out; have gQ := af.out; obtain ⟨eI, eJ⟩ := kc2 ac; obtain ⟨eK, eL⟩ := kf2 ac))
                  refine bodyPost_ret (A3n rfl _ _ aq 113 #[.int .i64 0, .slice none 0 0] (0, 0) _ rfl (kb ac) Tryd.underlying113 rfl (by kernel_rfl)) rfl ?_
                  exact ⟨_, kF, kNi, (A0a.kl HB)⟩
                 rw [kIn cj] at H; have cw : decide (bb < a4) = false := kFf cj; clear cj
                 by_cases eM : au.length < 4398046511104
                 ·rw [kIp eM] at H; have LMc65 := ak eM; clear eM; obtain ⟨bq, be⟩ : ∃ y_ : List (S62), y_ = (au ++ [(⟨aR, aT, aU, a4⟩ : S62)]) := ⟨_, rfl⟩
                  replace H : (A0r.l0 k5 (wrap64 (bb - a4)) ae (ae.length : Int) (wrap64 (x92_5 + 1)) aw ar none (wrap64 (ap)) bq) = some (r1, r2, r3, r4) := by first | (rw [be]; with_reducible exact H) | (have H2_ := (Option.bind_some _ _).symm.trans H; rw [be]; with_reducible exact H2_) | (have H2_ := (Option.bind_some _ _).symm.trans H; with_reducible exact H2_) | with_reducible exact H | (rw [be]; exact H) | exact H
                  have cf := ak be; clear be; have H' := ak H; clear H; have aZ : 0 ≤ (x92_5 : Int) := kD; have aQ : x92_5 < (ae.length : Int) := kD; obtain ⟨b0, bk, bm, bn, bo, bp⟩ := at_T178 (Kd.A0y HO_90.out).2.2 x92_5 aZ aQ
                  cases bk
                  replace aZ := kEt aZ
                  (try (have aJ := aQ; simp only [List.length_drop, List.length_take] at aJ; replace aJ := kEt aJ)); replace aQ := kEt aQ
                  go_wp2_with (first | ((with_reducible refine A0s (N := 12) rfl ?_); refine bxe 12 #[.int .i64 0, .int .u64 0, .int .u64 0, .int .u64 0] 178 (h := ?_); intro ag hg ie hbox hb; replace HO_90 := ak (Kd.A1x (Kd.A31 (kr HO_90) ag (Nat.le_of_eq hg.symm)) hb); replace HO_1308001 := ak (Kd.A1x (kr HO_1308001) hb); have am := ak (hbox); have b1 := ak ((by rw [hg]; exact (A0t (A0a.kl HB)) : w.heap.size ≤ ag)); have b2 := ak ((by rw [hg]; exact (A0t (A0a.kl HB)) : w.heap.size ≤ ag)); replace HB := ak (A2t (A0a.kl HB) hb); obtain ⟨a5, a6⟩ := kN hg ac; replace ac := kB ac hb; obtain ⟨a7, a8⟩ := kN hg ad; replace ad := kB ad hb; have aj := ak ((by rw [hg]; exact Nat.ne_of_lt (A0a.lt (show A0a w _ ai aw ar none from by repeat (first | (with_reducible first | exact aa.out | apply A0a.alloc | apply A0a.drewN | apply A0a.drew | apply A0a.A3y | apply A0a.A2g | refine A0a.far ?_ af.out _ | refine A0a.far ?_ ah.out _) | exact aa.out | apply A0a.A2g (x := some _) | apply A0a.A2g (x := none)))) : ai ≠ ag)); have a9 := ak ((by rw [hg]; exact Nat.ne_of_gt (A0a.lt (show A0a w _ ai aw ar none from by repeat (first | (with_reducible first | exact aa.out | apply A0a.alloc | apply A0a.drewN | apply A0a.drew | apply A0a.A3y | apply A0a.A2g | refine A0a.far ?_ af.out _ | refine A0a.far ?_ ah.out _) | exact aa.out | apply A0a.A2g (x := some _) | apply A0a.A2g (x := none)))) : ag ≠ ai)); replace aa := ak (A0a.below (A0a.k aa) hb); clear hb hbox hg; have gR := a6.out; have gS := a5.out; have gT := a8.out; have gU := a7.out; have gV := a9.out; have gW := aj.out; obtain ⟨eN, eO, eP, eQ⟩ := kc4 am; obtain ⟨eR, eS, eT, eU⟩ := kf4 am) | ((with_reducible refine A0l (f := 97) rfl ?_); refine A1d (some 98) rfl rfl Tryd.func97 (by kernel_rfl) rfl #[.agg #[.int .i64 ((A1l ae x92_5).f0), .int .u64 ((A1l ae x92_5).f1), .int .u64 ((A1l ae x92_5).f2), .int .u64 ((A1l ae x92_5).f3)]] rfl km ?_; (with_reducible refine (A3r.calls ((A1l ae x92_5).f0) ((A1l ae x92_5).f1) ((A1l ae x92_5).f2) ((A1l ae x92_5).f3) aR aT aU a4 true _ fL.out).mono ?_); rintro e ir ⟨rfl, hb⟩; refine ⟨_, rfl, ?_⟩; replace HO_90 := ak (Kd.A1x (by (with_reducible repeat (first | apply Kd.R_alloc | apply Kd.A00 | apply Kd.A02)); exact (Kd.A1e (Kd.A03 (p := ⟨ag, 3, none⟩) (Kd.A03 (p := ⟨ag, 2, none⟩) (Kd.A03 (p := ⟨ag, 1, none⟩) (Kd.A03 (p := ⟨ag, 0, none⟩) (Kd.A1e HO_90.out (fun k_ hk => (⟨hk, hk.2⟩ : _ ∧ k_ ≠ ag))) (fun _ hk => hk.2) (.int .i64 ((A1l ae x92_5).f0))) (fun _ hk => hk.2) (.int .u64 ((A1l ae x92_5).f1))) (fun _ hk => hk.2) (.int .u64 ((A1l ae x92_5).f2))) (fun _ hk => hk.2) (.int .u64 ((A1l ae x92_5).f3))) (fun _ h_ => h_.1))) hb); replace HO_1308001 := ak (Kd.A1x (by (with_reducible repeat (first | apply Kd.R_alloc | apply Kd.A00 | apply Kd.A02)); exact (Kd.A1e (Kd.A03 (p := ⟨ag, 3, none⟩) (Kd.A03 (p := ⟨ag, 2, none⟩) (Kd.A03 (p := ⟨ag, 1, none⟩) (Kd.A03 (p := ⟨ag, 0, none⟩) (Kd.A2a HO_1308001.out am.out (by decide)) (fun _ hk => hk.2) (.int .i64 ((A1l ae x92_5).f0))) (fun _ hk => hk.2) (.int .u64 ((A1l ae x92_5).f1))) (fun _ hk => hk.2) (.int .u64 ((A1l ae x92_5).f2))) (fun _ hk => hk.2) (.int .u64 ((A1l ae x92_5).f3))) (fun _ h_ => h_.1))) hb); replace ac := ak (A2m (g := aq) (o := .cells #[.int .i64 az, .slice none 0 0] 113 (0, 0)) (kb ac) hb); replace ad := ak (A2m (g := ay) (o := .cells #[.int .i64 (wrap64 (ap)), a3] 113 (0, 0)) (kb ad) hb); replace am := ak (A2m (g := ag) (o := .cells #[.int .i64 ((A1l ae x92_5).f0), .int .u64 ((A1l ae x92_5).f1), .int .u64 ((A1l ae x92_5).f2), .int .u64 ((A1l ae x92_5).f3)] 178 (0, 0)) (kb am) hb); replace HB := ak (A2t (A0a.kl HB) hb); replace aa := ak (A0a.below (show A0a w ((((ie.setCell ⟨ag, 0, none⟩ (.int .i64 ((A1l ae x92_5).f0))).setCell ⟨ag, 1, none⟩ (.int .u64 ((A1l ae x92_5).f1))).setCell ⟨ag, 2, none⟩ (.int .u64 ((A1l ae x92_5).f2))).setCell ⟨ag, 3, none⟩ (.int .u64 ((A1l ae x92_5).f3))) ai aw ar none from by repeat (first | (with_reducible first | exact aa.out | apply A0a.alloc | apply A0a.drewN | apply A0a.drew | apply A0a.A3y | apply A0a.A2g | refine A0a.far ?_ af.out _ | refine A0a.far ?_ ah.out _ | refine A0a.far ?_ aj.out _) | exact aa.out | apply A0a.A2g (x := some _) | apply A0a.A2g (x := none))) hb); ) | ((with_reducible refine A0s (N := 13) rfl ?_); refine bxe 13 #[.int .i64 0, .int .i64 0, .int .i64 0, .int .i64 0] 62 (h := ?_); intro al hg iu hbox hb; replace HO_90 := ak (Kd.A1x (kr HO_90) hb); replace HO_1308001 := ak (Kd.A1x (Kd.A31 (kr HO_1308001) al (Nat.le_of_eq hg.symm)) hb); have a2 := ak (hbox); have b3 := ak ((by rw [hg]; exact (A0t (A0a.kl HB)) : w.heap.size ≤ al)); have b4 := ak ((by rw [hg]; exact (A0t (A0a.kl HB)) : w.heap.size ≤ al)); replace HB := ak (A2t (A0a.kl HB) hb); obtain ⟨aA, aC⟩ := kN hg ac; replace ac := kB ac hb; obtain ⟨aD, aE⟩ := kN hg ad; replace ad := kB ad hb; obtain ⟨aG, aH⟩ := kN hg am; replace am := kB am hb; have a1 := ak ((by rw [hg]; exact Nat.ne_of_lt (A0a.lt (show A0a w _ ai aw ar none from by repeat (first | (with_reducible first | exact aa.out | apply A0a.alloc | apply A0a.drewN | apply A0a.drew | apply A0a.A3y | apply A0a.A2g | refine A0a.far ?_ af.out _ | refine A0a.far ?_ ah.out _ | refine A0a.far ?_ aj.out _) | exact aa.out | apply A0a.A2g (x := some _) | apply A0a.A2g (x := none)))) : ai ≠ al)); have aI := ak ((by rw [hg]; exact Nat.ne_of_gt (A0a.lt (show A0a w _ ai aw ar none from by repeat (first | (with_reducible first | exact aa.out | apply A0a.alloc | apply A0a.drewN | apply A0a.drew | apply A0a.A3y | apply A0a.A2g | refine A0a.far ?_ af.out _ | refine A0a.far ?_ ah.out _ | refine A0a.far ?_ aj.out _) | exact aa.out | apply A0a.A2g (x := some _) | apply A0a.A2g (x := none)))) : al ≠ ai)); replace aa := ak (A0a.below (A0a.k aa) hb); clear hb hbox hg; have gX := aC.out; have gY := aA.out; have gZ := aE.out; have ha := aD.out; have hc := aH.out; have he := aG.out; have hf := aI.out; have hh := a1.out; obtain ⟨eV, eW, eX, eY⟩ := kc4 a2; obtain ⟨eZ, fa, fb, fc⟩ := kf4 a2; have hl := ao.out; have hm := an.out; have hn := ax.out; have hp := ah.out; obtain ⟨fd, fe⟩ := kc2 ad; obtain ⟨ff, fg⟩ := kf2 ad) | ((with_reducible refine A2c (b := .append) (xs := #[.tmp 116, .tmp 118]) rfl ?_); at_builtin; refine Kd.A3t k62 (w0 := w) w.heap.size rfl (.tmp 116) (.tmp 118) 111 62 (.agg #[(.int .i64 0), (.int .i64 0), (.int .i64 0), (.int .i64 0)]) 32 rfl Tryd.underlying111 info62 rfl (by decide) (by omega) a3 au (⟨aR, aT, aU, a4⟩ : S62) [.int .i64 aR, .int .i64 aT, .int .i64 aU, .int .i64 a4] (fun k_ => k_ ≠ al) (fun _ => False) rfl (by first | (go_simp; done) | (go_simp; rfl)) ?aP (fun _ hk => hk.elim) ?aF ?aO ?aB ?aS ?aL ?_; (case aP => exact k62_mkM _ _ _ (⟨aR, aT, aU, a4⟩ : S62)); (case aB => exact (A0a.kl HB)); (case aF => exact (fun k_ hk => Kd.freshB (g := al) (o := .cells #[.int .i64 aR, .int .i64 aT, .int .i64 aU, .int .i64 a4] 62 (0, 0)) (kb a2) k_ hk)); (case aO => exact (by (with_reducible repeat (first | apply Kd.R_alloc | apply Kd.A00 | apply Kd.A02)); exact Kd.A1e (Kd.A03 (p := ⟨al, 3, none⟩) (Kd.A03 (p := ⟨al, 2, none⟩) (Kd.A03 (p := ⟨al, 1, none⟩) (Kd.A03 (p := ⟨al, 0, none⟩) (Kd.A1e HO_1308001.out (fun k_ hk => (⟨hk, hk.2⟩ : _ ∧ k_ ≠ al))) (fun _ hk => hk.2) (.int .i64 aR)) (fun _ hk => hk.2) (.int .i64 aT)) (fun _ hk => hk.2) (.int .i64 aU)) (fun _ hk => hk.2) (.int .i64 a4)) (fun _ hk => hk.1.2))); (case aS => exact (A0t (A0a.kl HB))); (case aL => have := LMc65.out; omega); intro hq iv ho hb hg hat; rw [← cf.out] at ho; have bM := ak (Kd.R_over' (by (with_reducible repeat (first | apply Kd.R_alloc | apply Kd.A00 | apply Kd.A02)); exact (Kd.A1e (Kd.A03 (p := ⟨al, 3, none⟩) (Kd.A03 (p := ⟨al, 2, none⟩) (Kd.A03 (p := ⟨al, 1, none⟩) (Kd.A03 (p := ⟨al, 0, none⟩) (Kd.A2a HO_90.out a2.out (by decide)) (fun _ hk => hk.2) (.int .i64 aR)) (fun _ hk => hk.2) (.int .i64 aT)) (fun _ hk => hk.2) (.int .i64 aU)) (fun _ hk => hk.2) (.int .i64 a4)) (fun _ h_ => h_.1))) (Kd.A36 (by (with_reducible repeat (first | apply Kd.R_alloc | apply Kd.A00 | apply Kd.A02)); exact (Kd.A1e (Kd.A03 (p := ⟨al, 3, none⟩) (Kd.A03 (p := ⟨al, 2, none⟩) (Kd.A03 (p := ⟨al, 1, none⟩) (Kd.A03 (p := ⟨al, 0, none⟩) (Kd.A1e HO_1308001.out (fun k_ hk => (⟨hk, hk.2⟩ : _ ∧ k_ ≠ al))) (fun _ hk => hk.2) (.int .i64 aR)) (fun _ hk => hk.2) (.int .i64 aT)) (fun _ hk => hk.2) (.int .i64 aU)) (fun _ hk => hk.2) (.int .i64 a4)) (fun _ h_ => h_.1)))) (by decide) hg); have bN := ak (A15 (g := aq) (o := .cells #[.int .i64 az, .slice none 0 0] 113 (0, 0)) (kb ac) hg (Kd.R_ne HO_1308001.out ac.out (by decide))); have hs := ak (A15 (g := ay) (o := .cells #[.int .i64 (wrap64 (ap)), a3] 113 (0, 0)) (kb ad) hg (Kd.R_ne HO_1308001.out ad.out (by decide))); have ht := ak (A0a.grown (show A0a w _ ai aw ar none from by repeat (first | (with_reducible first | exact aa.out | apply A0a.alloc | apply A0a.drewN | apply A0a.drew | apply A0a.A3y | apply A0a.A2g | refine A0a.far ?_ af.out _ | refine A0a.far ?_ ah.out _ | refine A0a.far ?_ aj.out _ | refine A0a.far ?_ a1.out _) | exact aa.out | apply A0a.A2g (x := some _) | apply A0a.A2g (x := none))) hg (A0a.own_ne aa.out HO_1308001.out (by decide))); have hu := ak (A15 (g := ag) (o := .cells #[.int .i64 ((A1l ae x92_5).f0), .int .u64 ((A1l ae x92_5).f1), .int .u64 ((A1l ae x92_5).f2), .int .u64 ((A1l ae x92_5).f3)] 178 (0, 0)) (kb am) hg (Kd.R_ne HO_1308001.out am.out (by decide))); have hv := ak (A15 (g := al) (o := .cells #[.int .i64 aR, .int .i64 aT, .int .i64 aU, .int .i64 a4] 62 (0, 0)) (kb a2) hg (Kd.R_away HO_1308001.out (fun _ hk => hk.2))); have hw := ak (hb); have hx := ak (ho); clear HO_90; clear ac; clear ad; clear aa; clear am; clear a2; clear HB; clear HO_1308001; have HO_90 := bM; have ac := bN; have ad := hs; have aa := ht; have am := hu; have a2 := hv; have HB := hw; have b5 := hx; clear bM bN hs ht hu hv hw hx; clear ho hb hg hat; obtain ⟨cg, ch, fM⟩ := Kd.A11 b5.out; subst fM; obtain ⟨fh, fi⟩ := kc2 ad; obtain ⟨fj, fk⟩ := kf2 ad))
                  go_roundg k5
                  case measure => have := bP.out; have := bu.out; have := bH.out; have := ct.out; have := g6.out; omega
                  case rel => exact ⟨(wrap64 (bb - a4)), (wrap64 (x92_5 + 1)), (az), (bq), (.slice cg bq.length ch), kE, kE, H', ⟨by have := bP.out; have := bu.out; have := bH.out; have := ct.out; have := g6.out; omega⟩, ⟨by (with_reducible repeat (first | apply Kd.R_alloc | apply Kd.A00 | apply Kd.A02)); exact Kd.A1e (Kd.A03 (p := ⟨ay, 1, none⟩) (Kd.A2a HO_90.out ad.out (by decide)) (fun _ hk => hk.2) (.slice cg bq.length ch)) (fun _ hk => trivial)⟩, ⟨by (with_reducible repeat (first | apply Kd.R_alloc | apply Kd.A00 | apply Kd.A02)); exact Kd.A1e (Kd.A03 (p := ⟨ay, 1, none⟩) (Kd.A2a b5.out ad.out (by decide)) (fun _ hk => hk.2) (.slice cg bq.length ch)) (fun _ hk => trivial)⟩, ⟨(kb ac)⟩, ⟨(kb ad)⟩, ⟨(A0a.k aa)⟩, ⟨(A0a.kl HB)⟩⟩
                 exact (kA eM H).elim
                replace ey := Bool.eq_false_iff.mpr ey; subst ey
                rw [if_neg (show ¬ (false = true) by decide)] at H; simp only [Option.some.injEq, Prod.mk.injEq] at H; obtain ⟨rfl, rfl, rfl, rfl⟩ := H; have aZ : 0 ≤ (x92_5 : Int) := kD; have aQ : x92_5 < (ae.length : Int) := kD; obtain ⟨b0, bk, bm, bn, bo, bp⟩ := at_T178 (Kd.A0y HO_90.out).2.2 x92_5 aZ aQ
                cases bk
                replace aZ := kEt aZ
                (try (have aJ := aQ; simp only [List.length_drop, List.length_take] at aJ; replace aJ := kEt aJ)); replace aQ := kEt aQ
                go_wp2_with (first | ((with_reducible refine A0s (N := 12) rfl ?_); refine bxe 12 #[.int .i64 0, .int .u64 0, .int .u64 0, .int .u64 0] 178 (h := ?_); intro ag hg ig hbox hb; replace HO_90 := ak (Kd.A1x (Kd.A31 (kr HO_90) ag (Nat.le_of_eq hg.symm)) hb); replace HO_1308001 := ak (Kd.A1x (kr HO_1308001) hb); have am := ak (hbox); have b1 := ak ((by rw [hg]; exact (A0t (A0a.kl HB)) : w.heap.size ≤ ag)); have b2 := ak ((by rw [hg]; exact (A0t (A0a.kl HB)) : w.heap.size ≤ ag)); replace HB := ak (A2t (A0a.kl HB) hb); obtain ⟨a5, a6⟩ := kN hg ac; replace ac := kB ac hb; obtain ⟨a7, a8⟩ := kN hg ad; replace ad := kB ad hb; have aj := ak ((by rw [hg]; exact Nat.ne_of_lt (A0a.lt (show A0a w _ ai aw ar none from by repeat (first | (with_reducible first | exact aa.out | apply A0a.alloc | apply A0a.drewN | apply A0a.drew | apply A0a.A3y | apply A0a.A2g | refine A0a.far ?_ af.out _ | refine A0a.far ?_ ah.out _) | exact aa.out | apply A0a.A2g (x := some _) | apply A0a.A2g (x := none)))) : ai ≠ ag)); have a9 := ak ((by rw [hg]; exact Nat.ne_of_gt (A0a.lt (show A0a w _ ai aw ar none from by repeat (first | (with_reducible first | exact aa.out | apply A0a.alloc | apply A0a.drewN | apply A0a.drew | apply A0a.A3y | apply A0a.A2g | refine A0a.far ?_ af.out _ | refine A0a.far ?_ ah.out _) | exact aa.out | apply A0a.A2g (x := some _) | apply A0a.A2g (x := none)))) : ag ≠ ai)); replace aa := ak (A0a.below (A0a.k aa) hb); clear hb hbox hg; have hy := a6.out; have hz := a5.out; have h6 := a8.out; have h7 := a7.out; have h8 := a9.out; have h9 := aj.out; obtain ⟨fl, fm, fo, fp⟩ := kc4 am; obtain ⟨fq, fs, ft, fu⟩ := kf4 am) | ((with_reducible refine A0l (f := 97) rfl ?_); refine A1d (some 98) rfl rfl Tryd.func97 (by kernel_rfl) rfl #[.agg #[.int .i64 ((A1l ae x92_5).f0), .int .u64 ((A1l ae x92_5).f1), .int .u64 ((A1l ae x92_5).f2), .int .u64 ((A1l ae x92_5).f3)]] rfl km ?_; (with_reducible refine (A3r.calls ((A1l ae x92_5).f0) ((A1l ae x92_5).f1) ((A1l ae x92_5).f2) ((A1l ae x92_5).f3) aR aT aU a4 false _ fL.out).mono ?_); rintro e iw ⟨rfl, hb⟩; refine ⟨_, rfl, ?_⟩; replace HO_90 := ak (Kd.A1x (by (with_reducible repeat (first | apply Kd.R_alloc | apply Kd.A00 | apply Kd.A02)); exact (Kd.A1e (Kd.A03 (p := ⟨ag, 3, none⟩) (Kd.A03 (p := ⟨ag, 2, none⟩) (Kd.A03 (p := ⟨ag, 1, none⟩) (Kd.A03 (p := ⟨ag, 0, none⟩) (Kd.A1e HO_90.out (fun k_ hk => (⟨hk, hk.2⟩ : _ ∧ k_ ≠ ag))) (fun _ hk => hk.2) (.int .i64 ((A1l ae x92_5).f0))) (fun _ hk => hk.2) (.int .u64 ((A1l ae x92_5).f1))) (fun _ hk => hk.2) (.int .u64 ((A1l ae x92_5).f2))) (fun _ hk => hk.2) (.int .u64 ((A1l ae x92_5).f3))) (fun _ h_ => h_.1))) hb); replace HO_1308001 := ak (Kd.A1x (by (with_reducible repeat (first | apply Kd.R_alloc | apply Kd.A00 | apply Kd.A02)); exact (Kd.A1e (Kd.A03 (p := ⟨ag, 3, none⟩) (Kd.A03 (p := ⟨ag, 2, none⟩) (Kd.A03 (p := ⟨ag, 1, none⟩) (Kd.A03 (p := ⟨ag, 0, none⟩) (Kd.A2a HO_1308001.out am.out (by decide)) (fun _ hk => hk.2) (.int .i64 ((A1l ae x92_5).f0))) (fun _ hk => hk.2) (.int .u64 ((A1l ae x92_5).f1))) (fun _ hk => hk.2) (.int .u64 ((A1l ae x92_5).f2))) (fun _ hk => hk.2) (.int .u64 ((A1l ae x92_5).f3))) (fun _ h_ => h_.1))) hb); replace ac := ak (A2m (g := aq) (o := .cells #[.int .i64 az, .slice none 0 0] 113 (0, 0)) (kb ac) hb); replace ad := ak (A2m (g := ay) (o := .cells #[.int .i64 (wrap64 (ap)), a3] 113 (0, 0)) (kb ad) hb); replace am := ak (A2m (g := ag) (o := .cells #[.int .i64 ((A1l ae x92_5).f0), .int .u64 ((A1l ae x92_5).f1), .int .u64 ((A1l ae x92_5).f2), .int .u64 ((A1l ae x92_5).f3)] 178 (0, 0)) (kb am) hb); replace HB := ak (A2t (A0a.kl HB) hb); replace aa := ak (A0a.below (show A0a w ((((ig.setCell ⟨ag, 0, none⟩ (.int .i64 ((A1l ae x92_5).f0))).setCell ⟨ag, 1, none⟩ (.int .u64 ((A1l ae x92_5).f1))).setCell ⟨ag, 2, none⟩ (.int .u64 ((A1l ae x92_5).f2))).setCell ⟨ag, 3, none⟩ (.int .u64 ((A1l ae x92_5).f3))) ai aw ar none from by repeat (first | (with_reducible first | exact aa.out | apply A0a.alloc | apply A0a.drewN | apply A0a.drew | apply A0a.A3y | apply A0a.A2g | refine A0a.far ?_ af.out _ | refine A0a.far ?_ ah.out _ | refine A0a.far ?_ aj.out _) | exact aa.out | apply A0a.A2g (x := some _) | apply A0a.A2g (x := none))) hb); ) | ((with_reducible refine A0s (N := 13) rfl ?_); refine bxe 13 #[.int .i64 0, .int .i64 0, .int .i64 0, .int .i64 0] 62 (h := ?_); intro al hg ix hbox hb; replace HO_90 := ak (Kd.A1x (kr HO_90) hb); replace HO_1308001 := ak (Kd.A1x (Kd.A31 (kr HO_1308001) al (Nat.le_of_eq hg.symm)) hb); have a2 := ak (hbox); have b3 := ak ((by rw [hg]; exact (A0t (A0a.kl HB)) : w.heap.size ≤ al)); have b4 := ak ((by rw [hg]; exact (A0t (A0a.kl HB)) : w.heap.size ≤ al)); replace HB := ak (A2t (A0a.kl HB) hb); obtain ⟨aA, aC⟩ := kN hg ac; replace ac := kB ac hb; obtain ⟨aD, aE⟩ := kN hg ad; replace ad := kB ad hb; obtain ⟨aG, aH⟩ := kN hg am; replace am := kB am hb; have a1 := ak ((by rw [hg]; exact Nat.ne_of_lt (A0a.lt (show A0a w _ ai aw ar none from by repeat (first | (with_reducible first | exact aa.out | apply A0a.alloc | apply A0a.drewN | apply A0a.drew | apply A0a.A3y | apply A0a.A2g | refine A0a.far ?_ af.out _ | refine A0a.far ?_ ah.out _ | refine A0a.far ?_ aj.out _) | exact aa.out | apply A0a.A2g (x := some _) | apply A0a.A2g (x := none)))) : ai ≠ al)); have aI := ak ((by rw [hg]; exact Nat.ne_of_gt (A0a.lt (show A0a w _ ai aw ar none from by repeat (first | (with_reducible first | exact aa.out | apply A0a.alloc | apply A0a.drewN | apply A0a.drew | apply A0a.A3y | apply A0a.A2g | refine A0a.far ?_ af.out _ | refine A0a.far ?_ ah.out _ | refine A0a.far ?_ aj.out _) | exact aa.out | apply A0a.A2g (x := some _) | apply A0a.A2g (x := none)))) : al ≠ ai)); replace aa := ak (A0a.below (A0a.k aa) hb); clear hb hbox hg; have hA := aC.out; have hB := aA.out; have hC := aE.out; have hD := aD.out; have hE := aH.out; have hF := aG.out; have hG := aI.out; have hH := a1.out; obtain ⟨fv, fw, fx, fy⟩ := kc4 a2; obtain ⟨fz, f4, f5, f6⟩ := kf4 a2; have hI := an.out; have hJ := ao.out; have hL := av.out; have hM := af.out; obtain ⟨f7, f8⟩ := kc2 ac; obtain ⟨f9, fA⟩ := kf2 ac))
                refine bodyPost_ret (A3n rfl _ _ aq 113 #[.int .i64 0, .slice none 0 0] (0, 0) _ rfl (kb ac) Tryd.underlying113 rfl (by kernel_rfl)) rfl ?_
                exact ⟨_, kF, kNi, (A0a.kl HB)⟩
               exact (kA ex H).elim
              exact (kA ew H).elim
             rw [kIn ci] at H; have cu := kFf ci; clear ci
             by_cases cx : bb = 0
             ·rw [kIp cx] at H; obtain ⟨cy, cz⟩ := kqT cx; clear cx; replace H := bkH H; obtain ⟨cA, cB, H⟩ := H
              by_cases bK : cA = true
              ·subst bK
               rw [if_pos rfl] at H; simp only [Option.some.injEq, Prod.mk.injEq] at H; obtain ⟨rfl, rfl, rfl, rfl⟩ := H; have fN := ao.out; have fO := an.out; have fP := ax.out; have fQ := ah.out; obtain ⟨cC, cD⟩ := kc2 ad; obtain ⟨cF, cG⟩ := kf2 ad; obtain ⟨b6, b7, cH⟩ := Kd.A11 HO_1308001.out; subst cH
               try go_wp2_with (first | (go_at_call 88; (with_reducible refine (A1v.calls k5 (wrap64 (ap)) _ _ au true _ ?aX ?aY cB.out).mono ?_); (case aX => exact kC (Kd.A0y HO_1308001.out).2.2); (case aY => exact (Kd.A0y HO_1308001.out).2.1); rintro e fR ⟨rfl, hb⟩; replace HO_90 := ak (Kd.A1x (kr HO_90) hb); replace HO_1308001 := ak (Kd.A1x (kr HO_1308001) hb); replace ac := kB ac hb; replace ad := kB ad hb; replace HB := ak (A2t (A0a.kl HB) hb); replace aa := ak (A0a.below (A0a.k aa) hb); obtain ⟨AU1302_0, cU1302_0, hbU1302, hgU1302, hrU1302_0, hlU1302_0⟩ := aa.out; have ba := ak hbU1302; have HRU1302_0 := ak hrU1302_0; have HCU1302_0 := ak hlU1302_0; clear hbU1302 hgU1302 hrU1302_0 hlU1302_0 aa))
               replace HO_90 := ak (Kd.A02 HO_90.out); replace HO_1308001 := ak (Kd.A02 HO_1308001.out); replace ac := ak (A0v ac.out); replace ad := ak (A0v ad.out); replace ba := ak (A0v ba.out); replace HB := ak (A04 HB.out)
               refine A28 (n := 8) (S := fun w' => w'.cell? ⟨ay, 0, none⟩ = some (.int .i64 (wrap64 (ap))) ∧ w'.cell? ⟨ay, 1, none⟩ = some (.slice b6 au.length b7) ∧ w'.cell? ⟨ai, 0, none⟩ = some (.slice AU1302_0 aw.length cU1302_0) ∧ w'.cell? ⟨ai, 1, none⟩ = some (.int .i64 ar) ∧ w'.cell? ⟨ai, 2, none⟩ = some (errW none)) (ds := []) (bl 8 0) (by kernel_rfl) rfl rfl kz (fun hHeld => ?_); refine A2j A0r.tab26 A0r.bits26 (fun HT_ HW_ => ?_)
               generalize fR.drew = ii at HO_90 HO_1308001 ac ad ba HB hHeld ⊢; refine pv 1 132 ?_; refine pv 2 133 ?_; refine pv 3 134 ?_; refine ta 0 (some 131) (bl 8 15) (h := ?_); refine ta 4 (some 135) (bl 8 31) (h := ?_); refine one_ (i := 5) (N := none) (bl 8 63) rfl rfl (A2s HT_.out (by kernel_rfl)) (by decide) (fun K hK => ?_); have hN := (kc2 ac).1; have fS := A0d ac.out 0; have cI := ao.out; have cJ := af.out; have cK := an.out; have cL := av.out; have hO := (kc2 ac).2; have fT := A0d ac.out 1; refine skip_ (w1 := ?_) (by rfl) rfl ?_ ?_
               rotate_left
               ·go_simp
                rfl
               refine hK.out _ _ (ks hHeld) (fun hHeld => ?_); clear hK K; refine pv 6 3 ?_; refine pv 7 4 ?_; refine A3u (A22 HT_.out (by kernel_rfl)) ?_
               try go_wp2
               refine bodyPost_ret (A3n rfl _ _ aq 113 #[.int .i64 (wrap64 (ap)), .slice b6 au.length b7] (0, 0) _ rfl (kb ac) Tryd.underlying113 rfl (by kernel_rfl)) rfl ?_
               exact ⟨_, kF, by (with_reducible repeat (first | apply Kd.R_alloc | apply Kd.A00 | apply Kd.A02)); exact Kd.A1e (Kd.A03 (p := ⟨aq, 1, none⟩) (Kd.A03 (p := ⟨aq, 0, none⟩) (Kd.A2a HO_1308001.out ac.out (by decide)) (fun _ hk => hk.2) (.int .i64 (wrap64 (ap)))) (fun _ hk => hk.2) (.slice b6 au.length b7)) (fun _ hk => trivial), (kl HB)⟩
              replace bK := Bool.eq_false_iff.mpr bK; subst bK
              rw [if_neg (show ¬ (false = true) by decide)] at H; simp only [Option.some.injEq, Prod.mk.injEq] at H; obtain ⟨rfl, rfl, rfl, rfl⟩ := H; have fU := ao.out; have fV := an.out; have fW := ax.out; have fX := ah.out; obtain ⟨cM, cN⟩ := kc2 ad; obtain ⟨cO, cP⟩ := kf2 ad; obtain ⟨hP, hQ, cQ⟩ := Kd.A11 HO_1308001.out; subst cQ
              go_wp2_with (first | (go_at_call 88; (with_reducible refine (A1v.calls k5 (wrap64 (ap)) _ _ au false _ ?aX ?aY cB.out).mono ?_); (case aX => exact kC (Kd.A0y HO_1308001.out).2.2); (case aY => exact (Kd.A0y HO_1308001.out).2.1); rintro e ij ⟨rfl, hb⟩; replace HO_90 := ak (Kd.A1x (kr HO_90) hb); replace HO_1308001 := ak (Kd.A1x (kr HO_1308001) hb); replace ac := kB ac hb; replace ad := kB ad hb; replace HB := ak (A2t (A0a.kl HB) hb); replace aa := ak (A0a.below (A0a.k aa) hb); have fY := av.out; have fZ := af.out; obtain ⟨cR, cS⟩ := kc2 ac; obtain ⟨cT, cU⟩ := kf2 ac))
              refine bodyPost_ret (A3n rfl _ _ aq 113 #[.int .i64 0, .slice none 0 0] (0, 0) _ rfl (kb ac) Tryd.underlying113 rfl (by kernel_rfl)) rfl ?_
              exact ⟨_, kF, kNi, (A0a.kl HB)⟩
             rw [kIn cx] at H; obtain ⟨cy, cz⟩ := kqF cx; simp only [Option.some.injEq, Prod.mk.injEq] at H; obtain ⟨rfl, rfl, rfl, rfl⟩ := H; have ga := an.out; have gb := ao.out; have gc := av.out; have gf := af.out; obtain ⟨cV, cW⟩ := kc2 ac; obtain ⟨cX, cY⟩ := kf2 ac
             go_wp2
             refine bodyPost_ret (A3n rfl _ _ aq 113 #[.int .i64 0, .slice none 0 0] (0, 0) _ rfl (kb ac) Tryd.underlying113 rfl (by kernel_rfl)) rfl ?_
             exact ⟨_, kF, kNi, (A0a.kl HB)⟩
          have H1 : (some (0, ([] : List (S62)), 0, some bz)) = some (r1, r2, r3, r4) := by rw [if_neg (show ¬ (some bz).isNone = true by simp)] at H; exact H
          clear H; have H := H1; clear H1
          try simp only [A0i, A0j]
          simp only [Option.some.injEq, Prod.mk.injEq] at H; obtain ⟨rfl, rfl, rfl, rfl⟩ := H; obtain ⟨ASz120_0, cSz120_0, HGz120, hgz120, HSz120_0, HLSz120_0⟩ := aa.out; have cZ := A2o HGz120; have da := A2p HGz120; have b8 := A2q HGz120
          try simp only [A0i, A0j] at b8
          have db := A0d HGz120 0; have dc := A0d HGz120 1; have dd := A0d HGz120 2; clear HGz120 hgz120; obtain ⟨AU1302_0, cU1302_0, hbU1302, hgU1302, hrU1302_0, hlU1302_0⟩ := aa.out; have ba := ak hbU1302; have HRU1302_0 := ak hrU1302_0; have HCU1302_0 := ak hlU1302_0; clear hbU1302 hgU1302 hrU1302_0 hlU1302_0 aa
          try go_wp2
          replace HO_7 := ak (Kd.A02 HO_7.out); replace ac := ak (A0v ac.out); replace ad := ak (A0v ad.out); replace ba := ak (A0v ba.out); replace HB := ak (A04 HB.out)
          refine A28 (n := 8) (S := fun w' => w'.cell? ⟨ai, 0, none⟩ = some (.slice AU1302_0 aw.length cU1302_0) ∧ w'.cell? ⟨ai, 1, none⟩ = some (.int .i64 ar) ∧ w'.cell? ⟨ai, 2, none⟩ = some (errW (some bz))) (ds := []) (bl 8 0) (by kernel_rfl) rfl rfl kz (fun hHeld => ?_); refine A2j A0r.tab13 A0r.bits13 (fun HT_ HW_ => ?_)
          generalize wc.drew = ik at HO_7 ac ad ba HB hHeld ⊢; refine pv 0 78 ?_; refine pv 1 79 ?_; refine pv 2 80 ?_; refine pv 3 81 ?_; refine ta 4 (some 82) (bl 8 31) (h := ?_); refine one_ (i := 5) (N := none) (bl 8 63) rfl rfl (A2s HT_.out (by kernel_rfl)) (by decide) (fun K hK => ?_); have hR := (kc2 ac).1; have gg := A0d ac.out 0; have de := ao.out; have df := af.out; have dg := an.out; have dh := av.out; have hS := (kc2 ac).2; have gh := A0d ac.out 1; refine skip_ (w1 := ?_) (by rfl) rfl ?_ ?_
          rotate_left
          ·go_simp
           rfl
          refine hK.out _ _ (ks hHeld) (fun hHeld => ?_); clear hK K; refine pv 6 3 ?_; refine pv 7 4 ?_; refine A3u (A22 HT_.out (by kernel_rfl)) ?_
          try go_wp2
          refine bodyPost_ret (A3n rfl _ _ aq 113 #[.int .i64 0, .slice none 0 0] (0, 0) _ rfl (kb ac) Tryd.underlying113 rfl (by kernel_rfl)) rfl ?_
          exact ⟨_, kF, kNi, (kl HB)⟩
 replace c3 := Bool.eq_false_iff.mpr c3; subst c3
 rw [if_neg (show ¬ (false = true) by decide)] at H; simp only [Option.some.injEq, Prod.mk.injEq] at H; obtain ⟨rfl, rfl, rfl, rfl⟩ := H
 go_enter Tryd.func66, Tryd.ntmps66
 go_wp2_with (first | ((with_reducible refine A0s (N := 2) rfl ?_); refine bxe 2 #[.int .i64 0, .slice none 0 0] 113 (h := ?_); intro aq hg b9 hbox hb; have ac := ak (hbox); have bU := kG hg HB; have bV := kG hg HB; replace HB := kH HB hb; clear hb hbox hg; have hcv125 := Kd.A3m (P := Tryd.prog) (A := A0) (c := c0) Tryd.underlying22 Tryd.underlying5 Tryd.underlying9 (Kd.A1i bL.out HB.out); have hcv125d := fun (m_ : Nat) => Kd.A3m (P := Tryd.prog) (A := A0) (c := c0) Tryd.underlying22 Tryd.underlying5 Tryd.underlying9 (Kd.C_drewN (Kd.A1i bL.out HB.out) m_); (try (have hcv125e := Kd.A3m (P := Tryd.prog) (A := A0) (c := c0) Tryd.underlying22 Tryd.underlying5 Tryd.underlying9 (Kd.C_drew (Kd.A1i bL.out HB.out))))) | ((with_reducible refine A0l (f := 94) rfl ?_); refine A1d (some 17) rfl rfl Tryd.func94 (by kernel_rfl) rfl #[.string (strOfNums l0), .string (⟨#[71, 84, 83, 49]⟩ : ByteArray)] rfl km ?_; (with_reducible refine (strings_HasPrefix.calls (strOfNums l0) (⟨#[71, 84, 83, 49]⟩ : ByteArray) false _ A2.out).mono ?_); rintro e w' ⟨rfl, ⟨nd, rfl⟩⟩; refine ⟨_, rfl, ?_⟩; (repeat (rw [A3c b9]; generalize hq_ : World.drewN b9 _ = b9; have bM : A0b (b9.heap[aq]? = some (.cells #[.int .i64 0, .slice none 0 0] 113 (0, 0))) := ⟨by rw [← hq_]; exact (kb ac)⟩; have bN : A0b (Below w.heap.size w b9) := ⟨by rw [← hq_]; exact (kl HB)⟩; clear ac HB hq_; have ac := bM; have HB := bN; clear bM bN)); obtain ⟨di, dj⟩ := kc2 ac; obtain ⟨dk, dl⟩ := kf2 ac))
 refine bodyPost_ret (A3n rfl _ _ aq 113 #[.int .i64 0, .slice none 0 0] (0, 0) _ rfl (kb ac) Tryd.underlying113 rfl (by kernel_rfl)) rfl ?_
 exact ⟨_, kF, kNi, (kl HB)⟩
end Go.Proofs.YtodocfjbpkicgaaDoor.All
