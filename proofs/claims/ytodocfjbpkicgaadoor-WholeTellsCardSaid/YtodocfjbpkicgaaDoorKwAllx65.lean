-- copied by a program of the session
import Derived.Test.YtodocfjbpkicgaaDoorKwAllx64
set_option linter.unusedSimpArgs false
set_option linter.unusedVariables false
set_option maxHeartbeats 8000000
set_option maxRecDepth 100000
namespace Go.Proofs.YtodocfjbpkicgaaDoor.All
open Go.RowKit Go.Zw Go.Zl Go.Zm
attribute [local go_sem] A2h A2r
attribute [local go_sem high] errW_match A34
mutual
def A0e.j0 : Nat → Int → Bool → List Int → Int → Option Int → Option ((List (S178)) × List Int × Int × Option Int)
 | 0, _, _, _, _, _ => none
 | k + 1, x3, ae, aa, ac, ad => if ae = true then (A0e.j1 k x3 aa ac (some 9)) else (A0e.j1 k x3 aa ac ad)
def A0e.j1 : Nat → Int → List Int → Int → Option Int → Option ((List (S178)) × List Int × Int × Option Int)
 | 0, _, _, _, _ => none
 | k + 1, x3, aa, ac, ad => A0e.l0 k x3 ([] : List (S178)) 0 aa ac ad
def A0e.l0 : Nat → Int → List (S178) → Int → List Int → Int → Option Int → Option ((List (S178)) × List Int × Int × Option Int)
 | 0, _, _, _, _, _, _ => none
 | k + 1, x3, x4, x5, aa, ac, ad => if x5 < x3 then (if ad.isNone = true then (A0e.j3 k x3 x4 x5 true aa ac none) else (A0e.j3 k x3 x4 x5 false aa ac (some (ad.getD 0)))) else (A0e.j3 k x3 x4 x5 false aa ac ad)
def A0e.j3 : Nat → Int → List (S178) → Int → Bool → List Int → Int → Option Int → Option ((List (S178)) × List Int × Int × Option Int)
 | 0, _, _, _, _, _, _, _ => none
 | k + 1, x3, x4, x5, ai, af, ag, ah => if ai = true then ((A0k.f k af ag ah 8).bind fun aa => ((A1m.f k aa.2.1 aa.2.2.1 aa.2.2.2).bind fun ac => ((A1m.f k ac.2.1 ac.2.2.1 ac.2.2.2).bind fun ad => ((A1m.f k ad.2.1 ad.2.2.1 ad.2.2.2).bind fun ae => (if x4.length < 4398046511104 then (A0e.l0 k x3 (x4 ++ [(⟨wrap64 (aa.1), ac.1, ad.1, ae.1⟩ : S178)]) (IntKind.u64.wrap (x5 + 1)) ae.2.1 ae.2.2.1 ae.2.2.2) else (none)))))) else (some (x4, af, ag, ah))
end
def A0e.f (k : Nat) (ac : List Int) (ad : Int) (ae : Option Int) : Option ((List (S178)) × List Int × Int × Option Int) := (A1m.f k ac ad ae).bind fun aa => (if aa.2.2.2.isNone = true then (A0e.j0 k aa.1 (decide (aa.1 > 65535)) aa.2.1 aa.2.2.1 none) else (A0e.j0 k aa.1 false aa.2.1 aa.2.2.1 (some (aa.2.2.2.getD 0))))
theorem A0e.A2x : ∀ k, (∀ y0 y1 y2 y3 y4, LeO (A0e.j0 k y0 y1 y2 y3 y4) (A0e.j0 (k + 1) y0 y1 y2 y3 y4)) ∧ (∀ y0 y1 y2 y3, LeO (A0e.j1 k y0 y1 y2 y3) (A0e.j1 (k + 1) y0 y1 y2 y3)) ∧ (∀ y0 y1 y2 y3 y4 y5, LeO (A0e.l0 k y0 y1 y2 y3 y4 y5) (A0e.l0 (k + 1) y0 y1 y2 y3 y4 y5)) ∧ (∀ y0 y1 y2 y3 y4 y5 y6, LeO (A0e.j3 k y0 y1 y2 y3 y4 y5 y6) (A0e.j3 (k + 1) y0 y1 y2 y3 y4 y5 y6))
 | 0 => ⟨fun _ _ _ _ _ r h => by simp [A0e.j0] at h, fun _ _ _ _ r h => by simp [A0e.j1] at h, fun _ _ _ _ _ _ r h => by simp [A0e.l0] at h, fun _ _ _ _ _ _ _ r h => by simp [A0e.j3] at h⟩
 | k + 1 => by
  obtain ⟨ih0, ih1, ih2, ih3⟩ := A0e.A2x k
  refine ⟨?_, ?_, ?_, ?_⟩ <;> intros <;> (first | unfold A0e.j0 | unfold A0e.j1 | unfold A0e.l0 | unfold A0e.j3) <;> (
   repeat' first
   | with_reducible apply ih0
   | with_reducible apply ih1
   | with_reducible apply ih2
   | with_reducible apply ih3
   | with_reducible apply A0k.mono
   | with_reducible apply A1m.mono
   | (with_reducible exact LeO.refl _)
   | (with_reducible exact LeO.none _)
   | (with_reducible refine LeO.ite ?_ ?_)
   | (with_reducible refine LeO.bind ?_ (fun _ => ?_))
   | exact LeO.none _
   | refine LeO.ite ?_ ?_
   | refine LeO.bind ?_ (fun _ => ?_))
theorem A0e.mono : ∀ a0 a1 a2 k, LeO (A0e.f k a0 a1 a2) (A0e.f (k + 1) a0 a1 a2) := by
 intro a0 a1 a2 k
 obtain ⟨ih0, ih1, ih2, ih3⟩ := A0e.A2x k
 unfold A0e.f
 repeat' first
   | with_reducible apply ih0
   | with_reducible apply ih1
   | with_reducible apply ih2
   | with_reducible apply ih3
   | with_reducible apply A0k.mono
   | with_reducible apply A1m.mono
   | (with_reducible exact LeO.refl _)
   | (with_reducible exact LeO.none _)
   | (with_reducible refine LeO.ite ?_ ?_)
   | (with_reducible refine LeO.bind ?_ (fun _ => ?_))
   | exact LeO.none _
   | refine LeO.ite ?_ ?_
   | refine LeO.bind ?_ (fun _ => ?_)
theorem A0e.calls (k : Nat) (g : Nat) (aN : List Int) (aQ : Int) (aR : Option Int) (r1 : List (S178)) (r2 : List Int) (r3 : Int) (r4 : Option Int) (w0 w : World) (hI : A0a w0 w g aN aQ aR) (hB : Below w0.heap.size w0 w) (h : A0e.f k aN aQ aR = some (r1, r2, r3, r4)) :
  Calls Tryd.prog 96 #[.pointer (some ⟨g, 0, none⟩)] w fun e w' => ∃ bT : Value, e = .returned (bT) ∧ Kd.R k178 178 w' w.heap.size (fun _ => True) bT r1 ∧ A0a w0 w' g r2 r3 r4 ∧ Below w0.heap.size w0 w' ∧ A1r w w' g none := by
 have hu178 := Tryd.underlying178; have hu38 := Tryd.underlying38; have hu94 := Tryd.underlying94; have ad := ak hI; have HK := ak (A1r.refl w g none); have HL := ak hB.size; clear hI; have HW0 := ak hB.size; have HB := ak hB; clear hB; have H := h; clear h; unfold A0e.f at H; replace H := bkH H; obtain ⟨⟨ai, ao, ap, az⟩, A2, H⟩ := H; (try dsimp only at H); have bA := ak H; clear H
 go_enter Tryd.func96, Tryd.ntmps96
 go_upto_region 2 with (first | ((with_reducible refine A0l (f := 115) rfl ?_); refine A1d (some 8) rfl rfl Tryd.func115 (by kernel_rfl) rfl #[.pointer (some ⟨g, 0, none⟩)] rfl km ?_; (with_reducible refine (A1m.calls k g aN aQ aR ai ao ap az w0 _ ?al ?am A2.out).mono ?_); (case al => repeat (first | (with_reducible first | exact ad.out | apply A0a.alloc | apply A0a.drewN | apply A0a.drew | apply A0a.A3y | apply A0a.A2g) | exact ad.out | apply A0a.A2g (x := some _) | apply A0a.A2g (x := none))); (case am => exact A0a.kl HB); rintro e w4 ⟨rfl, hi, hb, hk⟩; refine ⟨_, rfl, ?_⟩; replace HK := ak (A1r.trans (kk HK) hk (.inl rfl)); replace HB := ak (hb); replace ad := ak (hi); (try simp only [A0i, A0j])))
 (try simp only [Act.put, List.setIfInBounds_toArray, List.set_cons_zero, List.set_cons_succ])
 go_cut [17] (fun ch wc => ∃ (kq : Nat) (a5 : Bool), ch = .bool a5 ∧ A0b (A0e.j0 kq ai a5 ao ap az = some (r1, r2, r3, r4)) ∧ A0b (kq ≤ k) ∧ A0b (A0a w0 wc g ao ap az) ∧ A0b (A1r w wc g none) ∧ A0b (Below w0.heap.size w0 wc))
 case first =>
  have H := bA.out; clear bA
  rcases az with _ | aJ
  ·have H1 : (A0e.j0 k ai (decide (ai > 65535)) ao ap none) = some (r1, r2, r3, r4) := by rw [if_pos (show (none : Option Int).isNone = true by rfl)] at H; exact H
   clear H; have H := H1; clear H1
   try simp only [A0i, A0j]
   have H' := ak H; clear H; obtain ⟨ASz5_0, cSz5_0, HGz5, hgz5, HSz5_0, HLSz5_0⟩ := ad.out; have bB := A2o HGz5; have bC := A2p HGz5; have aT := A2q HGz5
   try simp only [A0i, A0j] at aT
   have bD := A0d HGz5 0; have bE := A0d HGz5 1; have bF := A0d HGz5 2; clear HGz5 hgz5
   go_wp2
   go_meet
   case rel => exact ⟨_, (decide (ai > 65535)), kE, H', kO, ⟨(A0a.k ad)⟩, ⟨(kk HK)⟩, ⟨(A0a.kl HB)⟩⟩
  have H1 : (A0e.j0 k ai false ao ap (some aJ)) = some (r1, r2, r3, r4) := by rw [if_neg (show ¬ (some aJ).isNone = true by simp)] at H; exact H
  clear H; have H := H1; clear H1
  try simp only [A0i, A0j]
  have H' := ak H; clear H; obtain ⟨ASz6_0, cSz6_0, HGz6, hgz6, HSz6_0, HLSz6_0⟩ := ad.out; have bG := A2o HGz6; have bH := A2p HGz6; have aU := A2q HGz6
  try simp only [A0i, A0j] at aU
  have bI := A0d HGz6 0; have bJ := A0d HGz6 1; have bK := A0d HGz6 2; clear HGz6 hgz6
  go_wp2
  go_meet
  case rel => exact ⟨_, (false), kE, H', kO, ⟨(A0a.k ad)⟩, ⟨(kk HK)⟩, ⟨(A0a.kl HB)⟩⟩
 case rest =>
  clear bA; obtain ⟨kq, a5, rfl, HA, aV, ad, HK, HB⟩ := hcut
  cases kq with
  | zero => exact absurd HA.out (by simp [A0e.j0])
  | succ ci =>
   have H := HA.out; clear HA; simp only [A0e.j0] at H; have bL := ak H; clear H
   go_upto_if 17 with (fail)
   go_cut [] (fun wc => ∃ (kq : Nat) (av : Option Int), A0b (A0e.j1 kq ai ao ap av = some (r1, r2, r3, r4)) ∧ A0b (kq ≤ ci) ∧ A0b (A0a w0 wc g ao ap av) ∧ A0b (A1r w wc g none) ∧ A0b (Below w0.heap.size w0 wc))
   case first =>
    have H := bL.out; clear bL
    by_cases c8 : a5 = true
    ·subst c8
     rw [if_pos rfl] at H; have H' := ak H; clear H; obtain ⟨ASz9_0, cSz9_0, HGz9, hgz9, HSz9_0, HLSz9_0⟩ := ad.out; have bM := A2o HGz9; have bN := A2p HGz9; have aW := A2q HGz9
     try simp only [A0i, A0j] at aW
     have bO := A0d HGz9 0; have bP := A0d HGz9 1; have bQ := A0d HGz9 2; clear HGz9 hgz9
     go_wp2
     go_meet
     case rel => exact ⟨_, (some 9), H', ⟨by have := aV.out; first | omega | exact Nat.le_refl _⟩, ⟨(A0a.k ad)⟩, ⟨(kk HK)⟩, ⟨(A0a.kl HB)⟩⟩
    replace c8 := Bool.eq_false_iff.mpr c8; subst c8
    rw [if_neg (show ¬ (false = true) by decide)] at H; have H' := ak H; clear H
    go_wp2
    go_meet
    case rel => exact ⟨_, (az), H', ⟨by have := aV.out; first | omega | exact Nat.le_refl _⟩, ⟨(A0a.k ad)⟩, ⟨(kk HK)⟩, ⟨(A0a.kl HB)⟩⟩
   case rest =>
    clear bL; obtain ⟨kq, av, HA, bc, ad, HK, HB⟩ := hcut
    cases kq with
    | zero => exact absurd HA.out (by simp [A0e.j1])
    | succ bU =>
     have H := HA.out; clear HA; simp only [A0e.j1] at H; have H' := ak H; clear H
     go_wp2
     go_loopg [4, 5] bU (fun kq v4 v5 w' => ∃ (ax : List (S178)) (ay : Int) (af : List Int) (ag : Int) (ah : Option Int), v5 = .int .u64 ay ∧ A0b (A0e.l0 kq ai ax ay af ag ah = some (r1, r2, r3, r4)) ∧ A0b (kq ≤ bU) ∧ A0b (Kd.R k178 178 w' w.heap.size (fun _ => True) v4 ax) ∧ A0b (A0a w0 w' g af ag ah) ∧ A0b (A1r w w' g none) ∧ A0b (Below w0.heap.size w0 w'))
     case atStart => exact ⟨(([] : List (S178))), (0), (ao), (ap), (av), kE, H', ⟨Nat.le_refl _⟩, ⟨kNi⟩, ⟨(A0a.k ad)⟩, ⟨(kk HK)⟩, ⟨(A0a.kl HB)⟩⟩
     case round =>
      clear H'; obtain ⟨ax, ay, af, ag, ah, rfl, HA, be, HO_4, ad, HK, HB⟩ := hrel
      cases gk with
      | zero => exact absurd HA.out (by simp [A0e.l0])
      | succ k3 =>
       have H := HA.out; clear HA; simp only [A0e.l0] at H; have aX := ak H; clear H
       go_upto_region 6 with (fail)
       go_cut [31] (fun cj wc => ∃ (kq : Nat) (a6 : Bool), cj = .bool a6 ∧ A0b (A0e.j3 kq ai ax ay a6 af ag ah = some (r1, r2, r3, r4)) ∧ A0b (kq ≤ k3) ∧ A0b (Kd.R k178 178 wc w.heap.size (fun _ => True) u4 ax) ∧ A0b (A0a w0 wc g af ag ah) ∧ A0b (A1r w wc g none) ∧ A0b (Below w0.heap.size w0 wc))
       case first =>
        have H := aX.out; clear aX
        by_cases ba : ay < ai
        ·rw [kIp ba] at H; have a1 := kTt ba; clear ba
         (first | rw [a1] | (simp only [A2i, A2u]; rw [a1]) | skip)
         rcases ah with _ | aK
         ·have H1 : (A0e.j3 k3 ai ax ay true af ag none) = some (r1, r2, r3, r4) := by rw [if_pos (show (none : Option Int).isNone = true by rfl)] at H; exact H
          clear H; have H := H1; clear H1
          try simp only [A0i, A0j]
          have H' := ak H; clear H; obtain ⟨ASz12_0, cSz12_0, HGz12, hgz12, HSz12_0, HLSz12_0⟩ := ad.out; have bf := A2o HGz12; have bh := A2p HGz12; have aH := A2q HGz12
          try simp only [A0i, A0j] at aH
          have bi := A0d HGz12 0; have bj := A0d HGz12 1; have bk := A0d HGz12 2; clear HGz12 hgz12
          go_wp2
          go_meet
          case rel => exact ⟨_, (true), kE, H', ⟨by have := aV.out; have := bc.out; have := be.out; first | omega | exact Nat.le_refl _⟩, ⟨kr HO_4⟩, ⟨(A0a.k ad)⟩, ⟨(kk HK)⟩, ⟨(A0a.kl HB)⟩⟩
         have H1 : (A0e.j3 k3 ai ax ay false af ag (some aK)) = some (r1, r2, r3, r4) := by rw [if_neg (show ¬ (some aK).isNone = true by simp)] at H; exact H
         clear H; have H := H1; clear H1
         try simp only [A0i, A0j]
         have H' := ak H; clear H; obtain ⟨ASz13_0, cSz13_0, HGz13, hgz13, HSz13_0, HLSz13_0⟩ := ad.out; have bm := A2o HGz13; have bn := A2p HGz13; have aI := A2q HGz13
         try simp only [A0i, A0j] at aI
         have bo := A0d HGz13 0; have bp := A0d HGz13 1; have bq := A0d HGz13 2; clear HGz13 hgz13
         go_wp2
         go_meet
         case rel => exact ⟨_, (false), kE, H', ⟨by have := aV.out; have := bc.out; have := be.out; first | omega | exact Nat.le_refl _⟩, ⟨kr HO_4⟩, ⟨(A0a.k ad)⟩, ⟨(kk HK)⟩, ⟨(A0a.kl HB)⟩⟩
        rw [kIn ba] at H; have a1 := kFf ba; clear ba
        (first | rw [a1] | (simp only [A2i, A2u]; rw [a1]) | skip)
        have H' := ak H; clear H
        go_wp2
        go_meet
        case rel => exact ⟨_, (false), kE, H', ⟨by have := aV.out; have := bc.out; have := be.out; first | omega | exact Nat.le_refl _⟩, ⟨kr HO_4⟩, ⟨(A0a.k ad)⟩, ⟨(kk HK)⟩, ⟨(A0a.kl HB)⟩⟩
       case rest =>
        clear aX; obtain ⟨kq, a6, rfl, HA, bV, HO_4, ad, HK, HB⟩ := hcut
        cases kq with
        | zero => exact absurd HA.out (by simp [A0e.j3])
        | succ bb =>
         have H := HA.out; clear HA; simp only [A0e.j3] at H
         by_cases br : a6 = true
         ·subst br
          rw [if_pos rfl] at H; replace H := bkH H; obtain ⟨⟨aj, a2, a3, a4⟩, ck, H⟩ := H; (try dsimp only at H); replace H := bkH H; obtain ⟨⟨aq, aA, aB, aC⟩, cm, H⟩ := H; (try dsimp only at H); replace H := bkH H; obtain ⟨⟨ar, aD, aE, aG⟩, co, H⟩ := H; (try dsimp only at H); replace H := bkH H; obtain ⟨⟨au, a7, a8, a9⟩, cp, H⟩ := H; (try dsimp only at H)
          by_cases bs : ax.length < 4398046511104
          ·rw [kIp bs] at H; have LMc19 := ak bs; clear bs; obtain ⟨aM, aw⟩ : ∃ y_ : List (S178), y_ = (ax ++ [(⟨wrap64 (aj), aq, ar, au⟩ : S178)]) := ⟨_, rfl⟩
           replace H : (A0e.l0 bb ai aM (IntKind.u64.wrap (ay + 1)) a7 a8 a9) = some (r1, r2, r3, r4) := by first | (rw [aw]; with_reducible exact H) | (have H2_ := (Option.bind_some _ _).symm.trans H; rw [aw]; with_reducible exact H2_) | (have H2_ := (Option.bind_some _ _).symm.trans H; with_reducible exact H2_) | with_reducible exact H | (rw [aw]; exact H) | exact H
           have aY := ak aw; clear aw; have H' := ak H; clear H
           go_wp2_with (first | ((with_reducible refine A0l (f := 95) rfl ?_); refine A1d (some 35) rfl rfl Tryd.func95 (by kernel_rfl) rfl #[.pointer (some ⟨g, 0, none⟩), .int .i64 8] rfl km ?_; (with_reducible refine (A0k.calls bb g af ag ah 8 aj a2 a3 a4 w0 _ ?al ?am ck.out).mono ?_); (case al => repeat (first | (with_reducible first | exact ad.out | apply A0a.alloc | apply A0a.drewN | apply A0a.drew | apply A0a.A3y | apply A0a.A2g) | exact ad.out | apply A0a.A2g (x := some _) | apply A0a.A2g (x := none))); (case am => exact A0a.kl HB); rintro e cq ⟨rfl, hi, hb, hk⟩; refine ⟨_, rfl, ?_⟩; replace HO_4 := ak (Kd.A1e (Kd.R_keep (A0a.apart (show A0a w0 _ g af ag ah from by repeat (first | (with_reducible first | exact ad.out | apply A0a.alloc | apply A0a.drewN | apply A0a.drew | apply A0a.A3y | apply A0a.A2g) | exact ad.out | apply A0a.A2g (x := some _) | apply A0a.A2g (x := none))) (kr HO_4) (by decide)) hk (fun _ h => h.2)) (fun _ h => h.1)); replace HK := ak (A1r.trans (kk HK) hk (.inl rfl)); replace HB := ak (hb); replace ad := ak (hi); (try simp only [A0i, A0j])) | ((with_reducible refine A0s (N := 6) rfl ?_); refine bxe 6 #[.int .i64 0, .int .u64 0, .int .u64 0, .int .u64 0] 178 (h := ?_); intro aa hg cr hbox hb; replace HO_4 := ak (Kd.A1x (Kd.A31 (kr HO_4) aa (Nat.le_of_eq hg.symm)) hb); replace HB := ak (A2t (A0a.kl HB) hb); have ac := ak (hbox); have bR := ak ((by rw [hg]; exact (keep_size (w := w) (g := g) (row := none) (kk HK)) : w.heap.size ≤ aa)); have bS := ak ((Nat.le_trans HW0.out (by rw [hg]; exact (keep_size (w := w) (g := g) (row := none) (kk HK)) : w.heap.size ≤ aa) : w0.heap.size ≤ aa)); replace HK := ak (A1r.trans (kk HK) (A1r.of_below hb g none) (.inl rfl)); have ae := ak ((by rw [hg]; exact Nat.ne_of_lt (A0a.lt (show A0a w0 _ g a2 a3 a4 from by repeat (first | (with_reducible first | exact ad.out | apply A0a.alloc | apply A0a.drewN | apply A0a.drew | apply A0a.A3y | apply A0a.A2g) | exact ad.out | apply A0a.A2g (x := some _) | apply A0a.A2g (x := none)))) : g ≠ aa)); have an := ak ((by rw [hg]; exact Nat.ne_of_gt (A0a.lt (show A0a w0 _ g a2 a3 a4 from by repeat (first | (with_reducible first | exact ad.out | apply A0a.alloc | apply A0a.drewN | apply A0a.drew | apply A0a.A3y | apply A0a.A2g) | exact ad.out | apply A0a.A2g (x := some _) | apply A0a.A2g (x := none)))) : aa ≠ g)); replace ad := ak (A0a.below (A0a.k ad) hb); clear hb hbox hg; have bW := an.out; have bX := ae.out; obtain ⟨bt, bu, bv, bw⟩ := kc4 ac; obtain ⟨bx, bz, b0, b1⟩ := kf4 ac) | ((with_reducible refine A0l (f := 115) rfl ?_); refine A1d (some 39) rfl rfl Tryd.func115 (by kernel_rfl) rfl #[.pointer (some ⟨g, 0, none⟩)] rfl km ?_; (with_reducible refine (A1m.calls bb g a2 a3 a4 aq aA aB aC w0 _ ?al ?am cm.out).mono ?_); (case al => repeat (first | (with_reducible first | exact ad.out | apply A0a.alloc | apply A0a.drewN | apply A0a.drew | apply A0a.A3y | apply A0a.A2g | refine A0a.far ?_ ae.out _) | exact ad.out | apply A0a.A2g (x := some _) | apply A0a.A2g (x := none))); (case am => exact A0a.kl HB); rintro e cs ⟨rfl, hi, hb, hk⟩; refine ⟨_, rfl, ?_⟩; replace HO_4 := ak (Kd.A1e (Kd.R_keep (A0a.apart (show A0a w0 _ g a2 a3 a4 from by repeat (first | (with_reducible first | exact ad.out | apply A0a.alloc | apply A0a.drewN | apply A0a.drew | apply A0a.A3y | apply A0a.A2g | refine A0a.far ?_ ae.out _) | exact ad.out | apply A0a.A2g (x := some _) | apply A0a.A2g (x := none))) (by (with_reducible repeat (first | apply Kd.R_alloc | apply Kd.A00 | apply Kd.A02)); exact (Kd.A1e (Kd.A03 (p := ⟨aa, 3, none⟩) (Kd.A03 (p := ⟨aa, 2, none⟩) (Kd.A03 (p := ⟨aa, 1, none⟩) (Kd.A03 (p := ⟨aa, 0, none⟩) (Kd.A1e HO_4.out (fun k_ hk => (⟨hk, hk.2⟩ : _ ∧ k_ ≠ aa))) (fun _ hk => hk.2) (.int .i64 (wrap64 (aj)))) (fun _ hk => hk.2) (.int .u64 0)) (fun _ hk => hk.2) (.int .u64 0)) (fun _ hk => hk.2) (.int .u64 0)) (fun _ h_ => h_.1))) (by decide)) hk (fun _ h => h.2)) (fun _ h => h.1)); replace ac := ak (A1r.blk hk (g' := aa) (o := .cells #[.int .i64 (wrap64 (aj)), .int .u64 0, .int .u64 0, .int .u64 0] 178 (0, 0)) (kb ac) an.out (by simp)); replace HK := ak (A1r.trans (kk HK) hk (.inl rfl)); replace HB := ak (hb); replace ad := ak (hi); (try simp only [A0i, A0j])) | ((with_reducible refine A0l (f := 115) rfl ?_); refine A1d (some 41) rfl rfl Tryd.func115 (by kernel_rfl) rfl #[.pointer (some ⟨g, 0, none⟩)] rfl km ?_; (with_reducible refine (A1m.calls bb g aA aB aC ar aD aE aG w0 _ ?al ?am co.out).mono ?_); (case al => repeat (first | (with_reducible first | exact ad.out | apply A0a.alloc | apply A0a.drewN | apply A0a.drew | apply A0a.A3y | apply A0a.A2g | refine A0a.far ?_ ae.out _) | exact ad.out | apply A0a.A2g (x := some _) | apply A0a.A2g (x := none))); (case am => exact A0a.kl HB); rintro e ct ⟨rfl, hi, hb, hk⟩; refine ⟨_, rfl, ?_⟩; replace HO_4 := ak (Kd.A1e (Kd.R_keep (A0a.apart (show A0a w0 _ g aA aB aC from by repeat (first | (with_reducible first | exact ad.out | apply A0a.alloc | apply A0a.drewN | apply A0a.drew | apply A0a.A3y | apply A0a.A2g | refine A0a.far ?_ ae.out _) | exact ad.out | apply A0a.A2g (x := some _) | apply A0a.A2g (x := none))) (kr HO_4) (by decide)) hk (fun _ h => h.2)) (fun _ h => h.1)); replace ac := ak (A1r.blk hk (g' := aa) (o := .cells #[.int .i64 (wrap64 (aj)), .int .u64 0, .int .u64 0, .int .u64 0] 178 (0, 0)) (kb ac) an.out (by simp)); replace HK := ak (A1r.trans (kk HK) hk (.inl rfl)); replace HB := ak (hb); replace ad := ak (hi); (try simp only [A0i, A0j])) | ((with_reducible refine A0l (f := 115) rfl ?_); refine A1d (some 43) rfl rfl Tryd.func115 (by kernel_rfl) rfl #[.pointer (some ⟨g, 0, none⟩)] rfl km ?_; (with_reducible refine (A1m.calls bb g aD aE aG au a7 a8 a9 w0 _ ?al ?am cp.out).mono ?_); (case al => repeat (first | (with_reducible first | exact ad.out | apply A0a.alloc | apply A0a.drewN | apply A0a.drew | apply A0a.A3y | apply A0a.A2g | refine A0a.far ?_ ae.out _) | exact ad.out | apply A0a.A2g (x := some _) | apply A0a.A2g (x := none))); (case am => exact A0a.kl HB); rintro e cu ⟨rfl, hi, hb, hk⟩; refine ⟨_, rfl, ?_⟩; replace HO_4 := ak (Kd.A1e (Kd.R_keep (A0a.apart (show A0a w0 _ g aD aE aG from by repeat (first | (with_reducible first | exact ad.out | apply A0a.alloc | apply A0a.drewN | apply A0a.drew | apply A0a.A3y | apply A0a.A2g | refine A0a.far ?_ ae.out _) | exact ad.out | apply A0a.A2g (x := some _) | apply A0a.A2g (x := none))) (kr HO_4) (by decide)) hk (fun _ h => h.2)) (fun _ h => h.1)); replace ac := ak (A1r.blk hk (g' := aa) (o := .cells #[.int .i64 (wrap64 (aj)), .int .u64 0, .int .u64 0, .int .u64 0] 178 (0, 0)) (kb ac) an.out (by simp)); replace HK := ak (A1r.trans (kk HK) hk (.inl rfl)); replace HB := ak (hb); replace ad := ak (hi); (try simp only [A0i, A0j]); obtain ⟨b2, b3, b4, b5⟩ := kc4 ac; obtain ⟨b6, b7, b8, b9⟩ := kf4 ac) | ((with_reducible refine A2c (b := .append) (xs := #[.tmp 47, .tmp 49]) rfl ?_); at_builtin; refine Kd.A3t k178 w.heap.size rfl (.tmp 47) (.tmp 49) 175 178 (.agg #[(.int .i64 0), (.int .u64 0), (.int .u64 0), (.int .u64 0)]) 32 rfl Tryd.underlying175 info178 rfl (by decide) (by omega) u4 ax (⟨wrap64 (aj), aq, ar, au⟩ : S178) [.int .i64 (wrap64 (aj)), .int .u64 aq, .int .u64 ar, .int .u64 au] (fun k_ => k_ ≠ aa) (fun _ => False) rfl (by first | (go_simp; done) | (go_simp; rfl)) ?aP (fun _ hk => hk.elim) ?aF ?aO (Below.refl _ _) ?aS ?aL ?_; (case aP => exact k178_mkM _ _ _ (⟨wrap64 (aj), aq, ar, au⟩ : S178)); (case aF => exact (fun k_ hk => Kd.freshB (g := aa) (o := .cells #[.int .i64 (wrap64 (aj)), .int .u64 aq, .int .u64 ar, .int .u64 au] 178 (0, 0)) (kb ac) k_ hk)); (case aO => exact (by (with_reducible repeat (first | apply Kd.R_alloc | apply Kd.A00 | apply Kd.A02)); exact Kd.A1e (Kd.A03 (p := ⟨aa, 3, none⟩) (Kd.A03 (p := ⟨aa, 2, none⟩) (Kd.A03 (p := ⟨aa, 1, none⟩) (Kd.A1e HO_4.out (fun k_ hk => (⟨hk, hk.2⟩ : _ ∧ k_ ≠ aa))) (fun _ hk => hk.2) (.int .u64 aq)) (fun _ hk => hk.2) (.int .u64 ar)) (fun _ hk => hk.2) (.int .u64 au)) (fun _ hk => hk.1.2))); (case aS => exact (keep_size (w := w) (g := g) (row := none) (kk HK))); (case aL => have := LMc19.out; omega); intro bY cv ho hb hg hat; rw [← aY.out] at ho; have bZ := ak (A0a.grown (show A0a w0 _ g a7 a8 a9 from by repeat (first | (with_reducible first | exact ad.out | apply A0a.alloc | apply A0a.drewN | apply A0a.drew | apply A0a.A3y | apply A0a.A2g | refine A0a.far ?_ ae.out _) | exact ad.out | apply A0a.A2g (x := some _) | apply A0a.A2g (x := none))) hg (A0a.own_ne ad.out HO_4.out (by decide))); have ca := ak (A15 (g := aa) (o := .cells #[.int .i64 (wrap64 (aj)), .int .u64 aq, .int .u64 ar, .int .u64 au] 178 (0, 0)) (kb ac) hg (Kd.R_away HO_4.out (fun _ hk => hk.2))); have cc := ak (below_weaken (A0a.kl HB) HL.out hb); have cf := ak (A1r.trans (kk HK) (A1r.of_grown hg g) (Kd.R_base2 HO_4.out)); have cg := ak (ho); clear ad; clear ac; clear HB; clear HK; clear HO_4; have ad := bZ; have ac := ca; have HB := cc; have HK := cf; have aZ := cg; clear bZ ca cc cf cg; clear ho hb hg hat))
           go_roundg bb
           case measure => have := aV.out; have := bc.out; have := be.out; have := bV.out; omega
           case rel => exact ⟨(aM), (IntKind.u64.wrap (ay + 1)), (a7), (a8), (a9), kE, H', ⟨by have := aV.out; have := bc.out; have := be.out; have := bV.out; omega⟩, ⟨by (with_reducible repeat (first | apply Kd.R_alloc | apply Kd.A00 | apply Kd.A02)); exact Kd.A1e aZ.out (fun _ hk => trivial)⟩, ⟨(A0a.k ad)⟩, ⟨(kk HK)⟩, ⟨(A0a.kl HB)⟩⟩
          exact (kA bs H).elim
         replace br := Bool.eq_false_iff.mpr br; subst br
         rw [if_neg (show ¬ (false = true) by decide)] at H; simp only [Option.some.injEq, Prod.mk.injEq] at H; obtain ⟨rfl, rfl, rfl, rfl⟩ := H
         go_wp2
         go_ret
         exact ⟨_, kF, by (with_reducible repeat (first | apply Kd.R_alloc | apply Kd.A00 | apply Kd.A02)); exact HO_4.out, (A0a.k ad), (A0a.kl HB), (kk HK)⟩
end Go.Proofs.YtodocfjbpkicgaaDoor.All
