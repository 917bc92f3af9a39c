-- copied by a program of the session
import Derived.Test.YtodocfjbpkicgaaDoorKwAllx62
import Derived.Test.YtodocfjbpkicgaaDoorKwAllx67
import Derived.Test.YtodocfjbpkicgaaDoorKwAllx72
import Derived.Test.YtodocfjbpkicgaaDoorKwAllx75
set_option linter.unusedSimpArgs false
set_option linter.unusedVariables false
set_option maxHeartbeats 8000000
set_option maxRecDepth 100000
section
namespace Go.Proofs.YtodocfjbpkicgaaDoor.All
open Go.RowKit Go.Zw Go.Zl Go.Zm
attribute [local go_sem] A2h A2r
mutual
def A0w.l0 : Nat → List Int → Int → List (S42) → List (S62) → Int → Int → Int → List (S62) → Option ((List (S42)) × Option Int)
 | 0, _, _, _, _, _, _, _, _ => none
 | k + 1, x0, x5, x7, ae, ag, ac, aa, af => if ac < ag then (if 0 ≤ ac then (if ac < (ae.length : Int) then (if 0 ≤ x5 then (if x5 ≤ (wrap64 (x5 + ((A0p ae ac).f3))) then (if (wrap64 (x5 + ((A0p ae ac).f3))) ≤ (x0.length : Int) then ((A07.f k aa ((A0p ae ac).f0) ((A0p ae ac).f1) ((A0p ae ac).f2) ((A0p ae ac).f3) ((x0.take ((wrap64 (x5 + ((A0p ae ac).f3))) : Int).toNat).drop (x5 : Int).toNat)).bind fun ad => (if ad.2.isNone = true then (A0w.j1 k x0 x5 x7 ad.1 none ae ag ac false aa af ((A0p ae ac).f0) ((A0p ae ac).f1) ((A0p ae ac).f2) ((A0p ae ac).f3)) else (A0w.j1 k x0 x5 x7 ad.1 (some (ad.2.getD 0)) ae ag ac true aa af ((A0p ae ac).f0) ((A0p ae ac).f1) ((A0p ae ac).f2) ((A0p ae ac).f3)))) else (none)) else (none)) else (none)) else (none)) else (none)) else (some (x7, none))
def A0w.j1 : Nat → List Int → Int → List (S42) → List (S42) → Option Int → List (S62) → Int → Int → Bool → Int → List (S62) → Int → Int → Int → Int → Option ((List (S42)) × Option Int)
 | 0, _, _, _, _, _, _, _, _, _, _, _, _, _, _, _ => none
 | k + 1, x0, x5, x7, ah, ai, aj, al, am, an, aa, ac, ae, af, ag, ad => if an = true then (some (x7, ai)) else (if x7.length + ah.length < 8796093022208 then (A0w.l0 k x0 (wrap64 (x5 + ad)) (x7 ++ ah) aj al (wrap64 (am + 1)) aa ac) else (none))
end
def A0w.f (k : Nat) (l0 : List Int) : Option ((List (S42)) × Option Int) := (A0r.f k l0).bind fun aa => (if aa.2.2.2.isNone = true then (A0w.l0 k l0 aa.2.2.1 ([] : List (S42)) aa.2.1 (aa.2.1.length : Int) 0 aa.1 aa.2.1) else (some (([] : List (S42)), some (aa.2.2.2.getD 0))))
theorem A0w.A2x : ∀ k, (∀ y0 y1 y2 y3 y4 y5 y6 y7, LeO (A0w.l0 k y0 y1 y2 y3 y4 y5 y6 y7) (A0w.l0 (k + 1) y0 y1 y2 y3 y4 y5 y6 y7)) ∧ (∀ y0 y1 y2 y3 y4 y5 y6 y7 y8 y9 aa ac ad ae af, LeO (A0w.j1 k y0 y1 y2 y3 y4 y5 y6 y7 y8 y9 aa ac ad ae af) (A0w.j1 (k + 1) y0 y1 y2 y3 y4 y5 y6 y7 y8 y9 aa ac ad ae af))
 | 0 => ⟨fun _ _ _ _ _ _ _ _ r h => by simp [A0w.l0] at h, fun _ _ _ _ _ _ _ _ _ _ _ _ _ _ _ r h => by simp [A0w.j1] at h⟩
 | k + 1 => by
  obtain ⟨ih0, ih1⟩ := A0w.A2x k
  refine ⟨?_, ?_⟩ <;> intros <;> (first | unfold A0w.l0 | unfold A0w.j1) <;> (
   repeat' first
   | with_reducible apply ih0
   | with_reducible apply ih1
   | with_reducible apply A0r.mono
   | with_reducible apply A07.mono
   | (with_reducible exact LeO.refl _)
   | (with_reducible exact LeO.none _)
   | (with_reducible refine LeO.ite ?_ ?_)
   | (with_reducible refine LeO.bind ?_ (fun _ => ?_))
   | exact LeO.none _
   | refine LeO.ite ?_ ?_
   | refine LeO.bind ?_ (fun _ => ?_))
theorem A0w.mono : ∀ a0 k, LeO (A0w.f k a0) (A0w.f (k + 1) a0) := by
 intro a0 k
 obtain ⟨ih0, ih1⟩ := A0w.A2x k
 unfold A0w.f
 repeat' first
   | with_reducible apply ih0
   | with_reducible apply ih1
   | with_reducible apply A0r.mono
   | with_reducible apply A07.mono
   | (with_reducible exact LeO.refl _)
   | (with_reducible exact LeO.none _)
   | (with_reducible refine LeO.ite ?_ ?_)
   | (with_reducible refine LeO.bind ?_ (fun _ => ?_))
   | exact LeO.none _
   | refine LeO.ite ?_ ?_
   | refine LeO.bind ?_ (fun _ => ?_)
def A0w.T8 : Bool × List (List Nat × List Nat) := (true, [([], []), ([0], [0]), ([], []), ([], []), ([], []), ([], []), ([], []), ([6], [6]), ([5, 7], [5, 7]), ([3, 4, 8], [3, 4, 8]), ([1, 2, 9], [1, 2, 9]), ([10], [10]), ([11], [11]), ([11], [11]), ([12, 10, 0, 1, 2, 3, 4, 5, 6, 7, 8, 9, 10, 11, 12], [12]), ([13, 14, 0, 1, 2, 3, 4, 5, 6, 7, 8, 9, 10, 11, 12, 13, 14], [13])])
def A0w.B8 : List Nat := [0, 1, 0, 0, 0, 0, 0, 64, 224, 504, 1023, 2047, 4095, 4095, 8191, 32767]
theorem A0w.tab8 : rtab .any (opsOf Tryd.f30 8) = A0w.T8 := by kernel_rfl
theorem A0w.bits8 : A26 A0w.T8.2 A0w.B8 = true := by kernel_rfl
theorem A0w.calls (k : Nat) (A0 : Option Addr) (c0 : Nat) (l0 : List Int) (r1 : List (S42)) (r2 : Option Int) (w : World) (hT : A39 w) (hr0 : Kd.C (Kd.int .u8) w A0 l0.length l0) (hc0 : l0.length ≤ c0) (h : A0w.f k l0 = some (r1, r2)) :
  Calls Tryd.prog 30 #[.slice A0 l0.length c0] w fun e w' => ∃ bL : Value, e = .returned (.tuple #[bL, errW r2]) ∧ Kd.R k42 42 w' w.heap.size (fun _ => True) bL r1 ∧ Below w.heap.size w w' := by
 have hu113 := Tryd.underlying113; have hu62 := Tryd.underlying62; have hu38 := Tryd.underlying38; have hu94 := Tryd.underlying94; have HT := ak hT; clear hT; have b8 := ak hr0; have b9 := ak hc0; clear hr0 hc0; have HB := ak (Below.refl w.heap.size w); have H := h; clear h; unfold A0w.f at H; replace H := bkH H; obtain ⟨⟨af, aa, au, aH⟩, A2, H⟩ := H; (try dsimp only at H)
 rcases aH with _ | ax
 ·have H1 : (A0w.l0 k l0 au ([] : List (S42)) aa (aa.length : Int) 0 af aa) = some (r1, r2) := by rw [if_pos (show (none : Option Int).isNone = true by rfl)] at H; exact H
  clear H; have H := H1; clear H1
  try simp only [A0i, A0j]
  have H' := ak H; clear H
  go_enter Tryd.func30, Tryd.ntmps30
  go_wp2_with (first | ((with_reducible refine A0l (f := 66) rfl ?_); refine A1d (some 14) rfl rfl Tryd.func66 (by kernel_rfl) rfl #[.slice A0 l0.length c0] rfl km ?_; (with_reducible refine (A0r.calls k _ _ l0 af aa au none _ ?ap ?aq A2.out).mono ?_); (case ap => exact kC b8.out); (case aq => exact b9.out); rintro e w3 ⟨aI, rfl, ho0, hb⟩; refine ⟨_, rfl, ?_⟩; have ah := ak (Kd.A2l ho0 (A0t (kl HB))); replace HB := kH HB hb; (try simp only [A0i, A0j])) | ((with_reducible refine A0s (N := 4) rfl ?_); refine bxe 4 #[.int .i64 0, .slice none 0 0] 113 (h := ?_); intro ag hg w4 hbox hb; replace ah := ak (Kd.A1x (kr ah) hb); have ad := ak (hbox); have a9 := kG hg HB; have ay := kG hg HB; replace HB := kH HB hb; clear hb hbox hg; obtain ⟨bA, bB⟩ := kc2 ad; obtain ⟨bC, bD⟩ := kf2 ad; obtain ⟨aJ, aw, bY⟩ := Kd.A11 ah.out; subst bY))
  go_loopg [5, 7, 24] k (fun kq v5 v7 bZ w' => ∃ (x5_1 : Int) (x7_1 : List (S42)) (x24_1 : Int), v5 = .int .i64 x5_1 ∧ bZ = .int .i64 x24_1 ∧ A0b (A0w.l0 kq l0 x5_1 x7_1 aa (aa.length : Int) x24_1 af aa = some (r1, r2)) ∧ A0b (kq ≤ k) ∧ A0b (Kd.R k42 42 w' w.heap.size (fun _ => True) v7 x7_1) ∧ A0b (Kd.R k62 62 w' w.heap.size (fun _ => True) (.slice aJ aa.length aw) aa) ∧ A0b (Kd.R k62 62 w' w.heap.size (fun _ => True) (.slice aJ aa.length aw) aa) ∧ A0b (w'.heap[ag]? = some (.cells #[.int .i64 af, (.slice aJ aa.length aw)] 113 (0, 0))) ∧ A0b (Below w.heap.size w w'))
  case atStart => exact ⟨(au), (([] : List (S42))), (0), kE, kE, H', ⟨Nat.le_refl _⟩, ⟨kNi⟩, ⟨by (with_reducible repeat (first | apply Kd.R_alloc | apply Kd.A00 | apply Kd.A02)); exact Kd.A1e (Kd.A03 (p := ⟨ag, 1, none⟩) (Kd.A03 (p := ⟨ag, 0, none⟩) (Kd.A2a ah.out ad.out (by decide)) (fun _ hk => hk.2) (.int .i64 af)) (fun _ hk => hk.2) (.slice aJ aa.length aw)) (fun _ hk => trivial)⟩, ⟨by (with_reducible repeat (first | apply Kd.R_alloc | apply Kd.A00 | apply Kd.A02)); exact Kd.A1e (Kd.A03 (p := ⟨ag, 1, none⟩) (Kd.A03 (p := ⟨ag, 0, none⟩) (Kd.A2a ah.out ad.out (by decide)) (fun _ hk => hk.2) (.int .i64 af)) (fun _ hk => hk.2) (.slice aJ aa.length aw)) (fun _ hk => trivial)⟩, ⟨(kb ad)⟩, ⟨(kl HB)⟩⟩
  case round =>
   clear H'; obtain ⟨x5_1, x7_1, x24_1, rfl, rfl, HA, bh, HO_7, HO_22, HO_1342001, ad, HB⟩ := hrel
   cases gk with
   | zero => exact absurd HA.out (by simp [A0w.l0])
   | succ k1 =>
    have H := HA.out; clear HA; simp only [A0w.l0] at H
    by_cases c7 : x24_1 < (aa.length : Int)
    ·rw [kIp c7] at H; have bE : decide (x24_1 < (aa.length : Int)) = true := kTt c7; clear c7
     by_cases c8 : 0 ≤ x24_1
     ·rw [kIp c8] at H; have ca : decide (0 ≤ x24_1) = true := kTt c8; clear c8
      by_cases c9 : x24_1 < (aa.length : Int)
      ·rw [kIp c9] at H; have cc : decide (x24_1 < (aa.length : Int)) = true := kTt c9; clear c9
       by_cases c10 : 0 ≤ x5_1
       ·rw [kIp c10] at H; have bM := kEt c10; have bN := kTt c10; clear c10
        by_cases bi : x5_1 ≤ (wrap64 (x5_1 + ((A0p aa x24_1).f3)))
        ·rw [kIp bi] at H; have bO := kEt bi; have bP := kTt bi
         by_cases bj : (wrap64 (x5_1 + ((A0p aa x24_1).f3))) ≤ (l0.length : Int)
         ·rw [kIp bj] at H; have bQ := kEt bj; have bR := kTt bj; replace H := bkH H; obtain ⟨⟨aj, az⟩, cf, H⟩ := H; (try dsimp only at H); have aA := ak H; clear H; have a1 : 0 ≤ (x24_1 : Int) := kD; have av : x24_1 < (aa.length : Int) := kD; obtain ⟨ai, aK, aM, aN, aP, aQ⟩ := at_T62 (Kd.A0y HO_22.out).2.2 x24_1 a1 av
          cases aK
          replace a1 := kEt a1
          (try (have ar := av; simp only [List.length_drop, List.length_take] at ar; replace ar := kEt ar)); replace av := kEt av
          try go_wp2_with (first | ((with_reducible refine A0s (N := 9) rfl ?_); refine bxe 9 #[.int .i64 0, .int .i64 0, .int .i64 0, .int .i64 0] 62 (h := ?_); intro ac hg cg hbox hb; replace HO_7 := ak (Kd.A1x (kr HO_7) hb); replace HO_22 := ak (Kd.A1x (Kd.A31 (kr HO_22) ac (Nat.le_of_eq hg.symm)) hb); replace HO_1342001 := ak (Kd.A1x (Kd.A31 (kr HO_1342001) ac (Nat.le_of_eq hg.symm)) hb); have ae := ak (hbox); have bF := kG hg HB; have aC := kG hg HB; replace HB := kH HB hb; obtain ⟨al, am⟩ := kN hg ad; replace ad := kB ad hb; clear hb hbox hg; have bS := am.out; have bT := al.out; obtain ⟨bk, bm, bn, bo⟩ := kc4 ae; obtain ⟨bp, bq, br, bs⟩ := kf4 ae))
          generalize hw_ : ((((cg.setCell ⟨ac, 0, none⟩ (.int .i64 ((A0p aa x24_1).f0))).setCell ⟨ac, 1, none⟩ (.int .i64 ((A0p aa x24_1).f1))).setCell ⟨ac, 2, none⟩ (.int .i64 ((A0p aa x24_1).f2))).setCell ⟨ac, 3, none⟩ (.int .i64 ((A0p aa x24_1).f3))) = aT; have aU : A0b (Kd.R k42 42 aT w.heap.size (fun _ => True) u7 x7_1) := ⟨by rw [← hw_]; (with_reducible repeat (first | apply Kd.R_alloc | apply Kd.A00 | apply Kd.A02)); exact Kd.A1e (Kd.A03 (p := ⟨ac, 3, none⟩) (Kd.A03 (p := ⟨ac, 2, none⟩) (Kd.A03 (p := ⟨ac, 1, none⟩) (Kd.A03 (p := ⟨ac, 0, none⟩) (Kd.A2a HO_7.out ae.out (by decide)) (fun _ hk => hk.2) (.int .i64 ((A0p aa x24_1).f0))) (fun _ hk => hk.2) (.int .i64 ((A0p aa x24_1).f1))) (fun _ hk => hk.2) (.int .i64 ((A0p aa x24_1).f2))) (fun _ hk => hk.2) (.int .i64 ((A0p aa x24_1).f3))) (fun _ hk => trivial)⟩; have aV : A0b (Kd.R k62 62 aT w.heap.size (fun k_ => k_ ≠ ac) (.slice (some ai) aa.length aw) aa) := ⟨by rw [← hw_]; (with_reducible repeat (first | apply Kd.R_alloc | apply Kd.A00 | apply Kd.A02)); exact Kd.A1e (Kd.A03 (p := ⟨ac, 3, none⟩) (Kd.A03 (p := ⟨ac, 2, none⟩) (Kd.A03 (p := ⟨ac, 1, none⟩) (Kd.A03 (p := ⟨ac, 0, none⟩) (Kd.A1e HO_22.out (fun k_ hk => (⟨hk, hk.2⟩ : _ ∧ k_ ≠ ac))) (fun _ hk => hk.2) (.int .i64 ((A0p aa x24_1).f0))) (fun _ hk => hk.2) (.int .i64 ((A0p aa x24_1).f1))) (fun _ hk => hk.2) (.int .i64 ((A0p aa x24_1).f2))) (fun _ hk => hk.2) (.int .i64 ((A0p aa x24_1).f3))) (fun _ hk => hk.1.2)⟩; have aW : A0b (Kd.R k62 62 aT w.heap.size (fun k_ => k_ ≠ ac) (.slice (some ai) aa.length aw) aa) := ⟨by rw [← hw_]; (with_reducible repeat (first | apply Kd.R_alloc | apply Kd.A00 | apply Kd.A02)); exact Kd.A1e (Kd.A03 (p := ⟨ac, 3, none⟩) (Kd.A03 (p := ⟨ac, 2, none⟩) (Kd.A03 (p := ⟨ac, 1, none⟩) (Kd.A03 (p := ⟨ac, 0, none⟩) (Kd.A1e HO_1342001.out (fun k_ hk => (⟨hk, hk.2⟩ : _ ∧ k_ ≠ ac))) (fun _ hk => hk.2) (.int .i64 ((A0p aa x24_1).f0))) (fun _ hk => hk.2) (.int .i64 ((A0p aa x24_1).f1))) (fun _ hk => hk.2) (.int .i64 ((A0p aa x24_1).f2))) (fun _ hk => hk.2) (.int .i64 ((A0p aa x24_1).f3))) (fun _ hk => hk.1.2)⟩; have aX := mv hw_ (kb ad); have aY := mv hw_ (kb ae); have aZ : A0b (Below w.heap.size w aT) := ⟨by rw [← hw_]; repeat (first | (with_reducible first | exact HB.out | apply A2k | apply A2e | apply A04 | refine A1y ?_ ay.out | refine A1y ?_ aC.out) | exact HB.out)⟩; clear hw_; have HO_7 := aU; have HO_22 := aV; have HO_1342001 := aW; have ad := aX; have ae := aY; have HB := aZ; clear aU aV aW aX aY aZ; replace HO_7 := ak (Kd.A02 HO_7.out); replace HO_22 := ak (Kd.A02 HO_22.out); replace HO_1342001 := ak (Kd.A02 HO_1342001.out); replace ad := ak (A0v ad.out); replace ae := ak (A0v ae.out); replace HB := ak (A04 HB.out); obtain ⟨ch, a4, _, a5, _⟩ := info_parts info5
          obtain ⟨ci, bG, ba, bb⟩ := A29 (P := Tryd.prog) (Value.int .u8) 0 22 5 .i64 .i64 Tryd.underlying22 a4 a5 A0 c0 l0 x5_1 (wrap64 (x5_1 + ((A0p aa x24_1).f3))) kD (by first | omega | exact kD) kD b9.out; have a2 := ak (Kd.A2b (h1 := fun _ => rfl) (ba _ (Kd.A18 b8.out))); have aD := ak bb; clear ba bb a4 a5
          refine A28 (n := 16) (S := fun w' => w'.cell? ⟨ag, 0, none⟩ = some (.int .i64 af) ∧ w'.cell? ⟨ag, 1, none⟩ = some (.slice (some ai) aa.length aw) ∧ w'.cell? ⟨ac, 0, none⟩ = some (.int .i64 ((A0p aa x24_1).f0)) ∧ w'.cell? ⟨ac, 1, none⟩ = some (.int .i64 ((A0p aa x24_1).f1)) ∧ w'.cell? ⟨ac, 2, none⟩ = some (.int .i64 ((A0p aa x24_1).f2)) ∧ w'.cell? ⟨ac, 3, none⟩ = some (.int .i64 ((A0p aa x24_1).f3))) (ds := []) (bl 16 0) (by kernel_rfl) rfl rfl kz (fun hHeld => ?_); refine A2j A0w.tab8 A0w.bits8 (fun HT_ HW_ => ?_)
          generalize aT.drew = co at HO_7 HO_22 HO_1342001 ad ae HB a2 hHeld ⊢; refine pv 0 29 ?_; refine pv 3 32 ?_; refine pv 4 33 ?_; refine pv 5 34 ?_; refine pv 6 35 ?_; refine ta 1 (some 30) (bl 16 123) (h := ?_); refine ta 2 (some 31) (bl 16 127) (h := ?_); refine ta 7 (some 36) (bl 16 255) (h := ?_); refine pv 8 37 ?_; refine pv 9 38 ?_; refine one_ (i := 10) (N := some 39) (bl 16 2047) rfl rfl (A2s HT_.out (by kernel_rfl)) (by decide) (fun K hK => ?_); refine goes_ Tryd.func28 (by kernel_rfl) rfl #[.int .i64 af, .agg #[.int .i64 ((A0p aa x24_1).f0), .int .i64 ((A0p aa x24_1).f1), .int .i64 ((A0p aa x24_1).f2), .int .i64 ((A0p aa x24_1).f3)], .slice ci ((l0.take ((wrap64 (x5_1 + ((A0p aa x24_1).f3))) : Int).toNat).drop (x5_1 : Int).toNat).length (c0 - x5_1.toNat)] (by rfl) rfl rfl (by (try simp only [List.map_toArray, List.map_cons, List.map_nil]); first | done | (rw [show ((l0.take ((wrap64 (x5_1 + ((A0p aa x24_1).f3))) : Int).toNat).drop (x5_1 : Int).toNat).length = ((wrap64 (x5_1 + ((A0p aa x24_1).f3))).toNat - x5_1.toNat) from (by rw [List.length_drop, List.length_take]; have h_ : ((wrap64 (x5_1 + ((A0p aa x24_1).f3))) : Int) ≤ (l0.length : Int) := kD; omega)] <;> rfl) | rfl | (simp only [List.length_drop, List.length_take]; rfl)) ?_
          with_reducible refine (A07.calls k1 af ((A0p aa x24_1).f0) ((A0p aa x24_1).f1) ((A0p aa x24_1).f2) ((A0p aa x24_1).f3) _ _ ((l0.take ((wrap64 (x5_1 + ((A0p aa x24_1).f3))) : Int).toNat).drop (x5_1 : Int).toNat) aj az _ ?ap ?aq ?bc cf.out).mono ?_
          (case ap => exact A39.below HT.out (kl HB) (Nat.le_refl _))
          (case aq => exact kC (Kd.A1i a2.out HB.out))
          (case bc => exact aD.out)
          rintro e cp ⟨a6, rfl, ho0, hb⟩; refine ⟨_, rfl, ?_⟩; replace HO_22 := ak (Kd.A1x (kr HO_22) hb); replace HO_1342001 := ak (Kd.A1x (kr HO_1342001) hb); have a3 := ak (Kd.A2l (Kd.A3j ho0 (Kd.R_lt (kr HO_7))) (A0t (kl HB))); replace HO_7 := ak (Kd.A2v (kr HO_7) (Kd.A3h ho0) hb); replace ad := kB ad hb; replace ae := kB ae hb; replace HB := kH HB hb; (try simp only [A0i, A0j]); refine hK.out _ _ kz (fun hHeld => ?_); clear hK K; refine nm (some 39) (h := ?_)
          refine pv 11 28 ?_; refine pv 12 40 ?_; refine pv 13 41 ?_; refine pv 14 10 ?_; refine pv 15 11 ?_; refine A3u (A22 HT_.out (by kernel_rfl)) ?_
          go_upto_region 9 with (fail)
          go_cut [43] (fun cj wc => ∃ (kq : Nat) (ao : Bool), cj = .bool ao ∧ A0b (A0w.j1 kq l0 x5_1 x7_1 aj az aa (aa.length : Int) x24_1 ao af aa ((A0p aa x24_1).f0) ((A0p aa x24_1).f1) ((A0p aa x24_1).f2) ((A0p aa x24_1).f3) = some (r1, r2)) ∧ A0b (kq ≤ k1) ∧ A0b (Kd.R k42 42 wc w.heap.size (fun k_ => some k_ ≠ (a6 : Value).ownBlock) u7 x7_1) ∧ A0b (Kd.R k42 42 wc w.heap.size (fun k_ => some k_ ≠ (u7 : Value).ownBlock) a6 aj) ∧ A0b (Kd.R k62 62 wc w.heap.size (fun k_ => k_ ≠ ac) (.slice (some ai) aa.length aw) aa) ∧ A0b (Kd.R k62 62 wc w.heap.size (fun k_ => k_ ≠ ac) (.slice (some ai) aa.length aw) aa) ∧ A0b (wc.heap[ag]? = some (.cells #[.int .i64 af, (.slice (some ai) aa.length aw)] 113 (0, 0))) ∧ A0b (wc.heap[ac]? = some (.cells #[.int .i64 ((A0p aa x24_1).f0), .int .i64 ((A0p aa x24_1).f1), .int .i64 ((A0p aa x24_1).f2), .int .i64 ((A0p aa x24_1).f3)] 62 (0, 0))) ∧ A0b (Below w.heap.size w wc))
          case first =>
           have H := aA.out; clear aA
           rcases az with _ | a7
           ·have H1 : (A0w.j1 k1 l0 x5_1 x7_1 aj none aa (aa.length : Int) x24_1 false af aa ((A0p aa x24_1).f0) ((A0p aa x24_1).f1) ((A0p aa x24_1).f2) ((A0p aa x24_1).f3)) = some (r1, r2) := by rw [if_pos (show (none : Option Int).isNone = true by rfl)] at H; exact H
            clear H; have H := H1; clear H1
            try simp only [A0i, A0j]
            have H' := ak H; clear H
            go_wp2
            go_meet
            case rel => exact ⟨_, (false), kE, H', ⟨by have := bh.out; first | omega | exact Nat.le_refl _⟩, ⟨by (with_reducible repeat (first | apply Kd.R_alloc | apply Kd.A00 | apply Kd.A02)); exact Kd.A1e HO_7.out (fun _ hk => hk.2)⟩, ⟨by (with_reducible repeat (first | apply Kd.R_alloc | apply Kd.A00 | apply Kd.A02)); exact Kd.A1e a3.out (fun _ hk => hk.2)⟩, ⟨kr HO_22⟩, ⟨kr HO_1342001⟩, ⟨kb ad⟩, ⟨kb ae⟩, ⟨(kl HB)⟩⟩
           have H1 : (A0w.j1 k1 l0 x5_1 x7_1 aj (some a7) aa (aa.length : Int) x24_1 true af aa ((A0p aa x24_1).f0) ((A0p aa x24_1).f1) ((A0p aa x24_1).f2) ((A0p aa x24_1).f3)) = some (r1, r2) := by rw [if_neg (show ¬ (some a7).isNone = true by simp)] at H; exact H
           clear H; have H := H1; clear H1
           try simp only [A0i, A0j]
           have H' := ak H; clear H
           go_wp2
           go_meet
           case rel => exact ⟨_, (true), kE, H', ⟨by have := bh.out; first | omega | exact Nat.le_refl _⟩, ⟨by (with_reducible repeat (first | apply Kd.R_alloc | apply Kd.A00 | apply Kd.A02)); exact Kd.A1e HO_7.out (fun _ hk => hk.2)⟩, ⟨by (with_reducible repeat (first | apply Kd.R_alloc | apply Kd.A00 | apply Kd.A02)); exact Kd.A1e a3.out (fun _ hk => hk.2)⟩, ⟨kr HO_22⟩, ⟨kr HO_1342001⟩, ⟨kb ad⟩, ⟨kb ae⟩, ⟨(kl HB)⟩⟩
          case rest =>
           clear aA; obtain ⟨kq, ao, rfl, HA, be, HO_7, HO_10, HO_22, HO_1342001, ad, ae, HB⟩ := hcut
           cases kq with
           | zero => exact absurd HA.out (by simp [A0w.j1])
           | succ bf =>
            have H := HA.out; clear HA; simp only [A0w.j1] at H
            by_cases bt : ao = true
            ·subst bt
             rw [if_pos rfl] at H; obtain ⟨rfl, rfl⟩ := kI2 H
             go_wp2
             go_ret2
             exact ⟨_, kF, by (with_reducible repeat (first | apply Kd.R_alloc | apply Kd.A00 | apply Kd.A02)); exact Kd.A1e HO_7.out (fun _ hk => trivial), (kl HB)⟩
            replace bt := Bool.eq_false_iff.mpr bt; subst bt
            rw [if_neg (show ¬ (false = true) by decide)] at H
            by_cases bu : x7_1.length + aj.length < 8796093022208
            ·rw [kIp bu] at H; have LMc23 := ak bu; clear bu; obtain ⟨a8, an⟩ : ∃ y_ : List (S42), y_ = (x7_1 ++ aj) := ⟨_, rfl⟩
             replace H : (A0w.l0 bf l0 (wrap64 (x5_1 + ((A0p aa x24_1).f3))) a8 aa (aa.length : Int) (wrap64 (x24_1 + 1)) af aa) = some (r1, r2) := by first | (rw [an]; with_reducible exact H) | (have H2_ := (Option.bind_some _ _).symm.trans H; rw [an]; with_reducible exact H2_) | (have H2_ := (Option.bind_some _ _).symm.trans H; with_reducible exact H2_) | with_reducible exact H | (rw [an]; exact H) | exact H
             have aE := ak an; clear an; have H' := ak H; clear H; obtain ⟨bH, bI, bJ⟩ := Kd.A11 HO_10.out; subst bJ
             go_wp2_with (first | ((with_reducible refine A2c (b := .append) (xs := #[.tmp 46, .tmp 47]) rfl ?_); at_builtin; refine Kd.A3f k42 (w0 := w) w.heap.size rfl (.tmp 46) (.tmp 47) 36 42 (.agg #[(.int .i64 0), (.int .u64 0)]) 16 rfl Tryd.underlying36 info42 rfl (by decide) (by omega) u7 x7_1 aj _ _ _ (fun k_ => some k_ ≠ (.slice bH aj.length bI : Value).ownBlock) (fun _ => False) rfl rfl ?aO ?aR (fun _ _ h => h) (fun _ h => h.elim) ?aF ?aB ?aS ?aL ?_; (case aR => exact kC (Kd.A0y HO_10.out).2.2); (case aB => exact (kl HB)); (case aF => exact (fun k_ hk => Kd.fresh' (Kd.R_lt (kr HO_10)) k_ hk)); (case aO => exact (kr HO_7)); (case aS => exact (A0t (kl HB))); (case aL => have := LMc23.out; omega); intro bU cq ho hb hg hat; rw [← aE.out] at ho; have aU := ak (Kd.A30 (ok := (fun _ => True)) (by (with_reducible repeat (first | apply Kd.R_alloc | apply Kd.A00 | apply Kd.A02)); exact Kd.A1e HO_10.out (fun _ hk => ⟨trivial, hk⟩)) hg hat); have aV := ak (Kd.R_over' (kr HO_22) (Kd.A36 (kr HO_7)) (by decide) hg); have aW := ak (Kd.R_over' (kr HO_1342001) (Kd.A36 (kr HO_7)) (by decide) hg); have aX := ak (A15 (g := ag) (o := .cells #[.int .i64 af, .slice (some ai) aa.length aw] 113 (0, 0)) (kb ad) hg (Kd.R_ne HO_7.out ad.out (by decide))); have aY := ak (A15 (g := ac) (o := .cells #[.int .i64 ((A0p aa x24_1).f0), .int .i64 ((A0p aa x24_1).f1), .int .i64 ((A0p aa x24_1).f2), .int .i64 ((A0p aa x24_1).f3)] 62 (0, 0)) (kb ae) hg (Kd.R_ne HO_7.out ae.out (by decide))); have aZ := ak (hb); have bV := ak (ho); clear HO_10; clear HO_22; clear HO_1342001; clear ad; clear ae; clear HB; clear HO_7; have HO_10 := aU; have HO_22 := aV; have HO_1342001 := aW; have ad := aX; have ae := aY; have HB := aZ; have aG := bV; clear aU aV aW aX aY aZ bV; clear ho hb hg hat; have bW := am.out; have bX := al.out; obtain ⟨bv, bw, bx, bz⟩ := kc4 ae; obtain ⟨b0, b1, b2, b3⟩ := kf4 ae))
             go_roundg bf
             case measure => have := bh.out; have := be.out; omega
             case rel => exact ⟨(wrap64 (x5_1 + ((A0p aa x24_1).f3))), (a8), (wrap64 (x24_1 + 1)), kE, kE, H', ⟨by have := bh.out; have := be.out; omega⟩, ⟨by (with_reducible repeat (first | apply Kd.R_alloc | apply Kd.A00 | apply Kd.A02)); exact Kd.A1e aG.out (fun _ hk => trivial)⟩, ⟨by (with_reducible repeat (first | apply Kd.R_alloc | apply Kd.A00 | apply Kd.A02)); exact Kd.A1e HO_22.out (fun _ hk => trivial)⟩, ⟨by (with_reducible repeat (first | apply Kd.R_alloc | apply Kd.A00 | apply Kd.A02)); exact Kd.A1e HO_1342001.out (fun _ hk => trivial)⟩, ⟨kb ad⟩, ⟨(kl HB)⟩⟩
            exact (kA bu H).elim
         exact (kA bj H).elim
        exact (kA bi H).elim
       exact (kA c10 H).elim
      exact (kA c9 H).elim
     exact (kA c8 H).elim
    rw [kIn c7] at H; have bE : decide (x24_1 < (aa.length : Int)) = false := kFf c7; clear c7; obtain ⟨rfl, rfl⟩ := kI2 H
    go_wp2
    go_ret2
    exact ⟨_, kF, by (with_reducible repeat (first | apply Kd.R_alloc | apply Kd.A00 | apply Kd.A02)); exact HO_7.out, (kl HB)⟩
 have H1 : (some (([] : List (S42)), some ax)) = some (r1, r2) := by rw [if_neg (show ¬ (some ax).isNone = true by simp)] at H; exact H
 clear H; have H := H1; clear H1
 try simp only [A0i, A0j]
 obtain ⟨rfl, rfl⟩ := kI2 H
 go_enter Tryd.func30, Tryd.ntmps30
 go_wp2_with (first | ((with_reducible refine A0l (f := 66) rfl ?_); refine A1d (some 14) rfl rfl Tryd.func66 (by kernel_rfl) rfl #[.slice A0 l0.length c0] rfl km ?_; (with_reducible refine (A0r.calls k _ _ l0 af aa au (some ax) _ ?ap ?aq A2.out).mono ?_); (case ap => exact kC b8.out); (case aq => exact b9.out); rintro e cr ⟨aI, rfl, ho0, hb⟩; refine ⟨_, rfl, ?_⟩; have ah := ak (Kd.A2l ho0 (A0t (kl HB))); replace HB := kH HB hb; (try simp only [A0i, A0j])) | ((with_reducible refine A0s (N := 4) rfl ?_); refine bxe 4 #[.int .i64 0, .slice none 0 0] 113 (h := ?_); intro ag hg cs hbox hb; replace ah := ak (Kd.A1x (kr ah) hb); have ad := ak (hbox); have a9 := kG hg HB; have ay := kG hg HB; replace HB := kH HB hb; clear hb hbox hg; obtain ⟨b4, b5⟩ := kc2 ad; obtain ⟨b6, b7⟩ := kf2 ad; obtain ⟨ck, cm, bK⟩ := Kd.A11 ah.out; subst bK))
 go_ret2
 exact ⟨_, kF, kNi, (kl HB)⟩
end Go.Proofs.YtodocfjbpkicgaaDoor.All
end
section
namespace Go.Proofs.YtodocfjbpkicgaaDoor.All
open Go.RowKit Go.Zw Go.Zl Go.Zm
attribute [local go_sem] A2h A2r
mutual
def A0x.l0 : Nat → List Int → Int → List (S70) → Int → List (S42) → List Int → Int → Option ((List (S42)) × Int × List Int)
 | 0, _, _, _, _, _, _, _ => none
 | k + 1, x0, x5, x6, x7, x9, ad, ac => if ac < (x6.length : Int) then (if 0 ≤ ac then (if 0 ≤ x7 then (if x7 ≤ (wrap64 (x7 + ((A1s x6 ac).f3))) then (if (wrap64 (x7 + ((A1s x6 ac).f3))) ≤ (x0.length : Int) then ((A0m.f k x5 ((A1s x6 ac).f0) ((A1s x6 ac).f1) ((A1s x6 ac).f2) ((A1s x6 ac).f3) ((x0.take ((wrap64 (x7 + ((A1s x6 ac).f3))) : Int).toNat).drop (x7 : Int).toNat)).bind fun aa => (A0x.j1 k x0 x5 x6 x7 x9 ad ac aa.1 aa.2 (aa.2 != 0))) else (none)) else (none)) else (none)) else (none)) else (some (x9, 0, ad))
def A0x.j1 : Nat → List Int → Int → List (S70) → Int → List (S42) → List Int → Int → List (S42) → Int → Bool → Option ((List (S42)) × Int × List Int)
 | 0, _, _, _, _, _, _, _, _, _, _ => none
 | k + 1, x0, x5, x6, x7, x9, ad, ac, ae, af, ag => if ag = true then (some (x9, af, ad)) else (if x9.length + ae.length < 8796093022208 then ((some (x9 ++ ae : List (S42))).bind fun aa => (if ad.length < 17592186044416 then (if 0 ≤ ac then (if ac < (x6.length : Int) then (A0x.l0 k x0 x5 x6 (wrap64 (x7 + ((A1s x6 ac).f3))) aa (ad ++ [(aa.length : Int)]) (wrap64 (ac + 1))) else (none)) else (none)) else (none))) else (none))
end
def A0x.f (k : Nat) (l0 : List Int) : Option ((List (S42)) × Int × List Int) := (A0c.f k l0).bind fun aa => (if aa.2.2.2 = 0 then (A0x.l0 k l0 aa.1 aa.2.1 aa.2.2.1 ([] : List (S42)) ([] : List Int) 0) else (some (([] : List (S42)), aa.2.2.2, ([] : List Int))))
def A0x.T9 : Bool × List (List Nat × List Nat) := (true, [([], []), ([], []), ([], []), ([1, 2], [1, 2]), ([3], [3]), ([], []), ([], []), ([], []), ([], []), ([], []), ([8, 9], [8, 9]), ([10], [10]), ([11], [11]), ([7, 12], [7, 12]), ([5, 6, 13], [5, 6, 13]), ([0, 4, 14], [0, 4, 14]), ([15], [15]), ([16], [16]), ([16], [16]), ([17, 15, 0, 1, 2, 3, 4, 5, 6, 7, 8, 9, 10, 11, 12, 13, 14, 15, 16, 17], [17]), ([18, 19, 0, 1, 2, 3, 4, 5, 6, 7, 8, 9, 10, 11, 12, 13, 14, 15, 16, 17, 18, 19], [18])])
def A0x.B9 : List Nat := [0, 0, 0, 6, 14, 0, 0, 0, 0, 0, 768, 1792, 3840, 8064, 16352, 32767, 65535, 131071, 131071, 262143, 1048575]
theorem A0x.tab9 : rtab .any (opsOf Tryd.f31 9) = A0x.T9 := by kernel_rfl
theorem A0x.bits9 : A26 A0x.T9.2 A0x.B9 = true := by kernel_rfl
theorem A0x.calls (k : Nat) (A0 : Option Addr) (c0 : Nat) (l0 : List Int) (r1 : List (S42)) (r2 : Int) (r3 : List Int) (w : World) (hr0 : Kd.C (Kd.int .u8) w A0 l0.length l0) (hc0 : l0.length ≤ c0) (h : A0x.f k l0 = some (r1, r2, r3)) :
  Calls Tryd.prog 31 #[.slice A0 l0.length c0] w fun e w' => ∃ bI bJ : Value, e = .returned (.tuple #[bI, .int .i64 r2, bJ]) ∧ Kd.R k42 42 w' w.heap.size (fun _ => True) bI r1 ∧ Kd.R (Kd.int .i64) 3 w' w.heap.size (fun _ => True) bJ r3 ∧ Below w.heap.size w w' := by
 have hu70 := Tryd.underlying70; have bv := ak hr0; have bw := ak hc0; clear hr0 hc0; have HB := ak (Below.refl w.heap.size w); have H := h; clear h; unfold A0x.f at H; replace H := bkH H; obtain ⟨⟨ae, aa, a5, a6⟩, A2, H⟩ := H; (try dsimp only at H)
 by_cases c3 : a6 = 0
 ·rw [kIp c3] at H; obtain ⟨bx, bz⟩ := kqT c3; clear c3; have H' := ak H; clear H
  go_enter Tryd.func31, Tryd.ntmps31
  go_wp2_with (first | ((with_reducible refine A0l (f := 32) rfl ?_); refine A1d (some 16) rfl rfl Tryd.func32 (by kernel_rfl) rfl #[.slice A0 l0.length c0] rfl km ?_; (with_reducible refine (A0c.calls k _ _ l0 ae aa a5 a6 _ ?am ?an A2.out).mono ?_); (case am => exact kC bv.out); (case an => exact bw.out); rintro e w4 ⟨aE, rfl, ho0, hb⟩; refine ⟨_, rfl, ?_⟩; have a7 := ak (Kd.A2l ho0 (A0t (kl HB))); replace HB := kH HB hb))
  go_loopg [7, 9, 10, 11] k (fun kq v7 v9 bO bP w' => ∃ (x7_1 : Int) (x9_1 : List (S42)) (ad : List Int) (x11_1 : Int), v7 = .int .i64 x7_1 ∧ bP = .int .i64 x11_1 ∧ A0b (A0x.l0 kq l0 ae aa x7_1 x9_1 ad x11_1 = some (r1, r2, r3)) ∧ A0b (kq ≤ k) ∧ A0b (Kd.R k70 70 w' w.heap.size (fun _ => True) aE aa) ∧ A0b (Kd.R k42 42 w' w.heap.size (fun _ => True) v9 x9_1) ∧ A0b (Kd.R (Kd.int .i64) 3 w' w.heap.size (fun _ => True) bO ad) ∧ A0b (Below w.heap.size w w'))
  case atStart => exact ⟨(a5), (([] : List (S42))), (([] : List Int)), (0), kE, kE, H', ⟨Nat.le_refl _⟩, ⟨kr a7⟩, ⟨kNi⟩, ⟨kNi⟩, ⟨(kl HB)⟩⟩
  case round =>
   clear H'; obtain ⟨x7_1, x9_1, ad, x11_1, rfl, rfl, HA, b0, HO_6, HO_9, HO_10, HB⟩ := hrel
   cases gk with
   | zero => exact absurd HA.out (by simp [A0x.l0])
   | succ k1 =>
    have H := HA.out; clear HA; simp only [A0x.l0] at H
    by_cases c5 : x11_1 < (aa.length : Int)
    ·rw [kIp c5] at H; have b1 := kTt c5; clear c5
     by_cases c6 : 0 ≤ x11_1
     ·rw [kIp c6] at H; have bQ := kTt c6; clear c6
      by_cases c7 : 0 ≤ x7_1
      ·rw [kIp c7] at H; have bR := kEt c7; have bS : decide (0 ≤ x7_1) = true := kTt c7; clear c7
       by_cases c8 : x7_1 ≤ (wrap64 (x7_1 + ((A1s aa x11_1).f3)))
       ·rw [kIp c8] at H; have bT := kEt c8; have bU : decide (x7_1 ≤ (wrap64 (x7_1 + ((A1s aa x11_1).f3)))) = true := kTt c8
        by_cases c9 : (wrap64 (x7_1 + ((A1s aa x11_1).f3))) ≤ (l0.length : Int)
        ·rw [kIp c9] at H; have bV := kEt c9; have bW : decide ((wrap64 (x7_1 + ((A1s aa x11_1).f3))) ≤ (l0.length : Int)) = true := kTt c9; replace H := bkH H; obtain ⟨⟨af, a8⟩, bX, H⟩ := H; (try dsimp only at H); have aK := ak H; clear H; obtain ⟨bY, b2, b3⟩ := Kd.A11 HO_6.out; subst b3
         try go_wp2
         replace HO_6 := ak (Kd.A02 HO_6.out); replace HO_9 := ak (Kd.A02 HO_9.out); replace HO_10 := ak (Kd.A02 HO_10.out); replace HB := ak (A04 HB.out); have a9 : 0 ≤ (x11_1 : Int) := kD; have a2 : x11_1 < (aa.length : Int) := kD; obtain ⟨ac, aY, ao, ap, aq, ar⟩ := at_T70 (Kd.A0y HO_6.out).2.2 x11_1 a9 a2
         cases aY
         replace a9 := kEt a9
         (try (have ay := a2; simp only [List.length_drop, List.length_take] at ay; replace ay := kEt ay)); replace a2 := kEt a2
         have aA : 0 ≤ (x11_1 : Int) := kD; have a3 : x11_1 < (aa.length : Int) := kD; obtain ⟨aM, aZ, au, av, aw, ax⟩ := at_T70 (Kd.A0y HO_6.out).2.2 x11_1 aA a3; obtain rfl : ac = aM := (by injection aZ); replace aA := kEt aA
         (try (have az := a3; simp only [List.length_drop, List.length_take] at az; replace az := kEt az)); replace a3 := kEt a3
         obtain ⟨bZ, aG, _, aH, _⟩ := info_parts info5; obtain ⟨ca, b4, ba, bb⟩ := A29 (P := Tryd.prog) (Value.int .u8) 0 22 5 .i64 .i64 Tryd.underlying22 aG aH A0 c0 l0 x7_1 (wrap64 (x7_1 + ((A1s aa x11_1).f3))) kD (by first | omega | exact kD) kD bw.out; have aC := ak (Kd.A2b (h1 := fun _ => rfl) (ba _ (Kd.A18 bv.out))); have aN := ak bb; clear ba bb aG aH
         refine A28 (n := 21) (S := fun w' => w'.cell? (ac.add ((x11_1).toNat * 4)) = some (.int .i64 ((A1s aa x11_1).f0)) ∧ w'.cell? ⟨(ac.add ((x11_1).toNat * 4)).block, (ac.add ((x11_1).toNat * 4)).off + 1, none⟩ = some (.int .i64 ((A1s aa x11_1).f1)) ∧ w'.cell? ⟨(ac.add ((x11_1).toNat * 4)).block, (ac.add ((x11_1).toNat * 4)).off + 2, none⟩ = some (.int .i64 ((A1s aa x11_1).f2)) ∧ w'.cell? ⟨(ac.add ((x11_1).toNat * 4)).block, (ac.add ((x11_1).toNat * 4)).off + 3, none⟩ = some (.int .i64 ((A1s aa x11_1).f3)) ∧ w'.cell? (ac.add ((x11_1).toNat * 4)) = some (.int .i64 ((A1s aa x11_1).f0)) ∧ w'.cell? ⟨(ac.add ((x11_1).toNat * 4)).block, (ac.add ((x11_1).toNat * 4)).off + 1, none⟩ = some (.int .i64 ((A1s aa x11_1).f1)) ∧ w'.cell? ⟨(ac.add ((x11_1).toNat * 4)).block, (ac.add ((x11_1).toNat * 4)).off + 2, none⟩ = some (.int .i64 ((A1s aa x11_1).f2)) ∧ w'.cell? ⟨(ac.add ((x11_1).toNat * 4)).block, (ac.add ((x11_1).toNat * 4)).off + 3, none⟩ = some (.int .i64 ((A1s aa x11_1).f3))) (ds := []) (bl 21 0) (by kernel_rfl) rfl rfl ⟨ao, ap, aq, ar, au, av, aw, ax⟩ (fun hHeld => ?_); refine A2j A0x.tab9 A0x.bits9 (fun HT_ HW_ => ?_)
         generalize wr.drew = cj at HO_6 HO_9 HO_10 HB aC ao ap aq ar au av aw ax hHeld ⊢; refine pv 0 31 ?_; refine pv 1 32 ?_; refine pv 2 33 ?_; refine pv 3 34 ?_; refine pv 5 36 ?_; refine pv 6 37 ?_; refine pv 7 38 ?_; refine pv 8 39 ?_; refine pv 9 40 ?_; refine pv 10 41 ?_; refine pv 11 42 ?_; refine ta 4 (some 35) (bl 21 4095) (h := ?_); refine ta 12 (some 43) (bl 21 8191) (h := ?_); refine pv 13 44 ?_; refine pv 14 45 ?_; refine one_ (i := 15) (N := some 46) (bl 21 65535) rfl rfl (A2s HT_.out (by kernel_rfl)) (by decide) (fun K hK => ?_); refine goes_ Tryd.func29 (by kernel_rfl) rfl #[.int .i64 ae, .agg #[.int .i64 ((A1s aa x11_1).f0), .int .i64 ((A1s aa x11_1).f1), .int .i64 ((A1s aa x11_1).f2), .int .i64 ((A1s aa x11_1).f3)], .slice ca ((l0.take ((wrap64 (x7_1 + ((A1s aa x11_1).f3))) : Int).toNat).drop (x7_1 : Int).toNat).length (c0 - x7_1.toNat)] (by rfl) rfl rfl (by (try simp only [List.map_toArray, List.map_cons, List.map_nil]); first | done | (rw [show ((l0.take ((wrap64 (x7_1 + ((A1s aa x11_1).f3))) : Int).toNat).drop (x7_1 : Int).toNat).length = ((wrap64 (x7_1 + ((A1s aa x11_1).f3))).toNat - x7_1.toNat) from (by rw [List.length_drop, List.length_take]; have h_ : ((wrap64 (x7_1 + ((A1s aa x11_1).f3))) : Int) ≤ (l0.length : Int) := kD; omega)] <;> rfl) | rfl | (simp only [List.length_drop, List.length_take]; rfl)) ?_
         with_reducible refine (A0m.calls k1 ae ((A1s aa x11_1).f0) ((A1s aa x11_1).f1) ((A1s aa x11_1).f2) ((A1s aa x11_1).f3) _ _ ((l0.take ((wrap64 (x7_1 + ((A1s aa x11_1).f3))) : Int).toNat).drop (x7_1 : Int).toNat) af a8 _ ?am ?an bX.out).mono ?_
         (case am => exact kC (Kd.A1i aC.out HB.out))
         (case an => exact aN.out)
         rintro e ck ⟨aI, rfl, ho0, hb⟩; have b5 := (hb.cell (World.block_lt_of_cell? _ _ (hHeld.1))).trans (hHeld.1); have b6 := (hb.cell (World.block_lt_of_cell? _ _ (hHeld.2.1))).trans (hHeld.2.1); have b7 := (hb.cell (World.block_lt_of_cell? _ _ (hHeld.2.2.1))).trans (hHeld.2.2.1); have b8 := (hb.cell (World.block_lt_of_cell? _ _ (hHeld.2.2.2.1))).trans (hHeld.2.2.2.1); have b9 := (hb.cell (World.block_lt_of_cell? _ _ (hHeld.2.2.2.2.1))).trans (hHeld.2.2.2.2.1); have bA := (hb.cell (World.block_lt_of_cell? _ _ (hHeld.2.2.2.2.2.1))).trans (hHeld.2.2.2.2.2.1); have bB := (hb.cell (World.block_lt_of_cell? _ _ (hHeld.2.2.2.2.2.2.1))).trans (hHeld.2.2.2.2.2.2.1); have bC := (hb.cell (World.block_lt_of_cell? _ _ (hHeld.2.2.2.2.2.2.2))).trans (hHeld.2.2.2.2.2.2.2); refine ⟨_, rfl, ?_⟩; replace HO_6 := ak (Kd.A1x (kr HO_6) hb); replace HO_10 := ak (Kd.A1x (kr HO_10) hb); have aQ := ak (Kd.A2l (Kd.A3j ho0 (Kd.R_lt (kr HO_9))) (A0t (kl HB))); replace HO_9 := ak (Kd.A2v (kr HO_9) (Kd.A3h ho0) hb); replace HB := kH HB hb; refine hK.out _ _ ⟨b5, b6, b7, b8, b9, bA, bB, bC⟩ (fun hHeld => ?_); clear hK K; refine nm (some 46) (h := ?_)
         refine pv 16 30 ?_; refine pv 17 47 ?_; refine pv 18 48 ?_; refine pv 19 12 ?_; refine pv 20 13 ?_; refine A3u (A22 HT_.out (by kernel_rfl)) ?_
         go_upto_region 10 with (fail)
         go_cut [50] (fun cc wc => ∃ (kq : Nat) (al : Bool), cc = .bool al ∧ A0b (A0x.j1 kq l0 ae aa x7_1 x9_1 ad x11_1 af a8 al = some (r1, r2, r3)) ∧ A0b (kq ≤ k1) ∧ A0b (Kd.R k70 70 wc w.heap.size (fun _ => True) (.slice (some ac) aa.length b2) aa) ∧ A0b (Kd.R k42 42 wc w.heap.size (fun k_ => some k_ ≠ (aI : Value).ownBlock) u9 x9_1) ∧ A0b (Kd.R (Kd.int .i64) 3 wc w.heap.size (fun _ => True) u10 ad) ∧ A0b (Kd.R k42 42 wc w.heap.size (fun k_ => some k_ ≠ (u9 : Value).ownBlock) aI af) ∧ A0b (Below w.heap.size w wc))
         case first =>
          have H := aK.out; clear aK; have H' := ak H; clear H
          go_wp2
          go_meet
          case rel => exact ⟨_, ((a8 != 0)), kE, H', ⟨by have := b0.out; first | omega | exact Nat.le_refl _⟩, ⟨kr HO_6⟩, ⟨by (with_reducible repeat (first | apply Kd.R_alloc | apply Kd.A00 | apply Kd.A02)); exact Kd.A1e HO_9.out (fun _ hk => hk.2)⟩, ⟨kr HO_10⟩, ⟨by (with_reducible repeat (first | apply Kd.R_alloc | apply Kd.A00 | apply Kd.A02)); exact Kd.A1e aQ.out (fun _ hk => hk.2)⟩, ⟨(kl HB)⟩⟩
         case rest =>
          clear aK; obtain ⟨kq, al, rfl, HA, bc, HO_6, HO_9, HO_10, HO_12, HB⟩ := hcut
          cases kq with
          | zero => exact absurd HA.out (by simp [A0x.j1])
          | succ aT =>
           have H := HA.out; clear HA; simp only [A0x.j1] at H
           by_cases bq : al = true
           ·subst bq
            rw [if_pos rfl] at H; obtain ⟨rfl, rfl, rfl⟩ := kI3 H
            go_wp2
            go_ret3
            exact ⟨_, _, by first | rfl | (simp [A0i, A0j] <;> rfl) | (simp [*, A0i, A0j] <;> rfl), by (with_reducible repeat (first | apply Kd.R_alloc | apply Kd.A00 | apply Kd.A02)); exact Kd.A1e HO_9.out (fun _ hk => trivial), by (with_reducible repeat (first | apply Kd.R_alloc | apply Kd.A00 | apply Kd.A02)); exact HO_10.out, (kl HB)⟩
           replace bq := Bool.eq_false_iff.mpr bq; subst bq
           rw [if_neg (show ¬ (false = true) by decide)] at H
           by_cases br : x9_1.length + af.length < 8796093022208
           ·rw [kIp br] at H; have LMc17 := ak br; clear br; obtain ⟨ag, ah⟩ : ∃ y_ : List (S42), y_ = (x9_1 ++ af) := ⟨_, rfl⟩
            replace H : (if ad.length < 17592186044416 then (if 0 ≤ x11_1 then (if x11_1 < (aa.length : Int) then (A0x.l0 aT l0 ae aa (wrap64 (x7_1 + ((A1s aa x11_1).f3))) ag (ad ++ [(ag.length : Int)]) (wrap64 (x11_1 + 1))) else (none)) else (none)) else (none)) = some (r1, r2, r3) := by first | (rw [ah]; with_reducible exact H) | (have H2_ := (Option.bind_some _ _).symm.trans H; rw [ah]; with_reducible exact H2_) | (have H2_ := (Option.bind_some _ _).symm.trans H; with_reducible exact H2_) | with_reducible exact H | (rw [ah]; exact H) | exact H
            have aU := ak ah; clear ah
            by_cases bs : ad.length < 17592186044416
            ·rw [kIp bs] at H; have LMc18 := ak bs; clear bs; obtain ⟨aJ, ai⟩ : ∃ y_ : List Int, y_ = (ad ++ [(ag.length : Int)]) := ⟨_, rfl⟩
             replace H : (if 0 ≤ x11_1 then (if x11_1 < (aa.length : Int) then (A0x.l0 aT l0 ae aa (wrap64 (x7_1 + ((A1s aa x11_1).f3))) ag aJ (wrap64 (x11_1 + 1))) else (none)) else (none)) = some (r1, r2, r3) := by first | (rw [ai]; with_reducible exact H) | (have H2_ := (Option.bind_some _ _).symm.trans H; rw [ai]; with_reducible exact H2_) | (have H2_ := (Option.bind_some _ _).symm.trans H; with_reducible exact H2_) | with_reducible exact H | (rw [ai]; exact H) | exact H
             have aV := ak ai; clear ai
             by_cases bt : 0 ≤ x11_1
             ·rw [kIp bt] at H; have bK := kTt bt; clear bt
              by_cases bu : x11_1 < (aa.length : Int)
              ·rw [kIp bu] at H; have bL := kTt bu; clear bu; have H' := ak H; clear H; obtain ⟨bD, bE, bF⟩ := Kd.A11 HO_12.out; subst bF
               go_wp2_with (first | ((with_reducible refine A2c (b := .append) (xs := #[.tmp 54, .tmp 55]) rfl ?_); at_builtin; refine Kd.A3f k42 (w0 := w) w.heap.size rfl (.tmp 54) (.tmp 55) 36 42 (.agg #[(.int .i64 0), (.int .u64 0)]) 16 rfl Tryd.underlying36 info42 rfl (by decide) (by omega) u9 x9_1 af _ _ _ (fun k_ => some k_ ≠ (.slice bD af.length bE : Value).ownBlock) (fun _ => False) rfl rfl ?aO ?aR (fun _ _ h => h) (fun _ h => h.elim) ?aF ?aB ?aS ?aL ?_; (case aR => exact kC (Kd.A0y HO_12.out).2.2); (case aB => exact (kl HB)); (case aF => exact (fun k_ hk => Kd.fresh' (Kd.R_lt (kr HO_12)) k_ hk)); (case aO => exact (kr HO_9)); (case aS => exact (A0t (kl HB))); (case aL => have := LMc17.out; omega); intro bM cm ho hb hg hat; rw [← aU.out] at ho; have be := ak (Kd.R_over' (kr HO_6) (Kd.A36 (kr HO_9)) (by decide) hg); have bf := ak (Kd.R_over' (kr HO_10) (Kd.A36 (kr HO_9)) (by decide) hg); have bh := ak (Kd.A30 (ok := (fun _ => True)) (by (with_reducible repeat (first | apply Kd.R_alloc | apply Kd.A00 | apply Kd.A02)); exact Kd.A1e HO_12.out (fun _ hk => ⟨trivial, hk⟩)) hg hat); have bi := ak (hb); have bj := ak (ho); clear HO_6; clear HO_10; clear HO_12; clear HB; clear HO_9; have HO_6 := be; have HO_10 := bf; have HO_12 := bh; have HB := bi; have aj := bj; clear be bf bh bi bj; clear ho hb hg hat; obtain ⟨cf, cg, bG⟩ := Kd.A11 aj.out; subst bG) | ((with_reducible refine A2c (b := .append) (xs := #[.tmp 57, .tmp 60]) rfl ?_); at_builtin; refine Kd.A3t (Kd.int .i64) (w0 := w) w.heap.size rfl (.tmp 57) (.tmp 60) 23 3 (.int .i64 0) 8 rfl Tryd.underlying23 info3 rfl (by decide) (by omega) u10 ad (ag.length : Int) [.int .i64 (ag.length : Int)] (fun _ => True) (fun _ => False) rfl rfl ?aP (fun _ hk => hk.elim) ?aF ?aO ?aB ?aS ?aL ?_; (case aP => exact rfl); (case aB => exact (kl HB)); (case aF => exact (fun _ _ => trivial)); (case aO => exact (kr HO_10)); (case aS => exact (A0t (kl HB))); (case aL => have := LMc18.out; omega); intro bN co ho hb hg hat; rw [← aV.out] at ho; have be := ak (Kd.R_over' (kr HO_6) (Kd.A36 (kr HO_10)) (by decide) hg); have bf := ak (Kd.R_over' (kr HO_12) (Kd.A36 (kr HO_10)) (by decide) hg); have bh := ak (Kd.R_over' (kr aj) (Kd.A36 (kr HO_10)) (by decide) hg); have bi := ak (hb); have bj := ak (ho); clear HO_6; clear HO_12; clear aj; clear HB; clear HO_10; have HO_6 := be; have HO_12 := bf; have aj := bh; have HB := bi; have aW := bj; clear be bf bh bi bj; clear ho hb hg hat; have aD : 0 ≤ (x11_1 : Int) := kD; have a4 : x11_1 < (aa.length : Int) := kD; obtain ⟨aX, bk, bm, bn, bo, bp⟩ := at_T70 (Kd.A0y HO_6.out).2.2 x11_1 aD a4; obtain rfl : ac = aX := (by injection bk); replace aD := kEt aD; (try (have a1 := a4; simp only [List.length_drop, List.length_take] at a1; replace a1 := kEt a1)); replace a4 := kEt a4))
               go_roundg aT
               case measure => have := b0.out; have := bc.out; omega
               case rel => exact ⟨(wrap64 (x7_1 + ((A1s aa x11_1).f3))), (ag), (aJ), (wrap64 (x11_1 + 1)), kE, kE, H', ⟨by have := b0.out; have := bc.out; omega⟩, ⟨kr HO_6⟩, ⟨by (with_reducible repeat (first | apply Kd.R_alloc | apply Kd.A00 | apply Kd.A02)); exact Kd.A1e aj.out (fun _ hk => trivial)⟩, ⟨kr aW⟩, ⟨(kl HB)⟩⟩
              exact (kA bu H).elim
             exact (kA bt H).elim
            exact (kA bs H).elim
           exact (kA br H).elim
        exact (kA c9 H).elim
       exact (kA c8 H).elim
      exact (kA c7 H).elim
     exact (kA c6 H).elim
    rw [kIn c5] at H; have b1 := kFf c5; clear c5; obtain ⟨rfl, rfl, rfl⟩ := kI3 H; obtain ⟨ch, ci, bH⟩ := Kd.A11 HO_6.out; subst bH
    go_wp2
    go_ret3
    exact ⟨_, _, by first | rfl | (simp [A0i, A0j] <;> rfl) | (simp [*, A0i, A0j] <;> rfl), by (with_reducible repeat (first | apply Kd.R_alloc | apply Kd.A00 | apply Kd.A02)); exact HO_9.out, by (with_reducible repeat (first | apply Kd.R_alloc | apply Kd.A00 | apply Kd.A02)); exact HO_10.out, (kl HB)⟩
 rw [kIn c3] at H; obtain ⟨bx, bz⟩ := kqF c3; obtain ⟨rfl, rfl, rfl⟩ := kI3 H
 go_enter Tryd.func31, Tryd.ntmps31
 go_wp2_with (first | ((with_reducible refine A0l (f := 32) rfl ?_); refine A1d (some 16) rfl rfl Tryd.func32 (by kernel_rfl) rfl #[.slice A0 l0.length c0] rfl km ?_; (with_reducible refine (A0c.calls k _ _ l0 ae aa a5 a6 _ ?am ?an A2.out).mono ?_); (case am => exact kC bv.out); (case an => exact bw.out); rintro e cp ⟨aE, rfl, ho0, hb⟩; refine ⟨_, rfl, ?_⟩; have a7 := ak (Kd.A2l ho0 (A0t (kl HB))); replace HB := kH HB hb))
 go_ret3
 exact ⟨_, _, by first | rfl | (simp [A0i, A0j] <;> rfl) | (simp [*, A0i, A0j] <;> rfl), kNi, by first | exact Kd.R_nil _ _ _ _ _ | exact Kd.N_nil _ _ _ _ _ | exact Kd.V_nil _ _ _ _ _ | exact Kd.Q_nil _ _ _ _ _ | exact Kd.S_nil _ _ _ _ _, (kl HB)⟩
end Go.Proofs.YtodocfjbpkicgaaDoor.All
end
