-- copied by a program of the session
import Derived.Test.YtodocfjbpkicgaaDoorKwAllx33
set_option linter.unusedSimpArgs false
set_option linter.unusedVariables false
set_option maxHeartbeats 8000000
set_option maxRecDepth 100000
namespace Go.Proofs.YtodocfjbpkicgaaDoor.All
open Go.RowKit Go.Zw Go.Zl Go.Zm
attribute [local go_sem] A2h A2r
mutual
def A05.j0 : Nat → List Int → Int → Bool → Int → Int → Int → Option (Int × Int × Int × Int × Int × Option Int)
 | 0, _, _, _, _, _, _ => none
 | k + 1, x1, x2, am, ai, ac, ad => if am = true then ((A3a.f 2).bind fun af => (some (af.1, af.2.1, af.2.2.1, af.2.2.2.1, af.2.2.2.2.1, af.2.2.2.2.2))) else ((A1q.f k x1 x2 true 1).bind fun ae => (if ae.1 = 1 then ((A1q.f k ae.2.1 ae.2.2.1 ae.2.2.2 1).bind fun aa => (if aa.2.2.2 = true then (if aa.1 = 1 then ((A1q.f k aa.2.1 aa.2.2.1 aa.2.2.2 6).bind fun al => ((A1q.f k al.2.1 al.2.2.1 al.2.2.2 6).bind fun aj => (if aj.2.2.2 = true then (A05.j1 k x1 x2 (wrap64 (al.1)) (wrap64 ((wrap64 (aj.1)) + 1)) (aa.1 == 1) ai ac ad aj.2.1 aj.2.2.1 aj.2.2.2) else ((A3a.f 2).bind fun ag => (some (ag.1, ag.2.1, ag.2.2.1, ag.2.2.2.1, ag.2.2.2.2.1, ag.2.2.2.2.2)))))) else (A05.j1 k x1 x2 ac ad (aa.1 == 1) ai ac ad aa.2.1 aa.2.2.1 aa.2.2.2)) else ((A3a.f 2).bind fun ah => (some (ah.1, ah.2.1, ah.2.2.1, ah.2.2.2.1, ah.2.2.2.2.1, ah.2.2.2.2.2))))) else (A05.j3 k x1 x2 0 ai ac ad ae.2.1 ae.2.2.1 ae.2.2.2)))
def A05.j3 : Nat → List Int → Int → Int → Int → Int → Int → List Int → Int → Bool → Option (Int × Int × Int × Int × Int × Option Int)
 | 0, _, _, _, _, _, _, _, _, _ => none
 | k + 1, x1, x2, am, ad, af, ag, ah, ai, ae => if ae = true then ((A13.f k ad af ag (Go.bits .xor .u64 ad am)).bind fun aa => ((A0z.f k x1 x2 (mn aa.2.1 64)).bind fun aj => ((A0z.f k aa.1 0 (mn aa.2.1 64)).bind fun al => (A05.j4 k x2 (Go.bits .xor .u64 ad am) aj.1 al.1 ah ai ae aa.1 aa.2.1 aa.2.2.1 aa.2.2.2.1 aa.2.2.2.2)))) else ((A3a.f 2).bind fun ac => (some (ac.1, ac.2.1, ac.2.2.1, ac.2.2.2.1, ac.2.2.2.2.1, ac.2.2.2.2.2)))
def A05.j4 : Nat → Int → Int → Int → Int → List Int → Int → Bool → List Int → Int → Int → Int → Int → Option (Int × Int × Int × Int × Int × Option Int)
 | 0, _, _, _, _, _, _, _, _, _, _, _, _ => none
 | k + 1, x2, am, an, ao, ai, ae, aj, al, ad, af, ag, ah => if ad = (wrap64 (ae - x2)) then (if an = ao then (some (am, af, ag, ah, ad, none)) else ((A3a.f 3).bind fun aa => (some (aa.1, aa.2.1, aa.2.2.1, aa.2.2.2.1, aa.2.2.2.2.1, aa.2.2.2.2.2)))) else ((A3a.f 3).bind fun ac => (some (ac.1, ac.2.1, ac.2.2.1, ac.2.2.2.1, ac.2.2.2.2.1, ac.2.2.2.2.2)))
def A05.j1 : Nat → List Int → Int → Int → Int → Bool → Int → Int → Int → List Int → Int → Bool → Option (Int × Int × Int × Int × Int × Option Int)
 | 0, _, _, _, _, _, _, _, _, _, _, _ => none
 | k + 1, x1, x2, ai, ah, aj, aa, ac, ad, ae, af, ag => if ah = 0 then (A05.j2 k x1 x2 ai ah true aa ac ad ae af ag) else (A05.j2 k x1 x2 ai ah (decide ((wrap64 (ai + ah)) > 64)) aa ac ad ae af ag)
def A05.j2 : Nat → List Int → Int → Int → Int → Bool → Int → Int → Int → List Int → Int → Bool → Option (Int × Int × Int × Int × Int × Option Int)
 | 0, _, _, _, _, _, _, _, _, _, _, _ => none
 | k + 1, x1, x2, al, aj, am, ad, ae, af, ag, ah, ai => if am = true then ((A3a.f 3).bind fun aa => (some (aa.1, aa.2.1, aa.2.2.1, aa.2.2.2.1, aa.2.2.2.2.1, aa.2.2.2.2.2))) else ((A1q.f k ag ah ai aj).bind fun ac => (if 0 ≤ (wrap64 ((wrap64 (64 - al)) - aj)) then (A05.j3 k x1 x2 (shl .u64 ac.1 (wrap64 ((wrap64 (64 - al)) - aj))) ad ae af ac.2.1 ac.2.2.1 ac.2.2.2) else (none)))
end
def A05.f (k : Nat) (aa : Int) (a0_1 : Int) (ac : Int) (l1 : List Int) (a2 : Int) : Option (Int × Int × Int × Int × Int × Option Int) := if a2 < 0 then (A05.j0 k l1 a2 true aa a0_1 ac) else (A05.j0 k l1 a2 (decide (a2 > (wrap64 (8 * (l1.length : Int))))) aa a0_1 ac)
theorem A05.A2x : ∀ k, (∀ y0 y1 y2 y3 y4 y5, LeO (A05.j0 k y0 y1 y2 y3 y4 y5) (A05.j0 (k + 1) y0 y1 y2 y3 y4 y5)) ∧ (∀ y0 y1 y2 y3 y4 y5 y6 y7 y8, LeO (A05.j3 k y0 y1 y2 y3 y4 y5 y6 y7 y8) (A05.j3 (k + 1) y0 y1 y2 y3 y4 y5 y6 y7 y8)) ∧ (∀ y0 y1 y2 y3 y4 y5 y6 y7 y8 y9 aa ac, LeO (A05.j4 k y0 y1 y2 y3 y4 y5 y6 y7 y8 y9 aa ac) (A05.j4 (k + 1) y0 y1 y2 y3 y4 y5 y6 y7 y8 y9 aa ac)) ∧ (∀ y0 y1 y2 y3 y4 y5 y6 y7 y8 y9 aa, LeO (A05.j1 k y0 y1 y2 y3 y4 y5 y6 y7 y8 y9 aa) (A05.j1 (k + 1) y0 y1 y2 y3 y4 y5 y6 y7 y8 y9 aa)) ∧ (∀ y0 y1 y2 y3 y4 y5 y6 y7 y8 y9 aa, LeO (A05.j2 k y0 y1 y2 y3 y4 y5 y6 y7 y8 y9 aa) (A05.j2 (k + 1) y0 y1 y2 y3 y4 y5 y6 y7 y8 y9 aa))
 | 0 => ⟨fun _ _ _ _ _ _ r h => by simp [A05.j0] at h, fun _ _ _ _ _ _ _ _ _ r h => by simp [A05.j3] at h, fun _ _ _ _ _ _ _ _ _ _ _ _ r h => by simp [A05.j4] at h, fun _ _ _ _ _ _ _ _ _ _ _ r h => by simp [A05.j1] at h, fun _ _ _ _ _ _ _ _ _ _ _ r h => by simp [A05.j2] at h⟩
 | k + 1 => by
  obtain ⟨ih0, ih1, ih2, ih3, ih4⟩ := A05.A2x k
  refine ⟨?_, ?_, ?_, ?_, ?_⟩ <;> intros <;> (first | unfold A05.j0 | unfold A05.j3 | unfold A05.j4 | unfold A05.j1 | unfold A05.j2) <;> (
   repeat' first
   | with_reducible apply ih0
   | with_reducible apply ih1
   | with_reducible apply ih2
   | with_reducible apply ih3
   | with_reducible apply ih4
   | with_reducible apply A0z.mono
   | with_reducible apply A13.mono
   | with_reducible apply A1q.mono
   | (with_reducible exact LeO.refl _)
   | (with_reducible exact LeO.none _)
   | (with_reducible refine LeO.ite ?_ ?_)
   | (with_reducible refine LeO.bind ?_ (fun _ => ?_))
   | exact LeO.none _
   | refine LeO.ite ?_ ?_
   | refine LeO.bind ?_ (fun _ => ?_))
theorem A05.mono : ∀ a0 a1 a2 a3 a4 k, LeO (A05.f k a0 a1 a2 a3 a4) (A05.f (k + 1) a0 a1 a2 a3 a4) := by
 intro a0 a1 a2 a3 a4 k
 obtain ⟨ih0, ih1, ih2, ih3, ih4⟩ := A05.A2x k
 unfold A05.f
 repeat' first
   | with_reducible apply ih0
   | with_reducible apply ih1
   | with_reducible apply ih2
   | with_reducible apply ih3
   | with_reducible apply ih4
   | with_reducible apply A0z.mono
   | with_reducible apply A13.mono
   | with_reducible apply A1q.mono
   | (with_reducible exact LeO.refl _)
   | (with_reducible exact LeO.none _)
   | (with_reducible refine LeO.ite ?_ ?_)
   | (with_reducible refine LeO.bind ?_ (fun _ => ?_))
   | exact LeO.none _
   | refine LeO.ite ?_ ?_
   | refine LeO.bind ?_ (fun _ => ?_)
def A05.T23 : Bool × List (List Nat × List Nat) := (true, [([], []), ([0], [0]), ([], []), ([2], [2]), ([3], [3]), ([4], [4]), ([], []), ([5, 6], [5, 6]), ([1, 7], [1, 7]), ([8], [8]), ([9], [9]), ([9], [9]), ([10, 11, 9], [9, 10, 11]), ([9, 12], [9, 12])])
def A05.B23 : List Nat := [0, 1, 0, 4, 12, 28, 0, 124, 255, 511, 1023, 1023, 4095, 8191]
theorem A05.tab23 : rtab .any (opsOf Tryd.f84 23) = A05.T23 := by kernel_rfl
theorem A05.bits23 : A26 A05.T23.2 A05.B23 = true := by kernel_rfl
def A05.T25 : Bool × List (List Nat × List Nat) := (true, [([], []), ([], []), ([], []), ([2], [2]), ([0, 0], [0]), ([1, 4, 0, 1, 4], [1]), ([3, 5, 0, 1, 2, 3, 4, 5], [3]), ([6, 0, 1, 2, 3, 4, 5, 6], [])])
def A05.B25 : List Nat := [0, 0, 0, 4, 1, 19, 63, 127]
theorem A05.tab25 : rtab .any (opsOf Tryd.f84 25) = A05.T25 := by kernel_rfl
theorem A05.bits25 : A26 A05.T25.2 A05.B25 = true := by kernel_rfl
theorem A05.calls (k : Nat) (az : Int) (a0_1 : Int) (a1 : Int) (A1 : Option Addr) (c1 : Nat) (l1 : List Int) (a2 : Int) (r1 : Int) (r2 : Int) (r3 : Int) (r4 : Int) (r5 : Int) (r6 : Option Int) (w : World) (hT : A39 w) (hr1 : Kd.C (Kd.int .u8) w A1 l1.length l1) (hc1 : l1.length ≤ c1) (h : A05.f k az a0_1 a1 l1 a2 = some (r1, r2, r3, r4, r5, r6)) :
  Calls Tryd.prog 84 #[.agg #[.int .u64 az, .int .i64 a0_1, .int .i64 a1], .slice A1 l1.length c1, .int .i64 a2] w fun e w' => e = .returned (.tuple #[.int .u64 r1, .agg #[.int .u64 r2, .int .i64 r3, .int .i64 r4], .int .i64 r5, errW r6]) ∧ Below w.heap.size w w' := by
 have hu30 := Tryd.underlying30; have hu194 := Tryd.underlying194; have hu161 := Tryd.underlying161; have HT := ak hT; clear hT; have fQ := ak hr1; have fR := ak hc1; clear hr1 hc1; have HB := ak (Below.refl w.heap.size w); have H := h; clear h; unfold A05.f at H; have eV := ak H; clear H
 go_enter Tryd.func84, Tryd.ntmps84
 go_upto_region 2 with (first | ((with_reducible refine A0s (N := 3) rfl ?_); (try (refine A10 (by rfl) ?_; dsimp only)); refine bxe 3 #[.int .u64 az, .int .i64 a0_1, .int .i64 a1] 30 (h := ?_); intro a3 hg w5 hbox hb; have ac := ak (hbox); have fS := kG hg HB; have fT := kG hg HB; replace HB := kH HB hb; clear hb hbox hg) | ((with_reducible refine A0s (N := 7) rfl ?_); (try (refine A10 (by rfl) ?_; dsimp only)); refine bxe 7 #[.int .u64 0, .int .i64 0, .int .i64 0] 30 (h := ?_); intro an hg w6 hbox hb; have aa := ak (hbox); have fU := kG hg HB; have fV := kG hg HB; replace HB := kH HB hb; obtain ⟨al, am⟩ := kN hg ac; replace ac := kB ac hb; clear hb hbox hg))
 (try simp only [Act.put, List.setIfInBounds_toArray, List.set_cons_zero, List.set_cons_succ])
 go_cut [31] (fun hf wc => ∃ (kq : Nat) (bi : Bool), hf = .bool bi ∧ A0b (A05.j0 kq l1 a2 bi az a0_1 a1 = some (r1, r2, r3, r4, r5, r6)) ∧ A0b (kq ≤ k) ∧ A0b (wc.heap[a3]? = some (.cells #[.int .u64 az, .int .i64 a0_1, .int .i64 a1] 30 (0, 0))) ∧ A0b (wc.heap[an]? = some (.cells #[.int .u64 0, .int .i64 0, .int .i64 0] 30 (0, 0))) ∧ A0b (Below w.heap.size w wc))
 case first =>
  have H := eV.out; clear eV
  by_cases c7 : a2 < 0
  ·rw [kIp c7] at H; have br := kTt c7; clear c7
   (first | rw [br] | (simp only [A2i, A2u]; rw [br]) | skip)
   have H' := ak H; clear H
   go_wp2
   go_meet
   case rel => exact ⟨_, (true), kE, H', kO, ⟨kb ac⟩, ⟨kb aa⟩, ⟨(kl HB)⟩⟩
  rw [kIn c7] at H; have br := kFf c7; clear c7
  (first | rw [br] | (simp only [A2i, A2u]; rw [br]) | skip)
  have H' := ak H; clear H
  go_wp2
  go_meet
  case rel => exact ⟨_, (decide (a2 > (wrap64 (8 * (l1.length : Int))))), kE, H', kO, ⟨kb ac⟩, ⟨kb aa⟩, ⟨(kl HB)⟩⟩
 case rest =>
  clear eV; obtain ⟨kq, bi, rfl, HA, b2, ac, aa, HB⟩ := hcut
  cases kq with
  | zero => exact absurd HA.out (by simp [A05.j0])
  | succ b1 =>
   have H := HA.out; clear HA; simp only [A05.j0] at H
   by_cases c8 : bi = true
   ·subst c8
    rw [if_pos rfl] at H; replace H := bkH H; obtain ⟨⟨eW, bJ, bK, bL, eX, eY⟩, A9, H⟩ := H; (try dsimp only at H); simp only [Option.some.injEq, Prod.mk.injEq] at H; obtain ⟨rfl, rfl, rfl, rfl, rfl, rfl⟩ := H
    go_wp2_with (first | (go_at_call 109; (with_reducible refine (A3a.calls 2 eW bJ bK bL eX eY _ A9.out).mono ?_); rintro e hG ⟨rfl, hb⟩; replace ac := kB ac hb; replace aa := kB aa hb; replace HB := kH HB hb; (try simp only [A0i, A0j]); have fW := am.out; have fX := al.out; obtain ⟨df, dg, dh⟩ := kc3 aa; obtain ⟨di, dj, dk⟩ := kf3 aa))
    refine bodyPost_ret (A1c (rs := [.tmp 6, .cell 7 30, .tmp 8, .tmp 9]) rfl (by simp) (.tmp (.cell an 30 #[.int .u64 bJ, .int .i64 bK, .int .i64 bL] (0, 0) _ rfl (kb aa) Tryd.underlying30 rfl (by kernel_rfl) (.tmp (.tmp .nil))))) rfl ?_
    exact ⟨kF, (kl HB)⟩
   replace c8 := Bool.eq_false_iff.mpr c8; subst c8
   rw [if_neg (show ¬ (false = true) by decide)] at H; replace H := bkH H; obtain ⟨⟨bM, b3, b4, b5⟩, hh, H⟩ := H; (try dsimp only at H); have b6 := ak H; clear H
   try go_wp2_with (first | ((with_reducible refine A0s (N := 41) rfl ?_); (try (refine A10 (by rfl) ?_; dsimp only)); refine bxe 41 #[.slice A1 l1.length c1, .int .i64 a2, .bool true] 194 (h := ?_); intro af hg fY hbox hb; have fZ := kG hg HB; have ga := kG hg HB; obtain ⟨ao, bk⟩ := kN hg ac; replace ac := kB ac hb; obtain ⟨ag, ar⟩ := kN hg aa; replace aa := kB aa hb; have ad := ak ((show A1g w fY af l1 a2 true from ⟨_, _, hbox, (by rw [hg]; exact (A0t (kl HB))), fQ.out, fR.out⟩)); replace HB := kH HB hb; clear hb hbox hg))
   replace ac := ak (A0v ac.out); replace aa := ak (A0v aa.out); replace ad := ak (A1g.drew ad.out); replace HB := ak (A04 HB.out); refine A28 (n := 7) (S := fun w' => w'.cell? ⟨a3, 0, none⟩ = some (.int .u64 az) ∧ w'.cell? ⟨a3, 1, none⟩ = some (.int .i64 a0_1) ∧ w'.cell? ⟨a3, 2, none⟩ = some (.int .i64 a1)) (ds := []) (bl 7 0) (by kernel_rfl) rfl rfl kz (fun hHeld => ?_); generalize fY.drew = hH at ac aa ad HB hHeld ⊢; refine pv 0 42 ?_; refine pv 2 44 ?_; refine ta 1 (some 43) (bl 7 7) (h := ?_); refine pv 4 12 ?_; refine ta 3 (some 45) (bl 7 31) (h := ?_); refine pv 5 13 ?_; refine pv 6 14 ?_; refine A3u (by kernel_rfl) ?_
   go_upto_if 48 with (first | ((with_reducible refine A0l (f := 110) rfl ?_); refine A1d (some 47) rfl rfl Tryd.func110 (by kernel_rfl) rfl #[.pointer (some ⟨af, 0, none⟩), .int .i64 1] rfl km ?_; (with_reducible refine (A1q.calls b1 af l1 a2 true 1 bM b3 b4 b5 w _ ?ap ?ax hh.out).mono ?_); (case ap => exact A1g.k ad); (case ax => exact A1g.kl HB); rintro e hI ⟨rfl, hi, hb, hk⟩; refine ⟨_, rfl, ?_⟩; have bN := ak (A1r.blk hk (g' := a3) (o := .cells #[.int .u64 az, .int .i64 a0_1, .int .i64 a1] 30 (0, 0)) (kb ac) ao.out (by simp)); have bO := ak (A1r.blk hk (g' := an) (o := .cells #[.int .u64 0, .int .i64 0, .int .i64 0] 30 (0, 0)) (kb aa) ag.out (by simp)); have bP := ak (hb); have bQ := ak (hi); clear ac; clear aa; clear HB; clear ad; have ac := bN; have aa := bO; have HB := bP; have ad := bQ; clear bN bO bP bQ; ))
   (try simp only [Act.put, List.setIfInBounds_toArray, List.set_cons_zero, List.set_cons_succ])
   go_cut [14] (fun hl wc => ∃ (kq : Nat) (aK : Int) (aF : Int) (aG : Int) (aH : Int) (ah : List Int) (ae : Int) (aB : Bool), hl = .int .u64 aK ∧ A0b (A05.j3 kq l1 a2 aK az a0_1 a1 ah ae aB = some (r1, r2, r3, r4, r5, r6)) ∧ A0b (kq ≤ b1) ∧ A0b (wc.heap[a3]? = some (.cells #[.int .u64 az, .int .i64 a0_1, .int .i64 a1] 30 (0, 0))) ∧ A0b (wc.heap[an]? = some (.cells #[.int .u64 aF, .int .i64 aG, .int .i64 aH] 30 (0, 0))) ∧ A0b (A1g w wc af ah ae aB) ∧ A0b (Below w.heap.size w wc))
   case first =>
    have H := b6.out; clear b6
    by_cases bR : bM = 1
    ·rw [kIp bR] at H; obtain ⟨aY, bS⟩ := kqT bR; clear bR
     (first | rw [aY] | (simp only [A2i, A2u]; rw [aY]) | skip)
     replace H := bkH H; obtain ⟨⟨bs, bt, bu, bT⟩, hm, H⟩ := H; (try dsimp only at H); have b7 := ak H; clear H
     go_upto_block 0 with (first | ((with_reducible refine A0l (f := 110) rfl ?_); refine A1d (some 50) rfl rfl Tryd.func110 (by kernel_rfl) rfl #[.pointer (some ⟨af, 0, none⟩), .int .i64 1] rfl km ?_; (with_reducible refine (A1q.calls b1 af b3 b4 b5 1 bs bt bu bT w _ ?ap ?ax hm.out).mono ?_); (case ap => exact A1g.k ad); (case ax => exact A1g.kl HB); rintro e hJ ⟨rfl, hi, hb, hk⟩; refine ⟨_, rfl, ?_⟩; replace ac := ak (A1r.blk hk (g' := a3) (o := .cells #[.int .u64 az, .int .i64 a0_1, .int .i64 a1] 30 (0, 0)) (kb ac) ao.out (by simp)); replace aa := ak (A1r.blk hk (g' := an) (o := .cells #[.int .u64 0, .int .i64 0, .int .i64 0] 30 (0, 0)) (kb aa) ag.out (by simp)); replace HB := ak (hb); replace ad := ak (hi); ))
     (try simp only [Act.put, List.setIfInBounds_toArray, List.set_cons_zero, List.set_cons_succ])
     go_cut [12, 13, 15] (fun hn hp hq wc => ∃ (kq : Nat) (aI : Int) (a8 : Int) (bb : Bool) (a4 : Int) (a5 : Int) (a6 : Int) (au : List Int) (av : Int) (aw : Bool), hn = .int .i64 aI ∧ hp = .int .i64 a8 ∧ hq = .bool bb ∧ A0b (A05.j1 kq l1 a2 aI a8 bb az a0_1 a1 au av aw = some (r1, r2, r3, r4, r5, r6)) ∧ A0b (kq ≤ b1) ∧ A0b (wc.heap[a3]? = some (.cells #[.int .u64 az, .int .i64 a0_1, .int .i64 a1] 30 (0, 0))) ∧ A0b (wc.heap[an]? = some (.cells #[.int .u64 a4, .int .i64 a5, .int .i64 a6] 30 (0, 0))) ∧ A0b (A1g w wc af au av aw) ∧ A0b (Below w.heap.size w wc))
     case first =>
      have H := b7.out; clear b7
      by_cases dl : bT = true
      ·subst dl
       rw [if_pos rfl] at H
       by_cases bU : bs = 1
       ·rw [kIp bU] at H; obtain ⟨aZ, bV⟩ := kqT bU; clear bU
        (first | rw [aZ] | (simp only [A2i, A2u]; rw [aZ]) | skip)
        replace H := bkH H; obtain ⟨⟨b8, bv, bw, bx⟩, gb, H⟩ := H; (try dsimp only at H); replace H := bkH H; obtain ⟨⟨b9, bA, bB, eZ⟩, gc, H⟩ := H; (try dsimp only at H)
        by_cases dm : eZ = true
        ·subst dm
         rw [if_pos rfl] at H; have H' := ak H; clear H; obtain ⟨ASz27_0, cSz27_0, HGz27, hgz27, HSz27_0, HLSz27_0⟩ := ad.out; have dn := A3v HGz27; have dp := A3w HGz27; have dq := A3x HGz27; have dr := A0d HGz27 0; have dt := A0d HGz27 1; have du := A0d HGz27 2; clear HGz27 hgz27
         go_wp2_with (first | ((with_reducible refine A0l (f := 110) rfl ?_); refine A1d (some 67) rfl rfl Tryd.func110 (by kernel_rfl) rfl #[.pointer (some ⟨af, 0, none⟩), .int .i64 6] rfl km ?_; (with_reducible refine (A1q.calls b1 af bt bu true 6 b8 bv bw bx w _ ?ap ?ax gb.out).mono ?_); (case ap => exact A1g.k ad); (case ax => exact A1g.kl HB); rintro e hL ⟨rfl, hi, hb, hk⟩; refine ⟨_, rfl, ?_⟩; replace ac := ak (A1r.blk hk (g' := a3) (o := .cells #[.int .u64 az, .int .i64 a0_1, .int .i64 a1] 30 (0, 0)) (kb ac) ao.out (by simp)); replace aa := ak (A1r.blk hk (g' := an) (o := .cells #[.int .u64 0, .int .i64 0, .int .i64 0] 30 (0, 0)) (kb aa) ag.out (by simp)); replace HB := ak (hb); replace ad := ak (hi); ) | ((with_reducible refine A0l (f := 110) rfl ?_); refine A1d (some 70) rfl rfl Tryd.func110 (by kernel_rfl) rfl #[.pointer (some ⟨af, 0, none⟩), .int .i64 6] rfl km ?_; (with_reducible refine (A1q.calls b1 af bv bw bx 6 b9 bA bB true w _ ?ap ?ax gc.out).mono ?_); (case ap => exact A1g.k ad); (case ax => exact A1g.kl HB); rintro e hM ⟨rfl, hi, hb, hk⟩; refine ⟨_, rfl, ?_⟩; replace ac := ak (A1r.blk hk (g' := a3) (o := .cells #[.int .u64 az, .int .i64 a0_1, .int .i64 a1] 30 (0, 0)) (kb ac) ao.out (by simp)); replace aa := ak (A1r.blk hk (g' := an) (o := .cells #[.int .u64 0, .int .i64 0, .int .i64 0] 30 (0, 0)) (kb aa) ag.out (by simp)); replace HB := ak (hb); replace ad := ak (hi); obtain ⟨ASz30_0, cSz30_0, HGz30, hgz30, HSz30_0, HLSz30_0⟩ := ad.out; have dv := A3v HGz30; have dw := A3w HGz30; have dz := A3x HGz30; have d0 := A0d HGz30 0; have d5 := A0d HGz30 1; have d6 := A0d HGz30 2; clear HGz30 hgz30))
         go_meet
         case rel => exact ⟨_, (wrap64 (b8)), (wrap64 ((wrap64 (b9)) + 1)), ((bs == 1)), (0), (0), (0), (bA), (bB), (true), kE, kE, kE, H', ⟨by have := b2.out; first | omega | exact Nat.le_refl _⟩, ⟨kb ac⟩, ⟨kb aa⟩, ⟨(A1g.k ad)⟩, ⟨(A1g.kl HB)⟩⟩
        replace dm := Bool.eq_false_iff.mpr dm; subst dm
        rw [if_neg (show ¬ (false = true) by decide)] at H; replace H := bkH H; obtain ⟨⟨fa, bW, bX, bY, fb, fc⟩, hs, H⟩ := H; (try dsimp only at H); simp only [Option.some.injEq, Prod.mk.injEq] at H; obtain ⟨rfl, rfl, rfl, rfl, rfl, rfl⟩ := H; obtain ⟨ASz32_0, cSz32_0, HGz32, hgz32, HSz32_0, HLSz32_0⟩ := ad.out; have d7 := A3v HGz32; have d8 := A3w HGz32; have d9 := A3x HGz32; have dA := A0d HGz32 0; have dB := A0d HGz32 1; have dC := A0d HGz32 2; clear HGz32 hgz32
        go_wp2_with (first | ((with_reducible refine A0l (f := 110) rfl ?_); refine A1d (some 67) rfl rfl Tryd.func110 (by kernel_rfl) rfl #[.pointer (some ⟨af, 0, none⟩), .int .i64 6] rfl km ?_; (with_reducible refine (A1q.calls b1 af bt bu true 6 b8 bv bw bx w _ ?ap ?ax gb.out).mono ?_); (case ap => exact A1g.k ad); (case ax => exact A1g.kl HB); rintro e hN ⟨rfl, hi, hb, hk⟩; refine ⟨_, rfl, ?_⟩; replace ac := ak (A1r.blk hk (g' := a3) (o := .cells #[.int .u64 az, .int .i64 a0_1, .int .i64 a1] 30 (0, 0)) (kb ac) ao.out (by simp)); replace aa := ak (A1r.blk hk (g' := an) (o := .cells #[.int .u64 0, .int .i64 0, .int .i64 0] 30 (0, 0)) (kb aa) ag.out (by simp)); replace HB := ak (hb); replace ad := ak (hi); ) | ((with_reducible refine A0l (f := 110) rfl ?_); refine A1d (some 70) rfl rfl Tryd.func110 (by kernel_rfl) rfl #[.pointer (some ⟨af, 0, none⟩), .int .i64 6] rfl km ?_; (with_reducible refine (A1q.calls b1 af bv bw bx 6 b9 bA bB false w _ ?ap ?ax gc.out).mono ?_); (case ap => exact A1g.k ad); (case ax => exact A1g.kl HB); rintro e hO ⟨rfl, hi, hb, hk⟩; refine ⟨_, rfl, ?_⟩; replace ac := ak (A1r.blk hk (g' := a3) (o := .cells #[.int .u64 az, .int .i64 a0_1, .int .i64 a1] 30 (0, 0)) (kb ac) ao.out (by simp)); replace aa := ak (A1r.blk hk (g' := an) (o := .cells #[.int .u64 0, .int .i64 0, .int .i64 0] 30 (0, 0)) (kb aa) ag.out (by simp)); replace HB := ak (hb); replace ad := ak (hi); obtain ⟨ASz35_0, cSz35_0, HGz35, hgz35, HSz35_0, HLSz35_0⟩ := ad.out; have dD := A3v HGz35; have dF := A3w HGz35; have dG := A3x HGz35; have dH := A0d HGz35 0; have dI := A0d HGz35 1; have dJ := A0d HGz35 2; clear HGz35 hgz35) | (go_at_call 109; (with_reducible refine (A3a.calls 2 fa bW bX bY fb fc _ hs.out).mono ?_); rintro e hP ⟨rfl, hb⟩; replace ac := kB ac hb; replace aa := kB aa hb; replace HB := ak (A2t (A1g.kl HB) hb); replace ad := ak (A1g.below (A1g.k ad) hb); (try simp only [A0i, A0j]); have gf := am.out; have gg := al.out; have gh := ag.out; have gj := ar.out; obtain ⟨dK, dL, dM⟩ := kc3 aa; obtain ⟨dN, dO, dP⟩ := kf3 aa))
        refine bodyPost_ret (A1c (rs := [.tmp 6, .cell 7 30, .tmp 8, .tmp 9]) rfl (by simp) (.tmp (.cell an 30 #[.int .u64 bW, .int .i64 bX, .int .i64 bY] (0, 0) _ rfl (kb aa) Tryd.underlying30 rfl (by kernel_rfl) (.tmp (.tmp .nil))))) rfl ?_
        exact ⟨kF, (A1g.kl HB)⟩
       rw [kIn bU] at H; obtain ⟨aZ, bV⟩ := kqF bU
       (first | rw [aZ] | (simp only [A2i, A2u]; rw [aZ]) | skip)
       have H' := ak H; clear H; obtain ⟨ASz40_0, cSz40_0, HGz40, hgz40, HSz40_0, HLSz40_0⟩ := ad.out; have dQ := A3v HGz40; have dR := A3w HGz40; have dS := A3x HGz40; have dT := A0d HGz40 0; have dU := A0d HGz40 1; have dV := A0d HGz40 2; clear HGz40 hgz40
       go_wp2
       go_meet
       case rel => exact ⟨_, (a0_1), (a1), ((bs == 1)), (0), (0), (0), (bt), (bu), (true), kE, kE, kE, H', ⟨by have := b2.out; first | omega | exact Nat.le_refl _⟩, ⟨kb ac⟩, ⟨kb aa⟩, ⟨(A1g.k ad)⟩, ⟨(A1g.kl HB)⟩⟩
      replace dl := Bool.eq_false_iff.mpr dl; subst dl
      rw [if_neg (show ¬ (false = true) by decide)] at H; replace H := bkH H; obtain ⟨⟨fd, bZ, ca, cc, fe, ff⟩, ht, H⟩ := H; (try dsimp only at H); simp only [Option.some.injEq, Prod.mk.injEq] at H; obtain ⟨rfl, rfl, rfl, rfl, rfl, rfl⟩ := H; obtain ⟨ASz42_0, cSz42_0, HGz42, hgz42, HSz42_0, HLSz42_0⟩ := ad.out; have dW := A3v HGz42; have dX := A3w HGz42; have dY := A3x HGz42; have dZ := A0d HGz42 0; have ea := A0d HGz42 1; have eb := A0d HGz42 2; clear HGz42 hgz42
      go_wp2_with (first | (go_at_call 109; (with_reducible refine (A3a.calls 2 fd bZ ca cc fe ff _ ht.out).mono ?_); rintro e hQ ⟨rfl, hb⟩; replace ac := kB ac hb; replace aa := kB aa hb; replace HB := ak (A2t (A1g.kl HB) hb); replace ad := ak (A1g.below (A1g.k ad) hb); (try simp only [A0i, A0j]); have gk := am.out; have gm := al.out; have gn := ag.out; have gp := ar.out; obtain ⟨ec, ed, ee⟩ := kc3 aa; obtain ⟨ef, eg, eh⟩ := kf3 aa))
      refine bodyPost_ret (A1c (rs := [.tmp 6, .cell 7 30, .tmp 8, .tmp 9]) rfl (by simp) (.tmp (.cell an 30 #[.int .u64 bZ, .int .i64 ca, .int .i64 cc] (0, 0) _ rfl (kb aa) Tryd.underlying30 rfl (by kernel_rfl) (.tmp (.tmp .nil))))) rfl ?_
      exact ⟨kF, (A1g.kl HB)⟩
     case rest =>
      clear b7; obtain ⟨kq, aI, a8, bb, a4, a5, a6, au, av, aw, rfl, rfl, rfl, HA, bC, ac, aa, ad, HB⟩ := hcut
      cases kq with
      | zero => exact absurd HA.out (by simp [A05.j1])
      | succ fg =>
       have H := HA.out; clear HA; simp only [A05.j1] at H; have bD := ak H; clear H
       go_upto_region 14 with (fail)
       go_cut [91] (fun hu wc => ∃ (kq : Nat) (aV : Bool), hu = .bool aV ∧ A0b (A05.j2 kq l1 a2 aI a8 aV az a0_1 a1 au av aw = some (r1, r2, r3, r4, r5, r6)) ∧ A0b (kq ≤ fg) ∧ A0b (wc.heap[a3]? = some (.cells #[.int .u64 az, .int .i64 a0_1, .int .i64 a1] 30 (0, 0))) ∧ A0b (wc.heap[an]? = some (.cells #[.int .u64 a4, .int .i64 a5, .int .i64 a6] 30 (0, 0))) ∧ A0b (A1g w wc af au av aw) ∧ A0b (Below w.heap.size w wc))
       case first =>
        have H := bD.out; clear bD
        by_cases cf : a8 = 0
        ·rw [kIp cf] at H; obtain ⟨ba, cg⟩ := kqT cf; clear cf
         (first | rw [ba] | (simp only [A2i, A2u]; rw [ba]) | skip)
         have H' := ak H; clear H
         go_wp2
         go_meet
         case rel => exact ⟨_, (true), kE, H', ⟨by have := b2.out; have := bC.out; first | omega | exact Nat.le_refl _⟩, ⟨kb ac⟩, ⟨kb aa⟩, ⟨(A1g.k ad)⟩, ⟨(A1g.kl HB)⟩⟩
        rw [kIn cf] at H; obtain ⟨ba, cg⟩ := kqF cf
        (first | rw [ba] | (simp only [A2i, A2u]; rw [ba]) | skip)
        have H' := ak H; clear H
        go_wp2
        go_meet
        case rel => exact ⟨_, (decide ((wrap64 (aI + a8)) > 64)), kE, H', ⟨by have := b2.out; have := bC.out; first | omega | exact Nat.le_refl _⟩, ⟨kb ac⟩, ⟨kb aa⟩, ⟨(A1g.k ad)⟩, ⟨(A1g.kl HB)⟩⟩
       case rest =>
        clear bD; obtain ⟨kq, aV, rfl, HA, fh, ac, aa, ad, HB⟩ := hcut
        cases kq with
        | zero => exact absurd HA.out (by simp [A05.j2])
        | succ fi =>
         have H := HA.out; clear HA; simp only [A05.j2] at H
         by_cases ei : aV = true
         ·subst ei
          rw [if_pos rfl] at H; replace H := bkH H; obtain ⟨⟨fj, ch, ci, cj, fk, fl⟩, hv, H⟩ := H; (try dsimp only at H); simp only [Option.some.injEq, Prod.mk.injEq] at H; obtain ⟨rfl, rfl, rfl, rfl, rfl, rfl⟩ := H
          go_wp2_with (first | (go_at_call 109; (with_reducible refine (A3a.calls 3 fj ch ci cj fk fl _ hv.out).mono ?_); rintro e hR ⟨rfl, hb⟩; replace ac := kB ac hb; replace aa := kB aa hb; replace HB := ak (A2t (A1g.kl HB) hb); replace ad := ak (A1g.below (A1g.k ad) hb); (try simp only [A0i, A0j]); have gq := am.out; have gr := al.out; have gs := ag.out; have gv := ar.out; obtain ⟨ej, ek, el⟩ := kc3 aa; obtain ⟨em, eo, ep⟩ := kf3 aa))
          refine bodyPost_ret (A1c (rs := [.tmp 6, .cell 7 30, .tmp 8, .tmp 9]) rfl (by simp) (.tmp (.cell an 30 #[.int .u64 ch, .int .i64 ci, .int .i64 cj] (0, 0) _ rfl (kb aa) Tryd.underlying30 rfl (by kernel_rfl) (.tmp (.tmp .nil))))) rfl ?_
          exact ⟨kF, (A1g.kl HB)⟩
         replace ei := Bool.eq_false_iff.mpr ei; subst ei
         rw [if_neg (show ¬ (false = true) by decide)] at H; replace H := bkH H; obtain ⟨⟨bz, ck, cm, co⟩, fm, H⟩ := H; (try dsimp only at H); obtain ⟨bm, bj⟩ := kX (wrap64 ((wrap64 (64 - aI)) - a8))
         (first | rw [bj] at H | simp only [bj] at H)
         (try rw [bj] at fm); have fo : (IntKind.i64.wrap ((wrap64 (64 - aI)) - a8)) = bm := (A2i _).trans bj
         by_cases cp : 0 ≤ (bm)
         ·rw [kIp cp] at H; have gw := kEt cp; have gx := kTt cp; clear cp; obtain ⟨bE, aO⟩ := kX (shl .u64 bz (bm))
          (first | rw [aO] at H | simp only [aO] at H)
          (try rw [aO] at fm); have fp : (IntKind.u64.wrap (bz * 2 ^ min (bm).toNat 64)) = bE := aO; have fq : (bm) ≤ 64 → (IntKind.u64.wrap (bz * 2 ^ (bm).toNat)) = bE := shl_small aO; have H' := ak H; clear H
          go_wp2_with (first | ((with_reducible refine A0l (f := 110) rfl ?_); refine A1d (some 100) rfl rfl Tryd.func110 (by kernel_rfl) rfl #[.pointer (some ⟨af, 0, none⟩), .int .i64 a8] rfl km ?_; (with_reducible refine (A1q.calls fi af au av aw a8 bz ck cm co w _ ?ap ?ax fm.out).mono ?_); (case ap => exact A1g.k ad); (case ax => exact A1g.kl HB); rintro e hS ⟨rfl, hi, hb, hk⟩; refine ⟨_, rfl, ?_⟩; replace ac := ak (A1r.blk hk (g' := a3) (o := .cells #[.int .u64 az, .int .i64 a0_1, .int .i64 a1] 30 (0, 0)) (kb ac) ao.out (by simp)); replace aa := ak (A1r.blk hk (g' := an) (o := .cells #[.int .u64 a4, .int .i64 a5, .int .i64 a6] 30 (0, 0)) (kb aa) ag.out (by simp)); replace HB := ak (hb); replace ad := ak (hi); ))
          go_meet
          case rel => exact ⟨_, (bE), (a4), (a5), (a6), (ck), (cm), (co), (by first | rfl | (simp; done) | (simp only [← aO] <;> (first | rfl | simp)) | (simp [*]; done)), H', ⟨by have := b2.out; have := bC.out; have := fh.out; first | omega | exact Nat.le_refl _⟩, ⟨kb ac⟩, ⟨kb aa⟩, ⟨(A1g.k ad)⟩, ⟨(A1g.kl HB)⟩⟩
         exact (kA cp H).elim
    rw [kIn bR] at H; obtain ⟨aY, bS⟩ := kqF bR
    (first | rw [aY] | (simp only [A2i, A2u]; rw [aY]) | skip)
    have H' := ak H; clear H
    go_wp2
    go_meet
    case rel => exact ⟨_, (0), (0), (0), (0), (b3), (b4), (b5), kE, H', ⟨by have := b2.out; first | omega | exact Nat.le_refl _⟩, ⟨kb ac⟩, ⟨kb aa⟩, ⟨(A1g.k ad)⟩, ⟨(A1g.kl HB)⟩⟩
   case rest =>
    clear b6; obtain ⟨kq, aK, aF, aG, aH, ah, ae, aB, rfl, HA, fs, ac, aa, ad, HB⟩ := hcut
    cases kq with
    | zero => exact absurd HA.out (by simp [A05.j3])
    | succ b0 =>
     have H := HA.out; clear HA; simp only [A05.j3] at H
     by_cases et : aB = true
     ·subst et
      rw [if_pos rfl] at H; replace H := bkH H; obtain ⟨⟨aJ, aL, bc, be, bf⟩, gy, H⟩ := H; (try dsimp only at H); obtain ⟨bh, aE⟩ := kX (mn aL 64)
      (first | rw [aE] at H | simp only [aE] at H)
      (try rw [aE] at gy); (try (have ft : bh ≤ 64 := by (rw [← aE]; unfold mn; (repeat' split) <;> omega))); (try (have fu : bh ≤ 64 := by omega)); have bF : (if 64 < aL then 64 else aL) = bh := aE; (try (have bG := bF; simp only [Int.ofNat_lt] at bG)); replace H := bkH H; obtain ⟨⟨bH, fv⟩, hw, H⟩ := H; (try dsimp only at H); have bI := ak H; clear H; obtain ⟨ASz65_0, cSz65_0, HGz65, hgz65, HSz65_0, HLSz65_0⟩ := ad.out; have eu := A3v HGz65; have ev := A3w HGz65; have ew := A3x HGz65; have ex := A0d HGz65 0; have ey := A0d HGz65 1; have ez := A0d HGz65 2; clear HGz65 hgz65; have gz := al.out; have g0 := am.out; have g1 := ao.out; have g2 := bk.out; obtain ⟨e0, e4, e5⟩ := kc3 ac; obtain ⟨e6, e7, e8⟩ := kf3 ac
      go_upto_region 22 with (first | ((with_reducible refine A0l (f := 104) rfl ?_); refine A1d (some 124) rfl rfl Tryd.func104 (by kernel_rfl) rfl #[.agg #[.int .u64 az, .int .i64 a0_1, .int .i64 a1], .int .u64 (Go.bits .xor .u64 az aK)] rfl km ?_; (with_reducible refine (A13.calls b0 az a0_1 a1 (Go.bits .xor .u64 az aK) aJ aL bc be bf _ ?ap gy.out).mono ?_); (case ap => exact A39.below HT.out (A1g.kl HB) (Nat.le_refl _)); rintro e hU ⟨hx, rfl, ho0, hb⟩; refine ⟨_, rfl, ?_⟩; have aM := ak (Kd.A2l ho0 (A0t (A1g.kl HB))); replace ac := kB ac hb; replace aa := kB aa hb; replace HB := ak (A2t (A1g.kl HB) hb); replace ad := ak (A1g.below (A1g.k ad) hb)) | ((with_reducible refine A0s (N := 17) rfl ?_); (try (refine A10 (by rfl) ?_; dsimp only)); refine bxe 17 #[.slice none 0 0, .int .i64 0] 161 (h := ?_); intro ay hg hV hbox hb; replace aM := ak (Kd.A1x (kr aM) hb); have ai := ak (hbox); have g3 := ak ((by rw [hg]; exact (A0t (A1g.kl HB)) : w.heap.size ≤ ay)); have g4 := ak ((by rw [hg]; exact (A0t (A1g.kl HB)) : w.heap.size ≤ ay)); replace HB := ak (A2t (A1g.kl HB) hb); obtain ⟨aP, aQ⟩ := kN hg ac; replace ac := kB ac hb; obtain ⟨a9, aA⟩ := kN hg aa; replace aa := kB aa hb; have aR := ak ((by rw [hg]; exact Nat.ne_of_lt (A1g.lt (show A1g w _ af ah ae true from A1g.k ad)) : af ≠ ay)); have aS := ak ((by rw [hg]; exact Nat.ne_of_gt (A1g.lt (show A1g w _ af ah ae true from A1g.k ad)) : ay ≠ af)); replace ad := ak (A1g.below (A1g.k ad) hb); clear hb hbox hg) | ((with_reducible refine A0s (N := 18) rfl ?_); (try (refine A10 (by rfl) ?_; dsimp only)); refine bxe 18 #[.int .u64 0, .int .i64 0, .int .i64 0] 30 (h := ?_); intro a7 hg hW hbox hb; replace aM := ak (Kd.A1x (kr aM) hb); have aj := ak (hbox); have g5 := ak ((by rw [hg]; exact (A0t (A1g.kl HB)) : w.heap.size ≤ a7)); have g6 := ak ((by rw [hg]; exact (A0t (A1g.kl HB)) : w.heap.size ≤ a7)); replace HB := ak (A2t (A1g.kl HB) hb); obtain ⟨bn, bo⟩ := kN hg ac; replace ac := kB ac hb; obtain ⟨aC, aD⟩ := kN hg aa; replace aa := kB aa hb; obtain ⟨aT, aU⟩ := kN hg ai; replace ai := kB ai hb; have bp := ak ((by rw [hg]; exact Nat.ne_of_lt (A1g.lt (show A1g w _ af ah ae true from A1g.k ad)) : af ≠ a7)); have bq := ak ((by rw [hg]; exact Nat.ne_of_gt (A1g.lt (show A1g w _ af ah ae true from A1g.k ad)) : a7 ≠ af)); replace ad := ak (A1g.below (A1g.k ad) hb); clear hb hbox hg; obtain ⟨aW, aN, fw⟩ := Kd.A11 aM.out; subst fw; have g7 := aQ.out; have g8 := aP.out; have g9 := aA.out; have gA := a9.out; have gB := aT.out; have gC := aU.out; have gD := aS.out; have gE := aR.out; obtain ⟨e9, eA⟩ := kc2 ai; obtain ⟨eB, eC⟩ := kf2 ai; have gF := bo.out; have gG := bn.out; have gH := aD.out; have gI := aC.out; have gJ := bq.out; have gK := bp.out; obtain ⟨eD, eE, eF⟩ := kc3 aj; obtain ⟨eG, eH, eI⟩ := kf3 aj) | ((with_reducible refine A0l (f := 82) rfl ?_); refine A1d (some 133) rfl rfl Tryd.func82 (by kernel_rfl) rfl #[.slice A1 l1.length c1, .int .i64 a2, .int .i64 bh] rfl (by (try simp only [List.map_toArray, List.map_cons, List.map_nil]); first | done | (simp only [aE]; rfl) | rfl | (simp only [List.length_drop, List.length_take]; rfl)) ?_; (with_reducible refine (A0z.calls b0 _ _ l1 a2 bh bH fv _ ?ap ?ax hw.out).mono ?_); (case ap => exact Kd.A1i fQ.out (A1g.kl HB)); (case ax => exact fR.out); rintro e w' ⟨rfl, ⟨nd, rfl⟩⟩; refine ⟨_, rfl, ?_⟩))
      (try simp only [Act.put, List.setIfInBounds_toArray, List.set_cons_zero, List.set_cons_succ])
      go_cut [21] (fun hy wc => ∃ (kq : Nat) (aX : Int), hy = .int .u64 aX ∧ A0b (A05.j4 kq a2 (Go.bits .xor .u64 az aK) bH aX ah ae true aJ aL bc be bf = some (r1, r2, r3, r4, r5, r6)) ∧ A0b (kq ≤ b0) ∧ A0b (Kd.R (Kd.int .u8) 5 wc w.heap.size (fun _ => True) (.slice aW aJ.length aN) aJ) ∧ A0b (wc.heap[a3]? = some (.cells #[.int .u64 az, .int .i64 a0_1, .int .i64 a1] 30 (0, 0))) ∧ A0b (wc.heap[an]? = some (.cells #[.int .u64 aF, .int .i64 aG, .int .i64 aH] 30 (0, 0))) ∧ A0b (wc.heap[ay]? = some (.cells #[(.slice aW aJ.length aN), .int .i64 aL] 161 (0, 0))) ∧ A0b (wc.heap[a7]? = some (.cells #[.int .u64 bc, .int .i64 be, .int .i64 bf] 30 (0, 0))) ∧ A0b (A1g w wc af ah ae true) ∧ A0b (Below w.heap.size w wc))
      case first =>
       have H := bI.out; clear bI; replace H := bkH H; obtain ⟨⟨cq, fx⟩, hz, H⟩ := H; (try dsimp only at H); have H' := ak H; clear H; have gL := aQ.out; have gM := aP.out; have gN := aA.out; have gO := a9.out; have gP := aT.out; have gQ := aU.out; have gR := aS.out; have gS := aR.out; obtain ⟨eJ, eK⟩ := kc2 ai; obtain ⟨eL, eM⟩ := kf2 ai
       go_wp2_with (first | ((with_reducible refine A0l (f := 82) rfl ?_); refine A1d (some 142) rfl rfl Tryd.func82 (by kernel_rfl) rfl #[.slice aW aJ.length aN, .int .i64 0, .int .i64 bh] rfl (by (try simp only [List.map_toArray, List.map_cons, List.map_nil]); first | done | (simp only [aE]; rfl) | rfl | (simp only [List.length_drop, List.length_take]; rfl)) ?_; (with_reducible refine (A0z.calls b0 _ _ aJ 0 bh cq fx _ ?ap ?ax hz.out).mono ?_); (case ap => refine (Kd.A0y (e := 5) (base := w.heap.size) (ok := fun k_ => True) (n := aJ.length) (c := aN) ?_).2.2; exact (by (with_reducible repeat (first | apply Kd.R_alloc | apply Kd.A00 | apply Kd.A02)); exact (Kd.A1e (Kd.A1e (Kd.A03 (p := ⟨a7, 2, none⟩) (Kd.A03 (p := ⟨a7, 1, none⟩) (Kd.A03 (p := ⟨a7, 0, none⟩) (Kd.A03 (p := ⟨ay, 1, none⟩) (Kd.A03 (p := ⟨ay, 0, none⟩) (Kd.A2a (Kd.A2a aM.out ai.out (by decide)) aj.out (by decide)) (fun _ hk => hk.1.2) (.slice aW aJ.length aN)) (fun _ hk => hk.1.2) (.int .i64 aL)) (fun _ hk => hk.2) (.int .u64 bc)) (fun _ hk => hk.2) (.int .i64 be)) (fun _ hk => hk.2) (.int .i64 bf)) (fun _ h_ => h_.1)) (fun _ h_ => h_.1)))); (case ax => exact (Kd.A0y aM.out).2.1); rintro e w' ⟨rfl, ⟨nd, rfl⟩⟩; refine ⟨_, rfl, ?_⟩))
       go_meet
       case rel => exact ⟨_, (cq), kE, H', ⟨by have := b2.out; have := fs.out; first | omega | exact Nat.le_refl _⟩, ⟨by (with_reducible repeat (first | apply Kd.R_alloc | apply Kd.A00 | apply Kd.A02)); exact Kd.A1e (Kd.A03 (p := ⟨a7, 2, none⟩) (Kd.A03 (p := ⟨a7, 1, none⟩) (Kd.A03 (p := ⟨a7, 0, none⟩) (Kd.A03 (p := ⟨ay, 1, none⟩) (Kd.A03 (p := ⟨ay, 0, none⟩) (Kd.A2a (Kd.A2a aM.out ai.out (by decide)) aj.out (by decide)) (fun _ hk => hk.1.2) (.slice aW aJ.length aN)) (fun _ hk => hk.1.2) (.int .i64 aL)) (fun _ hk => hk.2) (.int .u64 bc)) (fun _ hk => hk.2) (.int .i64 be)) (fun _ hk => hk.2) (.int .i64 bf)) (fun _ hk => trivial)⟩, ⟨(kb ac)⟩, ⟨(kb aa)⟩, ⟨(kb ai)⟩, ⟨(kb aj)⟩, ⟨(A1g.k ad)⟩, ⟨(A1g.kl HB)⟩⟩
      case rest =>
       clear bI; obtain ⟨kq, aX, rfl, HA, h6, HO_761000, ac, aa, ai, aj, ad, HB⟩ := hcut
       cases kq with
       | zero => exact absurd HA.out (by simp [A05.j4])
       | succ h7 =>
        have H := HA.out; clear HA; simp only [A05.j4] at H
        by_cases cr : aL = (wrap64 (ae - a2))
        ·rw [kIp cr] at H; obtain ⟨cs, ct⟩ := kqT cr; clear cr
         by_cases cu : bH = aX
         ·rw [kIp cu] at H; obtain ⟨cv, cw⟩ := kqT cu; clear cu; simp only [Option.some.injEq, Prod.mk.injEq] at H; obtain ⟨rfl, rfl, rfl, rfl, rfl, rfl⟩ := H; obtain ⟨AU708_0, cU708_0, hbU708, hgU708, hrU708_0, hlU708_0⟩ := ad.out; have aq := ak hbU708; have HRU708_0 := ak hrU708_0; have HCU708_0 := ak hlU708_0; clear hbU708 hgU708 hrU708_0 hlU708_0 ad
          try go_wp2
          replace HO_761000 := ak (Kd.A02 HO_761000.out); replace ac := ak (A0v ac.out); replace aa := ak (A0v aa.out); replace ai := ak (A0v ai.out); replace aj := ak (A0v aj.out); replace aq := ak (A0v aq.out); replace HB := ak (A04 HB.out)
          refine A28 (n := 14) (S := fun w' => w'.cell? ⟨ay, 0, none⟩ = some (.slice aW aJ.length aN) ∧ w'.cell? ⟨ay, 1, none⟩ = some (.int .i64 aL) ∧ w'.cell? ⟨af, 0, none⟩ = some (.slice AU708_0 ah.length cU708_0) ∧ w'.cell? ⟨af, 1, none⟩ = some (.int .i64 ae) ∧ w'.cell? ⟨af, 2, none⟩ = some (.bool true)) (ds := []) (bl 14 0) (by kernel_rfl) rfl rfl kz (fun hHeld => ?_); refine A2j A05.tab23 A05.bits23 (fun HT_ HW_ => ?_)
          generalize wc.drew = h8 at HO_761000 ac aa ai aj aq HB hHeld ⊢; refine pv 0 145 ?_; refine pv 2 147 ?_; refine pv 3 148 ?_; refine pv 4 149 ?_; refine pv 6 151 ?_; refine ta 1 (some 146) (bl 14 95) (h := ?_); refine ta 5 (some 150) (bl 14 127) (h := ?_); refine pv 7 152 ?_; refine pv 8 153 ?_; refine pv 9 154 ?_; refine pv 10 155 ?_; refine pv 11 156 ?_; refine pv 12 157 ?_; refine pv 13 158 ?_; refine A3u (A22 HT_.out (by kernel_rfl)) ?_
          try go_wp2
          replace HO_761000 := ak (Kd.A02 HO_761000.out); replace ac := ak (A0v ac.out); replace aa := ak (A0v aa.out); replace ai := ak (A0v ai.out); replace aj := ak (A0v aj.out); replace aq := ak (A0v aq.out); replace HB := ak (A04 HB.out)
          refine A28 (n := 8) (S := fun w' => w'.cell? ⟨a7, 0, none⟩ = some (.int .u64 bc) ∧ w'.cell? ⟨a7, 1, none⟩ = some (.int .i64 be) ∧ w'.cell? ⟨a7, 2, none⟩ = some (.int .i64 bf) ∧ w'.cell? ⟨ay, 0, none⟩ = some (.slice aW aJ.length aN) ∧ w'.cell? ⟨ay, 1, none⟩ = some (.int .i64 aL)) (ds := []) (bl 8 0) (by kernel_rfl) rfl rfl kz (fun hHeld => ?_); refine A2j A05.tab25 A05.bits25 (fun HT_ HW_ => ?_)
          generalize h8.drew = hX at HO_761000 ac aa ai aj aq HB hHeld ⊢; refine pv 0 165 ?_; refine pv 2 167 ?_; refine pv 4 6 ?_; refine ta 1 (some 166) (bl 8 23) (h := ?_); refine ta 3 (some 168) (bl 8 31) (h := ?_); refine one_ (i := 5) (N := none) (bl 8 63) rfl rfl (A2s HT_.out (by kernel_rfl)) (by decide) (fun K hK => ?_); have h9 := (kc3 aa).1; have gT := A0d aa.out 0; have eN := al.out; have eO := aA.out; have eP := aD.out; have eQ := ar.out; have eR := am.out; have eS := a9.out; have eT := aC.out; have eU := ag.out; have hA := (kc3 aa).2.1; have gU := A0d aa.out 1; have hB := (kc3 aa).2.2; have gV := A0d aa.out 2; refine skip_ (w1 := ?_) (by rfl) rfl ?_ ?_
          rotate_left
          ·go_simp
           rfl
          refine hK.out _ _ (ks hHeld) (fun hHeld => ?_); clear hK K; refine pv 6 8 ?_; refine pv 7 9 ?_; refine A3u (A22 HT_.out (by kernel_rfl)) ?_
          try go_wp2
          refine bodyPost_ret (A1c (rs := [.tmp 6, .cell 7 30, .tmp 8, .tmp 9]) rfl (by simp) (.tmp (.cell an 30 #[.int .u64 bc, .int .i64 be, .int .i64 bf] (0, 0) _ rfl (kb aa) Tryd.underlying30 rfl (by kernel_rfl) (.tmp (.tmp .nil))))) rfl ?_
          exact ⟨by first | rfl | (simp [A0i, A0j] <;> rfl) | (simp only [← aE]; first | rfl | (simp [A0i, A0j] <;> rfl)) | (simp [*, A0i, A0j] <;> rfl), (kl HB)⟩
         rw [kIn cu] at H; obtain ⟨cv, cw⟩ := kqF cu; replace H := bkH H; obtain ⟨⟨fy, cx, cy, cz, fz, f0⟩, hC, H⟩ := H; (try dsimp only at H); simp only [Option.some.injEq, Prod.mk.injEq] at H; obtain ⟨rfl, rfl, rfl, rfl, rfl, rfl⟩ := H; obtain ⟨AU708_0, cU708_0, hbU708, hgU708, hrU708_0, hlU708_0⟩ := ad.out; have aq := ak hbU708; have HRU708_0 := ak hrU708_0; have HCU708_0 := ak hlU708_0; clear hbU708 hgU708 hrU708_0 hlU708_0 ad
         try go_wp2
         replace HO_761000 := ak (Kd.A02 HO_761000.out); replace ac := ak (A0v ac.out); replace aa := ak (A0v aa.out); replace ai := ak (A0v ai.out); replace aj := ak (A0v aj.out); replace aq := ak (A0v aq.out); replace HB := ak (A04 HB.out)
         refine A28 (n := 14) (S := fun w' => w'.cell? ⟨ay, 0, none⟩ = some (.slice aW aJ.length aN) ∧ w'.cell? ⟨ay, 1, none⟩ = some (.int .i64 aL) ∧ w'.cell? ⟨af, 0, none⟩ = some (.slice AU708_0 ah.length cU708_0) ∧ w'.cell? ⟨af, 1, none⟩ = some (.int .i64 ae) ∧ w'.cell? ⟨af, 2, none⟩ = some (.bool true)) (ds := []) (bl 14 0) (by kernel_rfl) rfl rfl kz (fun hHeld => ?_); refine A2j A05.tab23 A05.bits23 (fun HT_ HW_ => ?_)
         generalize wc.drew = hY at HO_761000 ac aa ai aj aq HB hHeld ⊢; refine pv 0 145 ?_; refine pv 2 147 ?_; refine pv 3 148 ?_; refine pv 4 149 ?_; refine pv 6 151 ?_; refine ta 1 (some 146) (bl 14 95) (h := ?_); refine ta 5 (some 150) (bl 14 127) (h := ?_); refine pv 7 152 ?_; refine pv 8 153 ?_; refine pv 9 154 ?_; refine pv 10 155 ?_; refine pv 11 156 ?_; refine pv 12 157 ?_; refine pv 13 158 ?_; refine A3u (A22 HT_.out (by kernel_rfl)) ?_
         try go_wp2_with (first | (go_at_call 109; (with_reducible refine (A3a.calls 3 fy cx cy cz fz f0 _ hC.out).mono ?_); rintro e hZ ⟨rfl, hb⟩; have bN := ak (Kd.A1x (kr HO_761000) hb); have bO := ak (kbb ac hb); have bP := ak (kbb aa hb); have bQ := ak (kbb ai hb); have gW := ak (kbb aj hb); have gX := ak (kbb aq hb); have gY := ak (A2t (kl HB) hb); clear HO_761000; clear ac; clear aa; clear ai; clear aj; clear aq; clear HB; have HO_761000 := bN; have ac := bO; have aa := bP; have ai := bQ; have aj := gW; have aq := gX; have HB := gY; clear bN bO bP bQ gW gX gY; (try simp only [A0i, A0j]); have gZ := am.out; have ha := al.out; have hc := a9.out; have he := aA.out; have f2 := aC.out; have f3 := aD.out; have f4 := ag.out; have f5 := ar.out; obtain ⟨cA, cB, cC⟩ := kc3 aa; obtain ⟨cD, cF, cG⟩ := kf3 aa))
         refine bodyPost_ret (A1c (rs := [.tmp 6, .cell 7 30, .tmp 8, .tmp 9]) rfl (by simp) (.tmp (.cell an 30 #[.int .u64 cx, .int .i64 cy, .int .i64 cz] (0, 0) _ rfl (kb aa) Tryd.underlying30 rfl (by kernel_rfl) (.tmp (.tmp .nil))))) rfl ?_
         exact ⟨by first | rfl | (simp [A0i, A0j] <;> rfl) | (simp only [← aE]; first | rfl | (simp [A0i, A0j] <;> rfl)) | (simp [*, A0i, A0j] <;> rfl), (kl HB)⟩
        rw [kIn cr] at H; obtain ⟨cs, ct⟩ := kqF cr; replace H := bkH H; obtain ⟨⟨f6, cH, cI, cJ, f7, f8⟩, f9, H⟩ := H; (try dsimp only at H); simp only [Option.some.injEq, Prod.mk.injEq] at H; obtain ⟨rfl, rfl, rfl, rfl, rfl, rfl⟩ := H; obtain ⟨AU708_0, cU708_0, hbU708, hgU708, hrU708_0, hlU708_0⟩ := ad.out; have aq := ak hbU708; have HRU708_0 := ak hrU708_0; have HCU708_0 := ak hlU708_0; clear hbU708 hgU708 hrU708_0 hlU708_0 ad
        try go_wp2
        replace HO_761000 := ak (Kd.A02 HO_761000.out); replace ac := ak (A0v ac.out); replace aa := ak (A0v aa.out); replace ai := ak (A0v ai.out); replace aj := ak (A0v aj.out); replace aq := ak (A0v aq.out); replace HB := ak (A04 HB.out)
        refine A28 (n := 14) (S := fun w' => w'.cell? ⟨ay, 0, none⟩ = some (.slice aW aJ.length aN) ∧ w'.cell? ⟨ay, 1, none⟩ = some (.int .i64 aL) ∧ w'.cell? ⟨af, 0, none⟩ = some (.slice AU708_0 ah.length cU708_0) ∧ w'.cell? ⟨af, 1, none⟩ = some (.int .i64 ae) ∧ w'.cell? ⟨af, 2, none⟩ = some (.bool true)) (ds := []) (bl 14 0) (by kernel_rfl) rfl rfl kz (fun hHeld => ?_); refine A2j A05.tab23 A05.bits23 (fun HT_ HW_ => ?_)
        generalize wc.drew = hD at HO_761000 ac aa ai aj aq HB hHeld ⊢; refine pv 0 145 ?_; refine pv 2 147 ?_; refine pv 3 148 ?_; refine pv 4 149 ?_; refine pv 6 151 ?_; refine ta 1 (some 146) (bl 14 95) (h := ?_); refine ta 5 (some 150) (bl 14 127) (h := ?_); refine pv 7 152 ?_; refine pv 8 153 ?_; refine pv 9 154 ?_; refine po 10 (some 155) (bl 14 2047) (h := ?_)
        refine po 11 (some 156) (bl 14 4095) (h := ?_)
        refine po 12 (some 157) (bl 14 8191) (h := ?_)
        refine pv 13 158 ?_; refine A3u (A22 HT_.out (by kernel_rfl)) ?_
        try go_wp2_with (first | (go_at_call 109; (with_reducible refine (A3a.calls 3 f6 cH cI cJ f7 f8 _ f9.out).mono ?_); rintro e hE ⟨rfl, hb⟩; replace HO_761000 := ak (Kd.A1x (kr HO_761000) hb); replace ac := kB ac hb; replace aa := kB aa hb; replace ai := kB ai hb; replace aj := kB aj hb; replace aq := kB aq hb; replace HB := kH HB hb; (try simp only [A0i, A0j]); have fA := am.out; have fB := al.out; have fC := a9.out; have fD := aA.out; have fE := aC.out; have fF := aD.out; have fG := ag.out; have fH := ar.out; obtain ⟨cK, cL, cM⟩ := kc3 aa; obtain ⟨cN, cO, cP⟩ := kf3 aa))
        refine bodyPost_ret (A1c (rs := [.tmp 6, .cell 7 30, .tmp 8, .tmp 9]) rfl (by simp) (.tmp (.cell an 30 #[.int .u64 cH, .int .i64 cI, .int .i64 cJ] (0, 0) _ rfl (kb aa) Tryd.underlying30 rfl (by kernel_rfl) (.tmp (.tmp .nil))))) rfl ?_
        exact ⟨by first | rfl | (simp [A0i, A0j] <;> rfl) | (simp only [← aE]; first | rfl | (simp [A0i, A0j] <;> rfl)) | (simp [*, A0i, A0j] <;> rfl), (kl HB)⟩
     replace et := Bool.eq_false_iff.mpr et; subst et
     rw [if_neg (show ¬ (false = true) by decide)] at H; replace H := bkH H; obtain ⟨⟨fI, cQ, cR, cS, fJ, fK⟩, fL, H⟩ := H; (try dsimp only at H); simp only [Option.some.injEq, Prod.mk.injEq] at H; obtain ⟨rfl, rfl, rfl, rfl, rfl, rfl⟩ := H; obtain ⟨ASz112_0, cSz112_0, HGz112, hgz112, HSz112_0, HLSz112_0⟩ := ad.out; have cT := A3v HGz112; have cU := A3w HGz112; have cV := A3x HGz112; have cW := A0d HGz112 0; have cX := A0d HGz112 1; have cY := A0d HGz112 2; clear HGz112 hgz112
     go_wp2_with (first | (go_at_call 109; (with_reducible refine (A3a.calls 2 fI cQ cR cS fJ fK _ fL.out).mono ?_); rintro e hF ⟨rfl, hb⟩; replace ac := kB ac hb; replace aa := kB aa hb; replace HB := ak (A2t (A1g.kl HB) hb); replace ad := ak (A1g.below (A1g.k ad) hb); (try simp only [A0i, A0j]); have fM := am.out; have fN := al.out; have fO := ag.out; have fP := ar.out; obtain ⟨cZ, da, db⟩ := kc3 aa; obtain ⟨dc, dd, de⟩ := kf3 aa))
     refine bodyPost_ret (A1c (rs := [.tmp 6, .cell 7 30, .tmp 8, .tmp 9]) rfl (by simp) (.tmp (.cell an 30 #[.int .u64 cQ, .int .i64 cR, .int .i64 cS] (0, 0) _ rfl (kb aa) Tryd.underlying30 rfl (by kernel_rfl) (.tmp (.tmp .nil))))) rfl ?_
     exact ⟨kF, (A1g.kl HB)⟩
end Go.Proofs.YtodocfjbpkicgaaDoor.All
