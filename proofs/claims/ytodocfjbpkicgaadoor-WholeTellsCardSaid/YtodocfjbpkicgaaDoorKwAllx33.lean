-- copied by a program of the session
import Derived.Test.YtodocfjbpkicgaaDoorKwAllx12
set_option linter.unusedSimpArgs false
set_option linter.unusedVariables false
set_option maxHeartbeats 8000000
set_option maxRecDepth 100000
section
namespace Go.Proofs.YtodocfjbpkicgaaDoor.All
open Go.RowKit Go.Zw Go.Zl Go.Zm
attribute [local go_sem] A2h A2r
def A13.j0 : Nat → Int → Int → Int → Bool → Int → Int → Int → Option (List Int × Int × Int × Int × Int)
 | 0, _, _, _, _, _, _, _ => none
 | k + 1, x6, x7, x8, al, ad, ac, aa => if al = true then ((A1j.f k ([] : List Int) 0 2 2).bind fun ae => (if 0 ≤ (wrap64 ((wrap64 (64 - ac)) - aa)) then ((A1j.f k ae.1 ae.2 (shr .u64 x6 (wrap64 ((wrap64 (64 - ac)) - aa))) aa).bind fun af => (some (af.1, af.2, ad, ac, aa))) else (none))) else ((A1j.f k ([] : List Int) 0 3 2).bind fun ag => ((A1j.f k ag.1 ag.2 (IntKind.u64.wrap (x7)) 6).bind fun ah => ((A1j.f k ah.1 ah.2 (IntKind.u64.wrap (wrap64 (x8 - 1))) 6).bind fun ai => (if 0 ≤ (wrap64 ((wrap64 (64 - x7)) - x8)) then ((A1j.f k ai.1 ai.2 (shr .u64 x6 (wrap64 ((wrap64 (64 - x7)) - x8))) x8).bind fun aj => (some (aj.1, aj.2, ad, x7, x8))) else (none)))))
def A13.f (k : Nat) (ad : Int) (a0_1 : Int) (ac : Int) (a1 : Int) : Option (List Int × Int × Int × Int × Int) := if (Go.bits .xor .u64 a1 ad) = 0 then ((A1j.f k ([] : List Int) 0 0 1).bind fun ae => (some (ae.1, ae.2, a1, a0_1, ac))) else ((xor_window.f (Go.bits .xor .u64 a1 ad)).bind fun aa => (if ac > 0 then (if aa.1 ≥ a0_1 then (A13.j0 k (Go.bits .xor .u64 a1 ad) aa.1 aa.2 (decide ((wrap64 (aa.1 + aa.2)) ≤ (wrap64 (a0_1 + ac)))) a1 a0_1 ac) else (A13.j0 k (Go.bits .xor .u64 a1 ad) aa.1 aa.2 false a1 a0_1 ac)) else (A13.j0 k (Go.bits .xor .u64 a1 ad) aa.1 aa.2 false a1 a0_1 ac)))
theorem A13.A2x : ∀ k, (∀ y0 y1 y2 y3 y4 y5 y6, LeO (A13.j0 k y0 y1 y2 y3 y4 y5 y6) (A13.j0 (k + 1) y0 y1 y2 y3 y4 y5 y6))
 | 0 => fun _ _ _ _ _ _ _ r h => by simp [A13.j0] at h
 | k + 1 => by
  have ih0 := A13.A2x k <;> intros <;> (first | unfold A13.j0) <;> (
   repeat' first
   | with_reducible apply ih0
   | with_reducible apply A1j.mono
   | (with_reducible exact LeO.refl _)
   | (with_reducible exact LeO.none _)
   | (with_reducible refine LeO.ite ?_ ?_)
   | (with_reducible refine LeO.bind ?_ (fun _ => ?_))
   | exact LeO.none _
   | refine LeO.ite ?_ ?_
   | refine LeO.bind ?_ (fun _ => ?_))
theorem A13.mono : ∀ a0 a1 a2 a3 k, LeO (A13.f k a0 a1 a2 a3) (A13.f (k + 1) a0 a1 a2 a3) := by
 intro a0 a1 a2 a3 k
 have ih0 := A13.A2x k
 unfold A13.f
 repeat' first
   | with_reducible apply ih0
   | with_reducible apply A1j.mono
   | (with_reducible exact LeO.refl _)
   | (with_reducible exact LeO.none _)
   | (with_reducible refine LeO.ite ?_ ?_)
   | (with_reducible refine LeO.bind ?_ (fun _ => ?_))
   | exact LeO.none _
   | refine LeO.ite ?_ ?_
   | refine LeO.bind ?_ (fun _ => ?_)
def A13.T8 : Bool × List (List Nat × List Nat) := (true, [([], []), ([], []), ([], []), ([2], [2]), ([3], [3]), ([], []), ([5], [5]), ([4, 6], [4, 6]), ([1, 7], [1, 7]), ([], []), ([9], [9]), ([0, 8, 10], [0, 8, 10]), ([], []), ([11, 11, 0, 1, 2, 3, 4, 5, 6, 7, 8, 9, 10, 11], [11]), ([12, 13, 0, 1, 2, 3, 4, 5, 6, 7, 8, 9, 10, 11, 12, 13], [12])])
def A13.B8 : List Nat := [0, 0, 0, 4, 12, 0, 32, 124, 254, 0, 512, 2047, 0, 4095, 16383]
theorem A13.tab8 : rtab .any (opsOf Tryd.f104 8) = A13.T8 := by kernel_rfl
theorem A13.bits8 : A26 A13.T8.2 A13.B8 = true := by kernel_rfl
def A13.T12 : Bool × List (List Nat × List Nat) := (true, [([], []), ([], []), ([], []), ([2], [2]), ([], []), ([3, 4], [3, 4]), ([1, 5], [1, 5]), ([], []), ([0, 6, 7], [0, 6, 7]), ([], []), ([8, 8, 0, 1, 2, 3, 4, 5, 6, 7, 8], [8]), ([9, 10, 0, 1, 2, 3, 4, 5, 6, 7, 8, 9, 10], [9])])
def A13.B12 : List Nat := [0, 0, 0, 4, 0, 28, 62, 0, 255, 0, 511, 2047]
theorem A13.tab12 : rtab .any (opsOf Tryd.f104 12) = A13.T12 := by kernel_rfl
theorem A13.bits12 : A26 A13.T12.2 A13.B12 = true := by kernel_rfl
theorem A13.calls (k : Nat) (a3 : Int) (a0_1 : Int) (au : Int) (a1 : Int) (r1 : List Int) (r2 : Int) (r3 : Int) (r4 : Int) (r5 : Int) (w : World) (hT : A39 w) (h : A13.f k a3 a0_1 au a1 = some (r1, r2, r3, r4, r5)) :
  Calls Tryd.prog 104 #[.agg #[.int .u64 a3, .int .i64 a0_1, .int .i64 au], .int .u64 a1] w fun e w' => ∃ dP : Value, e = .returned (.tuple #[.agg #[dP, .int .i64 r2], .agg #[.int .u64 r3, .int .i64 r4, .int .i64 r5]]) ∧ Kd.R (Kd.int .u8) 5 w' w.heap.size (fun _ => True) dP r1 ∧ Below w.heap.size w w' := by
 have hu30 := Tryd.underlying30; have hu161 := Tryd.underlying161; have HT := ak hT; clear hT; have HB := ak (Below.refl w.heap.size w); have H := h; clear h; unfold A13.f at H
 by_cases c3 : (Go.bits .xor .u64 a1 a3) = 0
 ·rw [kIp c3] at H; obtain ⟨d7, d8⟩ := kqT c3; clear c3; replace H := bkH H; obtain ⟨⟨bv, bw⟩, A4, H⟩ := H; (try dsimp only at H); simp only [Option.some.injEq, Prod.mk.injEq] at H; obtain ⟨rfl, rfl, rfl, rfl, rfl⟩ := H
  go_enter Tryd.func104, Tryd.ntmps104
  try go_wp2_with (first | ((with_reducible refine A0s (N := 2) rfl ?_); refine bxe 2 #[.int .u64 a3, .int .i64 a0_1, .int .i64 au] 30 (h := ?_); intro aq hg w5 hbox hb; have aa := ak (hbox); have b6 := kG hg HB; have aU := kG hg HB; replace HB := kH HB hb; clear hb hbox hg) | ((with_reducible refine A0s (N := 4) rfl ?_); refine bxe 4 #[.slice none 0 0, .int .i64 0] 161 (h := ?_); intro av hg w6 hbox hb; have ac := ak (hbox); have b7 := kG hg HB; have aV := kG hg HB; replace HB := kH HB hb; obtain ⟨ae, af⟩ := kN hg aa; replace aa := kB aa hb; clear hb hbox hg) | ((with_reducible refine A0s (N := 5) rfl ?_); refine bxe 5 #[.int .u64 0, .int .i64 0, .int .i64 0] 30 (h := ?_); intro ao hg w7 hbox hb; have ad := ak (hbox); have b8 := kG hg HB; have aW := kG hg HB; replace HB := kH HB hb; obtain ⟨ag, ah⟩ := kN hg aa; replace aa := kB aa hb; obtain ⟨al, am⟩ := kN hg ac; replace ac := kB ac hb; clear hb hbox hg; have eR := ae.out; have eS := af.out; have eT := ag.out; have eU := ah.out; obtain ⟨bQ, bR, bS⟩ := kc3 aa; obtain ⟨bT, bU, bV⟩ := kf3 aa))
  generalize hw_ : (w7.setCell ⟨aq, 0, none⟩ (.int .u64 a1)) = dQ; have bo := mv hw_ (kb aa); have bp := mv hw_ (kb ac); have bq := mv hw_ (kb ad); have br : A0b (Below w.heap.size w dQ) := ⟨by rw [← hw_]; repeat (first | (with_reducible first | exact HB.out | apply A2k | apply A2e | apply A04 | refine A1y ?_ aU.out | refine A1y ?_ aV.out | refine A1y ?_ aW.out) | exact HB.out)⟩; clear hw_; have aa := bo; have ac := bp; have ad := bq; have HB := br; clear bo bp bq br; replace aa := ak (A0v aa.out); replace ac := ak (A0v ac.out); replace ad := ak (A0v ad.out); replace HB := ak (A04 HB.out); refine A28 (n := 5) (S := fun w' => w'.cell? ⟨aq, 0, none⟩ = some (.int .u64 a1) ∧ w'.cell? ⟨aq, 1, none⟩ = some (.int .i64 a0_1) ∧ w'.cell? ⟨aq, 2, none⟩ = some (.int .i64 au)) (ds := []) (bl 5 0) (by kernel_rfl) rfl rfl kz (fun hHeld => ?_); generalize dQ.drew = f0 at aa ac ad HB hHeld ⊢; refine pv 0 19 ?_; refine ta 2 (some 21) (bl 5 5) (h := ?_); refine one_ (i := 1) (N := some 20) (bl 5 7) rfl rfl (by kernel_rfl) (by decide) (fun K hK => ?_); refine goes_ Tryd.func111 (by kernel_rfl) rfl #[.agg #[.slice none 0 0, .int .i64 0], .int .u64 0, .int .i64 1] (by rfl) rfl rfl km ?_; refine (A1j.calls k _ _ ([] : List Int) 0 0 1 bv bw _ ?ap ?aw A4.out).mono ?_
  (case ap => exact Kd.C_nil _ _)
  (case aw => exact Nat.le_refl _)
  rintro e f2 ⟨eV, rfl, ho0, hb⟩; refine ⟨_, rfl, ?_⟩; have bs := ak (Kd.A2l ho0 (A0t (kl HB))); replace aa := kB aa hb; replace ac := kB ac hb; replace ad := kB ad hb; replace HB := kH HB hb; obtain ⟨b9, bA, bB⟩ := Kd.A11 bs.out
  (first | subst bB | (injection bB with f1_ f2_ f3_; have f4_ := f1_.symm; have f5_ := f3_.symm; clear f1_ f2_ f3_; subst f4_; subst f5_))
  refine hK.out _ _ kz (fun hHeld => ?_); clear hK K; refine nm (some 20) (h := ?_)
  refine one_ (i := 3) (N := none) (bl 5 15) rfl rfl (by kernel_rfl) (by decide) (fun K hK => ?_); have eW := (kc2 ac).1; have dR := A0d ac.out 0; have bW := ae.out; have bX := am.out; have bY := af.out; have bZ := al.out; have eX := (kc2 ac).2; have dS := A0d ac.out 1; refine skip_ (w1 := ?_) (by rfl) rfl ?_ ?_
  rotate_left
  ·go_simp
   rfl
  refine hK.out _ _ (ks hHeld) (fun hHeld => ?_); clear hK K; refine one_ (i := 4) (N := none) (bl 5 31) rfl rfl (by kernel_rfl) (by decide) (fun K hK => ?_); have eY := (kc3 ad).1; have dT := A0d ad.out 0; have ca := ag.out; have cc := al.out; have cf := ah.out; have cg := am.out; have eZ := (kc3 ad).2.1; have dU := A0d ad.out 1; have fa := (kc3 ad).2.2; have dV := A0d ad.out 2; refine skip_ (w1 := ?_) (by rfl) rfl ?_ ?_
  rotate_left
  ·go_simp
   rfl
  refine hK.out _ _ (ks hHeld) (fun hHeld => ?_); clear hK K; refine A3u (by kernel_rfl) ?_
  try go_wp2
  refine bodyPost_ret (results_cc rfl _ _ av ao 161 30 #[.slice b9 bv.length bA, .int .i64 bw] #[.int .u64 a1, .int .i64 a0_1, .int .i64 au] (0, 0) (0, 0) _ _ rfl (kb ac) Tryd.underlying161 rfl (by kernel_rfl) rfl (kb ad) Tryd.underlying30 rfl (by kernel_rfl)) rfl ?_
  exact ⟨_, kF, by (with_reducible repeat (first | apply Kd.R_alloc | apply Kd.A00 | apply Kd.A02)); exact Kd.A1e (Kd.A03 (p := ⟨ao, 2, none⟩) (Kd.A03 (p := ⟨ao, 1, none⟩) (Kd.A03 (p := ⟨ao, 0, none⟩) (Kd.A03 (p := ⟨av, 1, none⟩) (Kd.A03 (p := ⟨av, 0, none⟩) (Kd.A2a (Kd.A2a bs.out ac.out (by decide)) ad.out (by decide)) (fun _ hk => hk.1.2) (.slice b9 bv.length bA)) (fun _ hk => hk.1.2) (.int .i64 bw)) (fun _ hk => hk.2) (.int .u64 a1)) (fun _ hk => hk.2) (.int .i64 a0_1)) (fun _ hk => hk.2) (.int .i64 au)) (fun _ hk => trivial), (kl HB)⟩
 rw [kIn c3] at H; obtain ⟨d7, d8⟩ := kqF c3; replace H := bkH H; obtain ⟨⟨a2, a4⟩, fb, H⟩ := H; (try dsimp only at H); have bx := ak H; clear H
 go_enter Tryd.func104, Tryd.ntmps104
 go_upto_region 6 with (first | ((with_reducible refine A0s (N := 2) rfl ?_); refine bxe 2 #[.int .u64 a3, .int .i64 a0_1, .int .i64 au] 30 (h := ?_); intro aq hg f3 hbox hb; have aa := ak (hbox); have b6 := kG hg HB; have aU := kG hg HB; replace HB := kH HB hb; clear hb hbox hg) | ((with_reducible refine A0s (N := 4) rfl ?_); refine bxe 4 #[.slice none 0 0, .int .i64 0] 161 (h := ?_); intro av hg f4 hbox hb; have ac := ak (hbox); have b7 := kG hg HB; have aV := kG hg HB; replace HB := kH HB hb; obtain ⟨ae, af⟩ := kN hg aa; replace aa := kB aa hb; clear hb hbox hg) | ((with_reducible refine A0s (N := 5) rfl ?_); refine bxe 5 #[.int .u64 0, .int .i64 0, .int .i64 0] 30 (h := ?_); intro ao hg f5 hbox hb; have ad := ak (hbox); have b8 := kG hg HB; have aW := kG hg HB; replace HB := kH HB hb; obtain ⟨ag, ah⟩ := kN hg aa; replace aa := kB aa hb; obtain ⟨al, am⟩ := kN hg ac; replace ac := kB ac hb; clear hb hbox hg; have dW := ae.out; have dX := af.out; have dY := ag.out; have dZ := ah.out; obtain ⟨ch, ci, cj⟩ := kc3 aa; obtain ⟨ck, cm, co⟩ := kf3 aa) | ((with_reducible refine A0l (f := 118) rfl ?_); refine A1d (some 24) rfl rfl Tryd.func118 (by kernel_rfl) rfl #[.int .u64 (Go.bits .xor .u64 a1 a3)] rfl km ?_; (with_reducible refine (xor_window.calls (Go.bits .xor .u64 a1 a3) a2 a4 _ ?ap fb.out).mono ?_); (case ap => exact A39.below HT.out (kl HB) (Nat.le_refl _)); rintro e w' ⟨rfl, ⟨nd, rfl⟩⟩; refine ⟨_, rfl, ?_⟩))
 (try simp only [Act.put, List.setIfInBounds_toArray, List.set_cons_zero, List.set_cons_succ])
 go_cut [46] (fun fc wc => ∃ (kq : Nat) (aJ : Bool), fc = .bool aJ ∧ A0b (A13.j0 kq (Go.bits .xor .u64 a1 a3) a2 a4 aJ a1 a0_1 au = some (r1, r2, r3, r4, r5)) ∧ A0b (kq ≤ k) ∧ A0b (wc.heap[aq]? = some (.cells #[.int .u64 a1, .int .i64 a0_1, .int .i64 au] 30 (0, 0))) ∧ A0b (wc.heap[av]? = some (.cells #[(.slice none 0 0), .int .i64 0] 161 (0, 0))) ∧ A0b (wc.heap[ao]? = some (.cells #[.int .u64 0, .int .i64 0, .int .i64 0] 30 (0, 0))) ∧ A0b (Below w.heap.size w wc))
 case first =>
  have H := bx.out; clear bx
  by_cases b4 : au > 0
  ·rw [kIp b4] at H; have aN : decide (0 < au) = true := kTt b4; clear b4
   (first | rw [aN] | (simp only [A2i, A2u]; rw [aN]) | skip)
   by_cases b5 : a2 ≥ a0_1
   ·rw [kIp b5] at H; have bC : decide (a0_1 ≤ a2) = true := kTt b5; clear b5; have H' := ak H; clear H; have ea := ae.out; have eb := af.out; have ec := ag.out; have ed := ah.out; obtain ⟨cp, cq, cr⟩ := kc3 aa; obtain ⟨cs, ct, cu⟩ := kf3 aa
    go_wp2
    go_meet
    case rel => exact ⟨_, (decide ((wrap64 (a2 + a4)) ≤ (wrap64 (a0_1 + au)))), kE, H', kO, ⟨(kb aa)⟩, ⟨(kb ac)⟩, ⟨(kb ad)⟩, ⟨(kl HB)⟩⟩
   rw [kIn b5] at H; have bC : decide (a0_1 ≤ a2) = false := kFf b5; clear b5; have H' := ak H; clear H; have ee := ae.out; have ef := af.out; have eg := ag.out; have eh := ah.out; obtain ⟨cv, cw, cx⟩ := kc3 aa; obtain ⟨cy, cz, cA⟩ := kf3 aa
   go_wp2
   go_meet
   case rel => exact ⟨_, (false), kE, H', kO, ⟨(kb aa)⟩, ⟨(kb ac)⟩, ⟨(kb ad)⟩, ⟨(kl HB)⟩⟩
  rw [kIn b4] at H; have aN : decide (0 < au) = false := kFf b4; clear b4
  (first | rw [aN] | (simp only [A2i, A2u]; rw [aN]) | skip)
  have H' := ak H; clear H; have ei := ae.out; have ej := af.out; have ek := ag.out; have el := ah.out; obtain ⟨cB, cC, cD⟩ := kc3 aa; obtain ⟨cF, cG, cH⟩ := kf3 aa
  go_wp2
  go_meet
  case rel => exact ⟨_, (false), kE, H', kO, ⟨(kb aa)⟩, ⟨(kb ac)⟩, ⟨(kb ad)⟩, ⟨(kl HB)⟩⟩
 case rest =>
  clear bx; obtain ⟨kq, aJ, rfl, HA, fd, aa, ac, ad, HB⟩ := hcut
  cases kq with
  | zero => exact absurd HA.out (by simp [A13.j0])
  | succ aX =>
   have H := HA.out; clear HA; simp only [A13.j0] at H
   by_cases cI : aJ = true
   ·subst cI
    rw [if_pos rfl] at H; replace H := bkH H; obtain ⟨⟨aO, aY⟩, d9, H⟩ := H; (try dsimp only at H); obtain ⟨aZ, aP⟩ := kX (wrap64 ((wrap64 (64 - a0_1)) - au))
    (first | rw [aP] at H | simp only [aP] at H)
    (try rw [aP] at d9); have dA : (IntKind.i64.wrap ((wrap64 (64 - a0_1)) - au)) = aZ := (A2i _).trans aP
    by_cases bD : 0 ≤ (aZ)
    ·rw [kIp bD] at H; have em := kEt bD; have eo := kTt bD; clear bD; obtain ⟨bj, a8⟩ := kX (shr .u64 (Go.bits .xor .u64 a1 a3) (aZ))
     (first | rw [a8] at H | simp only [a8] at H)
     (try rw [a8] at d9); have dB : ((Go.bits .xor .u64 a1 a3) / 2 ^ min (aZ).toNat 64) = bj := a8; have dC : (aZ) ≤ 64 → ((Go.bits .xor .u64 a1 a3) / 2 ^ (aZ).toNat) = bj := shr_small a8; replace H := bkH H; obtain ⟨⟨bz, b0⟩, fe, H⟩ := H; (try dsimp only at H); simp only [Option.some.injEq, Prod.mk.injEq] at H; obtain ⟨rfl, rfl, rfl, rfl, rfl⟩ := H
     try go_wp2_with (first | ((with_reducible refine A0l (f := 111) rfl ?_); refine A1d (some 48) rfl rfl Tryd.func111 (by kernel_rfl) rfl #[.agg #[.slice none 0 0, .int .i64 0], .int .u64 2, .int .i64 2] rfl km ?_; (refine (A1j.calls aX _ _ ([] : List Int) 0 2 2 aO aY _ ?ap ?aw d9.out).mono ?_); (case ap => exact Kd.C_nil _ _); (case aw => exact Nat.le_refl _); rintro e f6 ⟨ff, rfl, ho0, hb⟩; refine ⟨_, rfl, ?_⟩; have ax := ak (Kd.A2l ho0 (A0t (kl HB))); replace aa := kB aa hb; replace ac := kB ac hb; replace ad := kB ad hb; replace HB := kH HB hb) | ((with_reducible refine A0s (N := 9) rfl ?_); refine bxe 9 #[.slice none 0 0, .int .i64 0] 161 (h := ?_); intro aA hg fg hbox hb; replace ax := ak (Kd.A1x (kr ax) hb); have az := ak (hbox); have ep := kG hg HB; have bE := kG hg HB; replace HB := kH HB hb; obtain ⟨ba, bb⟩ := kN hg aa; replace aa := kB aa hb; obtain ⟨aB, aC⟩ := kN hg ac; replace ac := kB ac hb; obtain ⟨aD, aE⟩ := kN hg ad; replace ad := kB ad hb; clear hb hbox hg; obtain ⟨bh, bi, dD⟩ := Kd.A11 ax.out; subst dD; have et := bb.out; have eu := ba.out; have ev := aC.out; have ew := aB.out; have ex := aE.out; have ey := aD.out; obtain ⟨cJ, cK⟩ := kc2 az; obtain ⟨cL, cM⟩ := kf2 az))
     generalize hw_ : ((fg.setCell ⟨aA, 0, none⟩ (.slice bh aO.length bi)).setCell ⟨aA, 1, none⟩ (.int .i64 aY)) = dF; have bo : A0b (Kd.R (Kd.int .u8) 5 dF w.heap.size (fun _ => True) (.slice bh aO.length bi) aO) := ⟨by rw [← hw_]; (with_reducible repeat (first | apply Kd.R_alloc | apply Kd.A00 | apply Kd.A02)); exact Kd.A1e (Kd.A03 (p := ⟨aA, 1, none⟩) (Kd.A03 (p := ⟨aA, 0, none⟩) (Kd.A2a ax.out az.out (by decide)) (fun _ hk => hk.2) (.slice bh aO.length bi)) (fun _ hk => hk.2) (.int .i64 aY)) (fun _ hk => trivial)⟩; have bp := mv hw_ (kb aa); have bq := mv hw_ (kb ac); have br := mv hw_ (kb ad); have bF := mv hw_ (kb az); have bG : A0b (Below w.heap.size w dF) := ⟨by rw [← hw_]; repeat (first | (with_reducible first | exact HB.out | apply A2k | apply A2e | apply A04 | refine A1y ?_ aU.out | refine A1y ?_ aV.out | refine A1y ?_ aW.out | refine A1y ?_ bE.out) | exact HB.out)⟩; clear hw_; have ax := bo; have aa := bp; have ac := bq; have ad := br; have az := bF; have HB := bG; clear bo bp bq br bF bG; replace ax := ak (Kd.A02 ax.out); replace aa := ak (A0v aa.out); replace ac := ak (A0v ac.out); replace ad := ak (A0v ad.out); replace az := ak (A0v az.out); replace HB := ak (A04 HB.out)
     refine A28 (n := 15) (S := fun w' => w'.cell? ⟨aA, 0, none⟩ = some (.slice bh aO.length bi) ∧ w'.cell? ⟨aA, 1, none⟩ = some (.int .i64 aY) ∧ w'.cell? ⟨aq, 0, none⟩ = some (.int .u64 a1) ∧ w'.cell? ⟨aq, 1, none⟩ = some (.int .i64 a0_1) ∧ w'.cell? ⟨aq, 2, none⟩ = some (.int .i64 au)) (ds := []) (bl 15 0) (by kernel_rfl) rfl rfl kz (fun hHeld => ?_); refine A2j A13.tab8 A13.bits8 (fun HT_ HW_ => ?_)
     generalize dF.drew = f7 at ax aa ac ad az HB hHeld ⊢; refine pv 1 50 ?_; refine pv 2 51 ?_; refine pv 5 54 ?_; refine pv 9 58 ?_; refine ta 0 (some 49) (bl 15 551) (h := ?_); refine ta 3 (some 52) (bl 15 559) (h := ?_); refine pv 4 53 ?_; refine ta 6 (some 55) (bl 15 639) (h := ?_); refine pv 7 56 ?_; refine pv 8 57 ?_; refine ta 10 (some 59) (bl 15 2047) (h := ?_); refine ta 12 (some 61) (bl 15 6143) (h := ?_); refine one_ (i := 11) (N := some 60) (bl 15 8191) rfl rfl (A2s HT_.out (by kernel_rfl)) (by decide) (fun K hK => ?_); refine goes_ Tryd.func111 (by kernel_rfl) rfl #[.agg #[.slice bh aO.length bi, .int .i64 aY], .int .u64 bj, .int .i64 au] (by rfl) rfl rfl (by (try simp only [List.map_toArray, List.map_cons, List.map_nil]); first | done | (simp only [a8]; rfl) | rfl | (simp only [List.length_drop, List.length_take]; rfl)) ?_
     with_reducible refine (A1j.calls aX _ _ aO aY bj au bz b0 _ ?ap ?aw fe.out).mono ?_
     (case ap => exact kC (Kd.A0y ax.out).2.2)
     (case aw => exact (Kd.A0y ax.out).2.1)
     rintro e f8 ⟨fh, rfl, ho0, hb⟩; refine ⟨_, rfl, ?_⟩; have bt := ak (Kd.A2l (Kd.A3j ho0 (Kd.R_lt (kr ax))) (A0t (kl HB))); replace ax := ak (Kd.A2v (kr ax) (Kd.A3h ho0) hb); replace aa := kB aa hb; replace ac := kB ac hb; replace ad := kB ad hb; replace az := kB az hb; replace HB := kH HB hb; obtain ⟨bH, bI, bJ⟩ := Kd.A11 bt.out
     (first | subst bJ | (injection bJ with f1_ f2_ f3_; have f4_ := f1_.symm; have f5_ := f3_.symm; clear f1_ f2_ f3_; subst f4_; subst f5_))
     refine hK.out _ _ kz (fun hHeld => ?_); clear hK K; refine nm (some 60) (h := ?_)
     refine one_ (i := 13) (N := none) (bl 15 16383) rfl rfl (A2s HT_.out (by kernel_rfl)) (by decide) (fun K hK => ?_); have fi := (kc2 ac).1; have ez := A0d ac.out 0; have cN := ae.out; have cO := am.out; have cP := aC.out; have cQ := af.out; have cR := al.out; have cS := aB.out; have fj := (kc2 ac).2; have e0 := A0d ac.out 1; refine skip_ (w1 := ?_) (by rfl) rfl ?_ ?_
     rotate_left
     ·go_simp
      rfl
     refine hK.out _ _ (ks hHeld) (fun hHeld => ?_); clear hK K; refine one_ (i := 14) (N := none) (bl 15 32767) rfl rfl (A2s HT_.out (by kernel_rfl)) (by decide) (fun K hK => ?_); have fk := (kc3 ad).1; have e4 := A0d ad.out 0; have cT := ag.out; have cU := al.out; have cV := aE.out; have cW := ah.out; have cX := am.out; have cY := aD.out; have fl := (kc3 ad).2.1; have e5 := A0d ad.out 1; have fm := (kc3 ad).2.2; have e6 := A0d ad.out 2; refine skip_ (w1 := ?_) (by rfl) rfl ?_ ?_
     rotate_left
     ·go_simp
      rfl
     refine hK.out _ _ (ks hHeld) (fun hHeld => ?_); clear hK K; refine A3u (A22 HT_.out (by kernel_rfl)) ?_
     try go_wp2
     refine bodyPost_ret (results_cc rfl _ _ av ao 161 30 #[.slice bH bz.length bI, .int .i64 b0] #[.int .u64 a1, .int .i64 a0_1, .int .i64 au] (0, 0) (0, 0) _ _ rfl (kb ac) Tryd.underlying161 rfl (by kernel_rfl) rfl (kb ad) Tryd.underlying30 rfl (by kernel_rfl)) rfl ?_
     exact ⟨_, by first | rfl | (simp [A0i, A0j] <;> rfl) | (simp only [← aP, ← a8]; first | rfl | (simp [A0i, A0j] <;> rfl)) | (simp [*, A0i, A0j] <;> rfl), by (with_reducible repeat (first | apply Kd.R_alloc | apply Kd.A00 | apply Kd.A02)); exact Kd.A1e (Kd.A03 (p := ⟨ao, 2, none⟩) (Kd.A03 (p := ⟨ao, 1, none⟩) (Kd.A03 (p := ⟨ao, 0, none⟩) (Kd.A03 (p := ⟨av, 1, none⟩) (Kd.A03 (p := ⟨av, 0, none⟩) (Kd.A2a (Kd.A2a bt.out ac.out (by decide)) ad.out (by decide)) (fun _ hk => hk.1.2) (.slice bH bz.length bI)) (fun _ hk => hk.1.2) (.int .i64 b0)) (fun _ hk => hk.2) (.int .u64 a1)) (fun _ hk => hk.2) (.int .i64 a0_1)) (fun _ hk => hk.2) (.int .i64 au)) (fun _ hk => trivial), (kl HB)⟩
    exact (kA bD H).elim
   replace cI := Bool.eq_false_iff.mpr cI; subst cI
   rw [if_neg (show ¬ (false = true) by decide)] at H; replace H := bkH H; obtain ⟨⟨a6, aS⟩, dG, H⟩ := H; (try dsimp only at H); replace H := bkH H; obtain ⟨⟨aT, b1⟩, dH, H⟩ := H; (try dsimp only at H); replace H := bkH H; obtain ⟨⟨a7, aQ⟩, dI, H⟩ := H; (try dsimp only at H); obtain ⟨bc, a9⟩ := kX (wrap64 ((wrap64 (64 - a2)) - a4))
   (first | rw [a9] at H | simp only [a9] at H)
   (try rw [a9] at dG); (try rw [a9] at dH); (try rw [a9] at dI); have dJ : (IntKind.i64.wrap ((wrap64 (64 - a2)) - a4)) = bc := (A2i _).trans a9
   by_cases bK : 0 ≤ (bc)
   ·rw [kIp bK] at H; have e7 := kEt bK; have e8 := kTt bK; clear bK; obtain ⟨bk, a5⟩ := kX (shr .u64 (Go.bits .xor .u64 a1 a3) (bc))
    (first | rw [a5] at H | simp only [a5] at H)
    (try rw [a5] at dG); (try rw [a5] at dH); (try rw [a5] at dI); have dK : ((Go.bits .xor .u64 a1 a3) / 2 ^ min (bc).toNat 64) = bk := a5; have dL : (bc) ≤ 64 → ((Go.bits .xor .u64 a1 a3) / 2 ^ (bc).toNat) = bk := shr_small a5; replace H := bkH H; obtain ⟨⟨b2, b3⟩, fo, H⟩ := H; (try dsimp only at H); simp only [Option.some.injEq, Prod.mk.injEq] at H; obtain ⟨rfl, rfl, rfl, rfl, rfl⟩ := H; have e9 := ae.out; have eA := af.out; have eB := ag.out; have eC := ah.out; obtain ⟨cZ, da, db⟩ := kc3 aa; obtain ⟨dc, dd, de⟩ := kf3 aa
    try go_wp2_with (first | ((with_reducible refine A0l (f := 111) rfl ?_); refine A1d (some 67) rfl rfl Tryd.func111 (by kernel_rfl) rfl #[.agg #[.slice none 0 0, .int .i64 0], .int .u64 3, .int .i64 2] rfl km ?_; (refine (A1j.calls aX _ _ ([] : List Int) 0 3 2 a6 aS _ ?ap ?aw dG.out).mono ?_); (case ap => exact Kd.C_nil _ _); (case aw => exact Nat.le_refl _); rintro e f9 ⟨fp, rfl, ho0, hb⟩; refine ⟨_, rfl, ?_⟩; have aj := ak (Kd.A2l ho0 (A0t (kl HB))); replace aa := ak (A2m (g := aq) (o := .cells #[.int .u64 a1, .int .i64 a2, .int .i64 a4] 30 (0, 0)) (kb aa) hb); replace ac := ak (A2m (g := av) (o := .cells #[.slice none 0 0, .int .i64 0] 161 (0, 0)) (kb ac) hb); replace ad := ak (A2m (g := ao) (o := .cells #[.int .u64 0, .int .i64 0, .int .i64 0] 30 (0, 0)) (kb ad) hb); replace HB := kH HB hb) | ((with_reducible refine A0s (N := 10) rfl ?_); refine bxe 10 #[.slice none 0 0, .int .i64 0] 161 (h := ?_); intro an hg fA hbox hb; replace aj := ak (Kd.A1x (kr aj) hb); have ai := ak (hbox); have eD := kG hg HB; have bL := kG hg HB; replace HB := kH HB hb; obtain ⟨be, bf⟩ := kN hg aa; replace aa := kB aa hb; obtain ⟨aF, aG⟩ := kN hg ac; replace ac := kB ac hb; obtain ⟨aH, aI⟩ := kN hg ad; replace ad := kB ad hb; clear hb hbox hg; obtain ⟨aR, aK, dM⟩ := Kd.A11 aj.out; subst dM; have eE := bf.out; have eF := be.out; have eG := aG.out; have eH := aF.out; have eI := aI.out; have eJ := aH.out; obtain ⟨df, dg⟩ := kc2 ai; obtain ⟨dh, di⟩ := kf2 ai) | ((with_reducible refine A0l (f := 111) rfl ?_); refine A1d (some 71) rfl rfl Tryd.func111 (by kernel_rfl) rfl #[.agg #[.slice aR a6.length aK, .int .i64 aS], .int .u64 (IntKind.u64.wrap (a2)), .int .i64 6] rfl km ?_; (with_reducible refine (A1j.calls aX _ _ a6 aS (IntKind.u64.wrap (a2)) 6 aT b1 _ ?ap ?aw dH.out).mono ?_); (case ap => refine (Kd.A0y (e := 5) (base := w.heap.size) (ok := fun k_ => True) (n := a6.length) (c := aK) ?_).2.2; exact (by (with_reducible repeat (first | apply Kd.R_alloc | apply Kd.A00 | apply Kd.A02)); exact (Kd.A1e (Kd.A03 (p := ⟨an, 1, none⟩) (Kd.A03 (p := ⟨an, 0, none⟩) (Kd.A2a aj.out ai.out (by decide)) (fun _ hk => hk.2) (.slice aR a6.length aK)) (fun _ hk => hk.2) (.int .i64 aS)) (fun _ h_ => h_.1)))); (case aw => exact (Kd.A0y aj.out).2.1); rintro e fB ⟨fq, rfl, ho0, hb⟩; refine ⟨_, rfl, ?_⟩; have ar := ak (Kd.A2l (Kd.A3j ho0 (Kd.R_lt (by (with_reducible repeat (first | apply Kd.R_alloc | apply Kd.A00 | apply Kd.A02)); exact (Kd.A1e (Kd.A03 (p := ⟨an, 1, none⟩) (Kd.A03 (p := ⟨an, 0, none⟩) (Kd.A2a aj.out ai.out (by decide)) (fun _ hk => hk.2) (.slice aR a6.length aK)) (fun _ hk => hk.2) (.int .i64 aS)) (fun _ h_ => h_.1))))) (A0t (kl HB))); replace aj := ak (Kd.A2v (by (with_reducible repeat (first | apply Kd.R_alloc | apply Kd.A00 | apply Kd.A02)); exact (Kd.A1e (Kd.A03 (p := ⟨an, 1, none⟩) (Kd.A03 (p := ⟨an, 0, none⟩) (Kd.A2a aj.out ai.out (by decide)) (fun _ hk => hk.2) (.slice aR a6.length aK)) (fun _ hk => hk.2) (.int .i64 aS)) (fun _ h_ => h_.1))) (Kd.A3h ho0) hb); replace aa := ak (A2m (g := aq) (o := .cells #[.int .u64 a1, .int .i64 a2, .int .i64 a4] 30 (0, 0)) (kb aa) hb); replace ac := ak (A2m (g := av) (o := .cells #[.slice none 0 0, .int .i64 0] 161 (0, 0)) (kb ac) hb); replace ad := ak (A2m (g := ao) (o := .cells #[.int .u64 0, .int .i64 0, .int .i64 0] 30 (0, 0)) (kb ad) hb); replace ai := ak (A2m (g := an) (o := .cells #[.slice aR a6.length aK, .int .i64 aS] 161 (0, 0)) (kb ai) hb); replace HB := kH HB hb; obtain ⟨bm, bn, dN⟩ := Kd.A11 ar.out; subst dN) | ((with_reducible refine A0l (f := 111) rfl ?_); refine A1d (some 75) rfl rfl Tryd.func111 (by kernel_rfl) rfl #[.agg #[.slice bm aT.length bn, .int .i64 b1], .int .u64 (IntKind.u64.wrap (wrap64 (a4 - 1))), .int .i64 6] rfl km ?_; (with_reducible refine (A1j.calls aX _ _ aT b1 (IntKind.u64.wrap (wrap64 (a4 - 1))) 6 a7 aQ _ ?ap ?aw dI.out).mono ?_); (case ap => exact kC (Kd.A0y ar.out).2.2); (case aw => exact (Kd.A0y ar.out).2.1); rintro e fs ⟨ft, rfl, ho0, hb⟩; refine ⟨_, rfl, ?_⟩; have ay := ak (Kd.A2l (Kd.A3j (Kd.A3j ho0 (Kd.R_lt (kr aj))) (Kd.R_lt (kr ar))) (A0t (kl HB))); replace aj := ak (Kd.A2v (kr aj) (Kd.A3h ho0) hb); replace ar := ak (Kd.A2v (kr ar) (Kd.A3h ho0) hb); replace aa := kB aa hb; replace ac := kB ac hb; replace ad := kB ad hb; replace ai := kB ai hb; replace HB := kH HB hb; obtain ⟨aL, aM, dO⟩ := Kd.A11 ay.out; subst dO; obtain ⟨dj, dk⟩ := kc2 ai; obtain ⟨dl, dm⟩ := kf2 ai))
    generalize hw_ : ((fs.setCell ⟨an, 0, none⟩ (.slice aL a7.length aM)).setCell ⟨an, 1, none⟩ (.int .i64 aQ)) = bM; have bo : A0b (Kd.R (Kd.int .u8) 5 bM w.heap.size (fun k_ => some k_ ≠ (.slice bm aT.length bn : Value).ownBlock ∧ some k_ ≠ (.slice aL a7.length aM : Value).ownBlock) (.slice aR a6.length aK) a6) := ⟨by rw [← hw_]; (with_reducible repeat (first | apply Kd.R_alloc | apply Kd.A00 | apply Kd.A02)); exact Kd.A1e (Kd.A03 (p := ⟨an, 1, none⟩) (Kd.A03 (p := ⟨an, 0, none⟩) (Kd.A2a aj.out ai.out (by decide)) (fun _ hk => hk.2) (.slice aL a7.length aM)) (fun _ hk => hk.2) (.int .i64 aQ)) (fun _ hk => ⟨hk.1.1.2, hk.1.2⟩)⟩; have bp : A0b (Kd.R (Kd.int .u8) 5 bM w.heap.size (fun k_ => some k_ ≠ (.slice aR a6.length aK : Value).ownBlock ∧ some k_ ≠ (.slice aL a7.length aM : Value).ownBlock) (.slice bm aT.length bn) aT) := ⟨by rw [← hw_]; (with_reducible repeat (first | apply Kd.R_alloc | apply Kd.A00 | apply Kd.A02)); exact Kd.A1e (Kd.A03 (p := ⟨an, 1, none⟩) (Kd.A03 (p := ⟨an, 0, none⟩) (Kd.A2a ar.out ai.out (by decide)) (fun _ hk => hk.2) (.slice aL a7.length aM)) (fun _ hk => hk.2) (.int .i64 aQ)) (fun _ hk => ⟨hk.1.1.2, hk.1.2⟩)⟩; have bq : A0b (Kd.R (Kd.int .u8) 5 bM w.heap.size (fun k_ => some k_ ≠ (.slice aR a6.length aK : Value).ownBlock ∧ some k_ ≠ (.slice bm aT.length bn : Value).ownBlock) (.slice aL a7.length aM) a7) := ⟨by rw [← hw_]; (with_reducible repeat (first | apply Kd.R_alloc | apply Kd.A00 | apply Kd.A02)); exact Kd.A1e (Kd.A03 (p := ⟨an, 1, none⟩) (Kd.A03 (p := ⟨an, 0, none⟩) (Kd.A2a ay.out ai.out (by decide)) (fun _ hk => hk.2) (.slice aL a7.length aM)) (fun _ hk => hk.2) (.int .i64 aQ)) (fun _ hk => ⟨hk.1.1.2, hk.1.2⟩)⟩; have br := mv hw_ (kb aa); have bF := mv hw_ (kb ac); have bG := mv hw_ (kb ad); have eK := mv hw_ (kb ai); have eL : A0b (Below w.heap.size w bM) := ⟨by rw [← hw_]; repeat (first | (with_reducible first | exact HB.out | apply A2k | apply A2e | apply A04 | refine A1y ?_ aU.out | refine A1y ?_ aV.out | refine A1y ?_ aW.out | refine A1y ?_ bL.out) | exact HB.out)⟩; clear hw_; have aj := bo; have ar := bp; have ay := bq; have aa := br; have ac := bF; have ad := bG; have ai := eK; have HB := eL; clear bo bp bq br bF bG eK eL; replace aj := ak (Kd.A02 aj.out); replace ar := ak (Kd.A02 ar.out); replace ay := ak (Kd.A02 ay.out); replace aa := ak (A0v aa.out); replace ac := ak (A0v ac.out); replace ad := ak (A0v ad.out); replace ai := ak (A0v ai.out); replace HB := ak (A04 HB.out)
    refine A28 (n := 12) (S := fun w' => w'.cell? ⟨an, 0, none⟩ = some (.slice aL a7.length aM) ∧ w'.cell? ⟨an, 1, none⟩ = some (.int .i64 aQ) ∧ w'.cell? ⟨aq, 0, none⟩ = some (.int .u64 a1) ∧ w'.cell? ⟨aq, 1, none⟩ = some (.int .i64 a2) ∧ w'.cell? ⟨aq, 2, none⟩ = some (.int .i64 a4)) (ds := []) (bl 12 0) (by kernel_rfl) rfl rfl kz (fun hHeld => ?_); refine A2j A13.tab12 A13.bits12 (fun HT_ HW_ => ?_)
    generalize bM.drew = fC at aj ar ay aa ac ad ai HB hHeld ⊢; refine pv 1 77 ?_; refine pv 2 78 ?_; refine pv 3 79 ?_; refine pv 4 80 ?_; refine pv 5 81 ?_; refine pv 6 82 ?_; refine pv 7 83 ?_; refine ta 0 (some 76) (bl 12 255) (h := ?_); refine ta 9 (some 85) (bl 12 767) (h := ?_); refine one_ (i := 8) (N := some 84) (bl 12 1023) rfl rfl (A2s HT_.out (by kernel_rfl)) (by decide) (fun K hK => ?_); refine goes_ Tryd.func111 (by kernel_rfl) rfl #[.agg #[.slice aL a7.length aM, .int .i64 aQ], .int .u64 bk, .int .i64 a4] (by rfl) rfl rfl (by (try simp only [List.map_toArray, List.map_cons, List.map_nil]); first | done | (simp only [a5]; rfl) | rfl | (simp only [List.length_drop, List.length_take]; rfl)) ?_
    with_reducible refine (A1j.calls aX _ _ a7 aQ bk a4 b2 b3 _ ?ap ?aw fo.out).mono ?_
    (case ap => exact kC (Kd.A0y ay.out).2.2)
    (case aw => exact (Kd.A0y ay.out).2.1)
    rintro e fD ⟨fu, rfl, ho0, hb⟩; refine ⟨_, rfl, ?_⟩; have bu := ak (Kd.A2l (Kd.A3j (Kd.A3j (Kd.A3j ho0 (Kd.R_lt (kr aj))) (Kd.R_lt (kr ar))) (Kd.R_lt (kr ay))) (A0t (kl HB))); replace aj := ak (Kd.A2v (kr aj) (Kd.A3h ho0) hb); replace ar := ak (Kd.A2v (kr ar) (Kd.A3h ho0) hb); replace ay := ak (Kd.A2v (kr ay) (Kd.A3h ho0) hb); replace aa := kB aa hb; replace ac := kB ac hb; replace ad := kB ad hb; replace ai := kB ai hb; replace HB := kH HB hb; obtain ⟨bN, bO, bP⟩ := Kd.A11 bu.out
    (first | subst bP | (injection bP with f1_ f2_ f3_; have f4_ := f1_.symm; have f5_ := f3_.symm; clear f1_ f2_ f3_; subst f4_; subst f5_))
    refine hK.out _ _ kz (fun hHeld => ?_); clear hK K; refine nm (some 84) (h := ?_)
    refine one_ (i := 10) (N := none) (bl 12 2047) rfl rfl (A2s HT_.out (by kernel_rfl)) (by decide) (fun K hK => ?_); have fv := (kc2 ac).1; have eM := A0d ac.out 0; have dn := ae.out; have dp := am.out; have dq := aG.out; have dr := af.out; have dt := al.out; have du := aF.out; have fw := (kc2 ac).2; have eN := A0d ac.out 1; refine skip_ (w1 := ?_) (by rfl) rfl ?_ ?_
    rotate_left
    ·go_simp
     rfl
    refine hK.out _ _ (ks hHeld) (fun hHeld => ?_); clear hK K; refine one_ (i := 11) (N := none) (bl 12 4095) rfl rfl (A2s HT_.out (by kernel_rfl)) (by decide) (fun K hK => ?_); have fx := (kc3 ad).1; have eO := A0d ad.out 0; have dv := ag.out; have dw := al.out; have dz := aI.out; have d0 := ah.out; have d5 := am.out; have d6 := aH.out; have fy := (kc3 ad).2.1; have eP := A0d ad.out 1; have fz := (kc3 ad).2.2; have eQ := A0d ad.out 2; refine skip_ (w1 := ?_) (by rfl) rfl ?_ ?_
    rotate_left
    ·go_simp
     rfl
    refine hK.out _ _ (ks hHeld) (fun hHeld => ?_); clear hK K; refine A3u (A22 HT_.out (by kernel_rfl)) ?_
    try go_wp2
    refine bodyPost_ret (results_cc rfl _ _ av ao 161 30 #[.slice bN b2.length bO, .int .i64 b3] #[.int .u64 a1, .int .i64 a2, .int .i64 a4] (0, 0) (0, 0) _ _ rfl (kb ac) Tryd.underlying161 rfl (by kernel_rfl) rfl (kb ad) Tryd.underlying30 rfl (by kernel_rfl)) rfl ?_
    exact ⟨_, by first | rfl | (simp [A0i, A0j] <;> rfl) | (simp only [← a9, ← a5]; first | rfl | (simp [A0i, A0j] <;> rfl)) | (simp [*, A0i, A0j] <;> rfl), by (with_reducible repeat (first | apply Kd.R_alloc | apply Kd.A00 | apply Kd.A02)); exact Kd.A1e (Kd.A03 (p := ⟨ao, 2, none⟩) (Kd.A03 (p := ⟨ao, 1, none⟩) (Kd.A03 (p := ⟨ao, 0, none⟩) (Kd.A03 (p := ⟨av, 1, none⟩) (Kd.A03 (p := ⟨av, 0, none⟩) (Kd.A2a (Kd.A2a bu.out ac.out (by decide)) ad.out (by decide)) (fun _ hk => hk.1.2) (.slice bN b2.length bO)) (fun _ hk => hk.1.2) (.int .i64 b3)) (fun _ hk => hk.2) (.int .u64 a1)) (fun _ hk => hk.2) (.int .i64 a2)) (fun _ hk => hk.2) (.int .i64 a4)) (fun _ hk => trivial), (kl HB)⟩
   exact (kA bK H).elim
def A3a.f (a0 : Int) : Option (Int × Int × Int × Int × Int × Option Int) := some (0, 0, 0, 0, 0, some a0)
theorem A3a.calls (a0 : Int) (r1 : Int) (r2 : Int) (r3 : Int) (r4 : Int) (r5 : Int) (r6 : Option Int) (w : World) (h : A3a.f a0 = some (r1, r2, r3, r4, r5, r6)) :
  Calls Tryd.prog 109 #[.int .i64 a0] w fun e w' => e = .returned (.tuple #[.int .u64 r1, .agg #[.int .u64 r2, .int .i64 r3, .int .i64 r4], .int .i64 r5, errW r6]) ∧ Below w.heap.size w w' := by
 have hu30 := Tryd.underlying30; have hu38 := Tryd.underlying38; have hu94 := Tryd.underlying94; have HB := ak (Below.refl w.heap.size w); have H := h; clear h; unfold A3a.f at H; simp only [Option.some.injEq, Prod.mk.injEq] at H; obtain ⟨rfl, rfl, rfl, rfl, rfl, rfl⟩ := H
 go_enter Tryd.func109, Tryd.ntmps109
 go_wp2_with (first | ((with_reducible refine A0s (N := 3) rfl ?_); refine bxe 3 #[.int .u64 0, .int .i64 0, .int .i64 0] 30 (h := ?_); intro ac hg w2 hbox hb; have aa := ak (hbox); have aj := kG hg HB; have al := kG hg HB; replace HB := kH HB hb; clear hb hbox hg; obtain ⟨ad, ae, af⟩ := kc3 aa; obtain ⟨ag, ah, ai⟩ := kf3 aa))
 refine bodyPost_ret (A1c (rs := [.tmp 2, .cell 3 30, .tmp 4, .tmp 5]) rfl (by simp) (.tmp (.cell ac 30 #[.int .u64 0, .int .i64 0, .int .i64 0] (0, 0) _ rfl (kb aa) Tryd.underlying30 rfl (by kernel_rfl) (.tmp (.tmp .nil))))) rfl ?_
 exact ⟨kF, (kl HB)⟩
def A1g (w0 W : World) (g : Nat) (f0 : List Int) (f1 : Int) (f2 : Bool) : Prop := ∃ A0 c0, W.heap[g]? = some (.cells #[.slice A0 f0.length c0, .int .i64 f1, .bool f2] 194 (0, 0)) ∧ w0.heap.size ≤ g ∧ Kd.C (Kd.int .u8) w0 A0 f0.length f0 ∧ f0.length ≤ c0
theorem A1g.grown {w0 W : World} {g : Nat} {f0 : List Int} {f1 : Int} {f2 : Bool} {W1 : World} {row : Option Nat} (h : A1g w0 W g f0 f1 f2) (hw : W.grownBy W1 row) (hne : some g ≠ row) : A1g w0 W1 g f0 f1 f2 := by
 obtain ⟨A0, c0, hb, hg, hr0, hl0⟩ := h
 exact ⟨A0, c0, A15 hb hw hne, hg, hr0, hl0⟩
theorem A1g.below {w0 W : World} {g : Nat} {f0 : List Int} {f1 : Int} {f2 : Bool} {W1 : World} (h : A1g w0 W g f0 f1 f2) (hw : Below W.heap.size W W1) : A1g w0 W1 g f0 f1 f2 := h.grown (grown_of_below hw none) (by simp)
theorem A1g.drewN {w0 W : World} {g : Nat} {f0 : List Int} {f1 : Int} {f2 : Bool} (h : A1g w0 W g f0 f1 f2) (m : Nat) : A1g w0 (W.drewN m) g f0 f1 f2 := h
theorem A1g.drew {w0 W : World} {g : Nat} {f0 : List Int} {f1 : Int} {f2 : Bool} (h : A1g w0 W g f0 f1 f2) : A1g w0 W.drew g f0 f1 f2 := h
theorem A1g.lt {w0 W : World} {g : Nat} {f0 : List Int} {f1 : Int} {f2 : Bool} (h : A1g w0 W g f0 f1 f2) : g < W.heap.size := by
 obtain ⟨A0, c0, hb, hg, hr0, hl0⟩ := h
 exact blk_lt hb
theorem A1g.ge {w0 W : World} {g : Nat} {f0 : List Int} {f1 : Int} {f2 : Bool} (h : A1g w0 W g f0 f1 f2) : w0.heap.size ≤ g := by
 obtain ⟨A0, c0, hb, hg, hr0, hl0⟩ := h
 exact hg
theorem A1g.far {w0 W : World} {g : Nat} {f0 : List Int} {f1 : Int} {f2 : Bool} {p : Addr} (h : A1g w0 W g f0 f1 f2) (hne : g ≠ p.block) (u : Value) : A1g w0 (W.setCell p u) g f0 f1 f2 := by
 obtain ⟨A0, c0, hb, hg, hr0, hl0⟩ := h
 exact ⟨A0, c0, blk_far hb hne u, hg, hr0, hl0⟩
theorem A3v {W : World} {g : Nat} {A0 : Option Addr} {c0 : Nat} {f0 : List Int} {f1 : Int} {f2 : Bool} (h : W.heap[g]? = some (.cells #[.slice A0 f0.length c0, .int .i64 f1, .bool f2] 194 (0, 0))) : W.cell? ⟨g, 0, none⟩ = some (.slice A0 f0.length c0) := (A16 h 0).trans rfl
theorem A3w {W : World} {g : Nat} {A0 : Option Addr} {c0 : Nat} {f0 : List Int} {f1 : Int} {f2 : Bool} (h : W.heap[g]? = some (.cells #[.slice A0 f0.length c0, .int .i64 f1, .bool f2] 194 (0, 0))) : W.cell? ⟨g, 1, none⟩ = some (.int .i64 f1) := (A16 h 1).trans rfl
theorem A1g.A3y {w0 W : World} {g : Nat} {f0 : List Int} {f1 : Int} {f2 : Bool} (h : A1g w0 W g f0 f1 f2) (x : Int) : A1g w0 (W.setCell ⟨g, 1, none⟩ (.int .i64 x)) g f0 x f2 := by
 obtain ⟨A0, c0, hb, hg, hr0, hl0⟩ := h
 exact ⟨A0, c0, by simpa using blk_set hb 1 (.int .i64 x), hg, hr0, hl0⟩
theorem A3x {W : World} {g : Nat} {A0 : Option Addr} {c0 : Nat} {f0 : List Int} {f1 : Int} {f2 : Bool} (h : W.heap[g]? = some (.cells #[.slice A0 f0.length c0, .int .i64 f1, .bool f2] 194 (0, 0))) : W.cell? ⟨g, 2, none⟩ = some (.bool f2) := (A16 h 2).trans rfl
theorem A1g.A2g {w0 W : World} {g : Nat} {f0 : List Int} {f1 : Int} {f2 : Bool} (h : A1g w0 W g f0 f1 f2) (x : Bool) : A1g w0 (W.setCell ⟨g, 2, none⟩ (.bool x)) g f0 f1 x := by
 obtain ⟨A0, c0, hb, hg, hr0, hl0⟩ := h
 exact ⟨A0, c0, by simpa using blk_set hb 2 (.bool x), hg, hr0, hl0⟩
theorem A1g.farA {w0 W : World} {g g' j : Nat} {u : Value} {f0 : List Int} {f1 : Int} {f2 : Bool} (h : A1g w0 W g f0 f1 f2) (hne : A0b (g ≠ g')) : A1g w0 (W.setCell ⟨g', j, none⟩ u) g f0 f1 f2 := h.far (by exact hne.out) u
theorem A1g.k {w0 W W' : World} {g : Nat} {f0 f0' : List Int} {f1 f1' : Int} {f2 f2' : Bool} (h : A0b (A1g w0 W g f0 f1 f2)) (hh : A1g w0 W g f0 f1 f2 → A1g w0 W' g f0' f1' f2' := by (intro h0_; repeat (first | (with_reducible first | exact h0_ | apply A1g.alloc | apply A1g.drewN | apply A1g.drew | apply A1g.A3y | apply A1g.A2g | refine A1g.farA ?_ (by assumption)) | exact h0_))) : A1g w0 W' g f0' f1' f2' := hh h.out
theorem A1g.kl {w W W' : World} (h : A0b (Below w.heap.size w W)) (hh : Below w.heap.size w W → Below w.heap.size w W' := by (intro h0_; repeat (first | (with_reducible first | exact h0_ | apply A2k | apply A2e | apply A04 | refine A1y ?_ (A1g.ge (A0b.out (by assumption))) | refine A1y ?_ (A0b.out (by assumption))) | exact h0_))) : Below w.heap.size w W' := hh h.out
def A1q.f (k : Nat) (ac : List Int) (ad : Int) (ae : Bool) (a1 : Int) : Option (Int × List Int × Int × Bool) := (A0z.f k ac ad a1).bind fun aa => (if ae = true then (some (aa.1, ac, wrap64 (ad + a1), aa.2)) else (some (aa.1, ac, wrap64 (ad + a1), false)))
theorem A1q.mono : ∀ a0 a1 a2 a3 k, LeO (A1q.f k a0 a1 a2 a3) (A1q.f (k + 1) a0 a1 a2 a3) := by
 intro a0 a1 a2 a3 k
 unfold A1q.f
 repeat' first
   | with_reducible apply A0z.mono
   | (with_reducible exact LeO.refl _)
   | (with_reducible exact LeO.none _)
   | (with_reducible refine LeO.ite ?_ ?_)
   | (with_reducible refine LeO.bind ?_ (fun _ => ?_))
   | exact LeO.none _
   | refine LeO.ite ?_ ?_
   | refine LeO.bind ?_ (fun _ => ?_)
theorem A1q.calls (k : Nat) (g : Nat) (ad : List Int) (ae : Int) (ah : Bool) (a1 : Int) (r1 : Int) (r2 : List Int) (r3 : Int) (r4 : Bool) (w0 w : World) (hI : A1g w0 w g ad ae ah) (hB : Below w0.heap.size w0 w) (h : A1q.f k ad ae ah a1 = some (r1, r2, r3, r4)) :
  Calls Tryd.prog 110 #[.pointer (some ⟨g, 0, none⟩), .int .i64 a1] w fun e w' => e = .returned (.int .u64 r1) ∧ A1g w0 w' g r2 r3 r4 ∧ Below w0.heap.size w0 w' ∧ A1r w w' g none := by
 have ai := ak hI; have HK := ak (A1r.refl w g none); have HL := ak hB.size; clear hI; have HW0 := ak hB.size; have HB := ak hB; clear hB; have H := h; clear h; unfold A1q.f at H; replace H := bkH H; obtain ⟨⟨af, ag⟩, A3, H⟩ := H; (try dsimp only at H)
 by_cases c4 : ah = true
 ·subst c4
  rw [if_pos rfl] at H; simp only [Option.some.injEq, Prod.mk.injEq] at H; obtain ⟨rfl, rfl, rfl, rfl⟩ := H; obtain ⟨ASz5_0, cSz5_0, HGz5, hgz5, HSz5_0, HLSz5_0⟩ := ai.out; have aj := A3v HGz5; have al := A3w HGz5; have am := A3x HGz5; have an := A0d HGz5 0; have ao := A0d HGz5 1; have ap := A0d HGz5 2; clear HGz5 hgz5
  go_enter Tryd.func110, Tryd.ntmps110
  iterate 7 (go_wp2_with (first | (go_at_call 82; (with_reducible refine (A0z.calls k _ _ ad ae a1 af ag _ ?aa ?ac A3.out).mono ?_); (case aa => exact Kd.A1i HSz5_0 (A1g.kl HB)); (case ac => exact HLSz5_0); rintro e w' ⟨rfl, ⟨nd, rfl⟩⟩; (try first | exact ⟨rfl, _, World.drewN_drewN _ _ _⟩ | exact ⟨rfl, _, Eq.trans (World.drewN_drewN _ _ _) (congrArg (World.drewN _) (Nat.add_assoc _ _ _))⟩))); try go_quiet (first | (go_at_call 82; (with_reducible refine (A0z.calls k _ _ ad ae a1 af ag _ ?aa ?ac A3.out).mono ?_); (case aa => exact Kd.A1i HSz5_0 (A1g.kl HB)); (case ac => exact HLSz5_0); rintro e w' ⟨rfl, ⟨nd, rfl⟩⟩; (try first | exact ⟨rfl, _, World.drewN_drewN _ _ _⟩ | exact ⟨rfl, _, Eq.trans (World.drewN_drewN _ _ _) (congrArg (World.drewN _) (Nat.add_assoc _ _ _))⟩))))
  go_ret
  exact ⟨kF, (A1g.k ai), (A1g.kl HB), (kk HK)⟩
 replace c4 := Bool.eq_false_iff.mpr c4; subst c4
 rw [if_neg (show ¬ (false = true) by decide)] at H; simp only [Option.some.injEq, Prod.mk.injEq] at H; obtain ⟨rfl, rfl, rfl, rfl⟩ := H; obtain ⟨ASz6_0, cSz6_0, HGz6, hgz6, HSz6_0, HLSz6_0⟩ := ai.out; have aq := A3v HGz6; have ar := A3w HGz6; have au := A3x HGz6; have av := A0d HGz6 0; have aw := A0d HGz6 1; have ax := A0d HGz6 2; clear HGz6 hgz6
 go_enter Tryd.func110, Tryd.ntmps110
 iterate 7 (go_wp2_with (first | (go_at_call 82; (with_reducible refine (A0z.calls k _ _ ad ae a1 af ag _ ?aa ?ac A3.out).mono ?_); (case aa => exact Kd.A1i HSz6_0 (A1g.kl HB)); (case ac => exact HLSz6_0); rintro e w' ⟨rfl, ⟨nd, rfl⟩⟩; (try first | exact ⟨rfl, _, World.drewN_drewN _ _ _⟩ | exact ⟨rfl, _, Eq.trans (World.drewN_drewN _ _ _) (congrArg (World.drewN _) (Nat.add_assoc _ _ _))⟩))); try go_quiet (first | (go_at_call 82; (with_reducible refine (A0z.calls k _ _ ad ae a1 af ag _ ?aa ?ac A3.out).mono ?_); (case aa => exact Kd.A1i HSz6_0 (A1g.kl HB)); (case ac => exact HLSz6_0); rintro e w' ⟨rfl, ⟨nd, rfl⟩⟩; (try first | exact ⟨rfl, _, World.drewN_drewN _ _ _⟩ | exact ⟨rfl, _, Eq.trans (World.drewN_drewN _ _ _) (congrArg (World.drewN _) (Nat.add_assoc _ _ _))⟩))))
 go_ret
 exact ⟨kF, (A1g.k ai), (A1g.kl HB), (kk HK)⟩
end Go.Proofs.YtodocfjbpkicgaaDoor.All
end
