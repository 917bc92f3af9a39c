-- copied by a program of the session
import Derived.Test.YtiahbcaoikoogaaDoorKtM0
namespace Go.Proofs.YtiahbcaoikoogaaDoor
open Go.RowKit Go.Proofs.YtiahbcaoikoogaaDoorW.PrintWords Go.Proofs.YtiahbcaoikoogaaDoorW.PrintLast Go.Proofs.YtiahbcaoikoogaaDoorW.PrintMore
attribute [local go_sem] A2f A2g A2w A2x A18 A19 A2h A2i
set_option linter.unusedVariables false
set_option linter.unusedSimpArgs false
theorem C_lit2 {e : Nat} {w : World} {A0 A1 : Option Addr} {c0 c1 b : Nat} {l0 l1 : List Int} (h0 : Kd.C (Kd.int .u8) w A0 l0.length l0) (h1 : Kd.C (Kd.int .u8) w A1 l1.length l1) (hc0 : l0.length ≤ c0) (hc1 : l1.length ≤ c1)
  (hx : w.cell? ⟨b, 0, none⟩ = some (.slice A0 l0.length c0)) (hy : w.cell? ⟨b, 1, none⟩ = some (.slice A1 l1.length c1)) : Kd.C (Kd.slice e (Kd.int .u8)) w (some ⟨b, 0, none⟩) 2 [l0, l1] := by
 refine ⟨rfl, by omega, fun _ => ⟨_, rfl, fun j p hj => ?_⟩⟩
 rcases j with _ | _ | j
 ·obtain rfl : l0 = p := by simpa using hj
  refine ⟨[.slice A0 l0.length c0], rfl, ⟨A0, c0, rfl, hc0, h0⟩, fun i u hu => ?_⟩
  rcases i with _ | i
  ·obtain rfl := Option.some.inj hu
   rw [add_plain]
   exact hx
  ·simp at hu
 ·obtain rfl : l1 = p := by simpa using hj
  refine ⟨[.slice A1 l1.length c1], rfl, ⟨A1, c1, rfl, hc1, h1⟩, fun i u hu => ?_⟩
  rcases i with _ | i
  ·obtain rfl := Option.some.inj hu
   rw [add_plain]
   exact hy
  ·simp at hu
 ·simp at hj
def A03.l0 : Nat → Int → List Int → Int → Int → List Int → Int → List Int → Int → Option (List Int × Int)
 | 0, _, _, _, _, _, _, _, _ => none
 | k + 1, x5, ah, ai, af, aa, ac, ae, ad => if af < ai then (if 0 ≤ af then (if af < (ah.length : Int) then (if 0 ≤ (wrap64 ((aa.length : Int) - 1)) then (if (wrap64 ((aa.length : Int) - 1)) < (aa.length : Int) then (if 0 ≤ x5 then ((some (aa.set ((wrap64 ((aa.length : Int) - 1)) : Int).toNat (Go.bits .or .u8 (rd aa (wrap64 ((aa.length : Int) - 1))) (shr .u8 (rd ah af) x5)) : List Int)).bind fun ag => (if 0 ≤ (wrap64 (8 - x5)) then (if ag.length < 140737488355328 then (A03.l0 k x5 ah ai (wrap64 (af + 1)) (ag ++ [shl .u8 (rd ah af) (wrap64 (8 - x5))]) ac ae ad) else (none)) else (none))) else (none)) else (none)) else (none)) else (none)) else (none)) else (if 0 ≤ (wrap64 (Int.tdiv (wrap64 ((wrap64 (ac + ad)) + 7)) 8)) then (if (wrap64 (Int.tdiv (wrap64 ((wrap64 (ac + ad)) + 7)) 8)) ≤ (aa.length : Int) then (some ((aa.take ((wrap64 (Int.tdiv (wrap64 ((wrap64 (ac + ad)) + 7)) 8)) : Int).toNat), wrap64 (ac + ad))) else (none)) else (none))
def A03.f (k : Nat) (ac : List Int) (a0_1 : Int) (aa : List Int) (ad : Int) : Option (List Int × Int) := if (Int.tmod a0_1 8) = 0 then ((A2e.f [ac, aa]).bind fun ae => (some (ae, wrap64 (a0_1 + ad)))) else ((A10.f ac).bind fun af => (A03.l0 k (Int.tmod a0_1 8) aa (aa.length : Int) 0 af a0_1 aa ad))
theorem A03.mono_l : ∀ k, (∀ y0 y1 y2 y3 y4 y5 y6 y7, LeO (A03.l0 k y0 y1 y2 y3 y4 y5 y6 y7) (A03.l0 (k + 1) y0 y1 y2 y3 y4 y5 y6 y7))
 | 0 => fun _ _ _ _ _ _ _ _ r h => by simp [A03.l0] at h
 | k + 1 => by
  have ih0 := A03.mono_l k <;> intros <;> (first | unfold A03.l0) <;> (
   repeat' first
   | (with_reducible exact ih0 _ _ _ _ _ _ _ _)
   | (with_reducible exact LeO.refl _)
   | (with_reducible exact LeO.none _)
   | (with_reducible refine LeO.ite ?_ ?_)
   | (with_reducible refine LeO.bind ?_ (fun _ => ?_))
   | exact ih0 _ _ _ _ _ _ _ _
   | exact LeO.none _
   | refine LeO.ite ?_ ?_
   | refine LeO.bind ?_ (fun _ => ?_))
theorem A03.mono : ∀ a0 a1 a2 a3 k, LeO (A03.f k a0 a1 a2 a3) (A03.f (k + 1) a0 a1 a2 a3) := by
 intro a0 a1 a2 a3 k
 have ih0 := A03.mono_l k
 unfold A03.f
 repeat' first
   | (with_reducible exact ih0 _ _ _ _ _ _ _ _)
   | (with_reducible exact LeO.refl _)
   | (with_reducible exact LeO.none _)
   | (with_reducible refine LeO.ite ?_ ?_)
   | (with_reducible refine LeO.bind ?_ (fun _ => ?_))
   | exact ih0 _ _ _ _ _ _ _ _
   | exact LeO.none _
   | refine LeO.ite ?_ ?_
   | refine LeO.bind ?_ (fun _ => ?_)
def A03.T2 : Bool × List (List Nat × List Nat) := (true, [([], []), ([0], [0]), ([], []), ([2], [2]), ([1, 3], [1, 3]), ([4], [4]), ([], []), ([6], [6]), ([], []), ([8], [8]), ([7, 9], [7, 9]), ([5, 10], [5, 10]), ([11, 5, 0, 1, 2, 3, 4, 5, 6, 7, 8, 9, 10, 11], [11])])
def A03.B2 : List Nat := [0, 1, 0, 4, 15, 31, 0, 64, 0, 256, 960, 2047, 4095]
theorem A03.tab2 : rtab .any (opsOf Tryd.f22 2) = A03.T2 := by kernel_rfl
theorem A03.bits2 : A2o A03.T2.2 A03.B2 = true := by kernel_rfl
def A03.T8 : Bool × List (List Nat × List Nat) := (true, [([], []), ([0], [0]), ([], []), ([2], [2]), ([3], [3]), ([4], [4]), ([1, 5], [1, 5]), ([6], [6]), ([], []), ([], []), ([8, 9], [8, 9]), ([7, 10], [7, 10]), ([1, 5, 0, 1, 2, 3, 4, 5, 6, 7, 8, 9, 10, 11], [1, 5]), ([12, 11, 0, 1, 2, 3, 4, 5, 6, 7, 8, 9, 10, 11], [11, 12])])
def A03.B8 : List Nat := [0, 1, 0, 4, 12, 28, 63, 127, 0, 0, 768, 2047, 4095, 8191]
theorem A03.tab8 : rtab .any (opsOf Tryd.f22 8) = A03.T8 := by kernel_rfl
theorem A03.bits8 : A2o A03.T8.2 A03.B8 = true := by kernel_rfl
def A03.T9 : Bool × List (List Nat × List Nat) := (true, [([], []), ([0], [0]), ([], []), ([], []), ([3], [3]), ([2, 4], [2, 4]), ([5], [5]), ([1, 6], [1, 6]), ([0, 1, 2, 3, 4, 5, 6, 7], []), ([8, 7, 7, 0, 1, 2, 3, 4, 5, 6, 7], [7, 8])])
def A03.B9 : List Nat := [0, 1, 0, 0, 8, 28, 60, 127, 255, 511]
theorem A03.tab9 : rtab .any (opsOf Tryd.f22 9) = A03.T9 := by kernel_rfl
theorem A03.bits9 : A2o A03.T9.2 A03.B9 = true := by kernel_rfl
set_option maxHeartbeats 8000000 in
set_option maxRecDepth 100000 in
theorem A03.calls (k : Nat) (ay : Option Addr) (az : Nat) (am : List Int) (a0_1 : Int) (ax : Option Addr) (au : Nat) (ad : List Int) (ag : Int) (r1 : List Int) (r2 : Int) (w : World) (hr0_0 : Kd.C (Kd.int .u8) w ay am.length am) (hc0_0 : am.length ≤ az) (hr1_0 : Kd.C (Kd.int .u8) w ax ad.length ad) (hc1_0 : ad.length ≤ au) (h : A03.f k am a0_1 ad ag = some (r1, r2)) :
  Calls Tryd.prog 22 #[.agg #[.slice ay am.length az, .int .i64 a0_1], .agg #[.slice ax ad.length au, .int .i64 ag]] w fun e w' => ∃ dl : Value, e = .returned (.agg #[dl, .int .i64 r2]) ∧ Kd.R (Kd.int .u8) 5 w' w.heap.size (fun _ => True) dl r1 ∧ Below w.heap.size w w' := by
 have hu31 := Tryd.underlying31
 have b0 := ak hr0_0
 have b1 := ak hc0_0
 clear hr0_0 hc0_0
 have b2 := ak hr1_0
 have bQ := ak hc1_0
 clear hr1_0 hc1_0
 have HB := ak (Below.refl w.heap.size w)
 have H : (if (Int.tmod a0_1 8) = 0 then ((A2e.f [am, ad]).bind fun aJ => (some (aJ, wrap64 (a0_1 + ag)))) else ((A10.f am).bind fun aE => (A03.l0 k (Int.tmod a0_1 8) ad (ad.length : Int) 0 aE a0_1 ad ag))) = some (r1, r2) := h
 clear h
 by_cases c3 : (Int.tmod a0_1 8) = 0
 ·rw [if_pos c3] at H
  have bD : ((Int.tmod a0_1 8) == 0) = true := beq_iff_eq.mpr c3
  have bE : ((Int.tmod a0_1 8) != 0) = false := bne_eq_false_iff_eq.mpr c3
  clear c3
  replace H := Option.bind_eq_some_iff.mp H
  obtain ⟨aJ, dm, H⟩ := H
  replace H : (some (aJ, wrap64 (a0_1 + ag))) = some (r1, r2) := H
  have A4 := ak dm
  clear dm
  simp only [Option.some.injEq, Prod.mk.injEq] at H
  obtain ⟨rfl, rfl⟩ := H
  go_enter Tryd.func22, Tryd.ntmps22
  try go_wp2_with (first | ((with_reducible refine A0q (N := 2) rfl ?_); refine bxe 2 #[.slice ay am.length az, .int .i64 a0_1] 31 (h := ?_); intro ah hg w5 hbox hb; have ac := ak (hbox); have bR := kG hg HB; have b3 := kG hg HB; replace HB := kH HB hb; clear hb hbox hg) | ((with_reducible refine A0q (N := 3) rfl ?_); refine bxe 3 #[.slice ax ad.length au, .int .i64 ag] 31 (h := ?_); intro a2 hg w6 hbox hb; have ae := ak (hbox); have bS := kG hg HB; have b4 := kG hg HB; replace HB := kH HB hb; obtain ⟨ao, ap⟩ := kN hg ac; replace ac := kB ac hb; clear hb hbox hg) | ((with_reducible refine A0q (N := 4) rfl ?_); refine bxe 4 #[.slice none 0 0, .int .i64 0] 31 (h := ?_); intro ar hg w7 hbox hb; have af := ak (hbox); have bT := kG hg HB; have b5 := kG hg HB; replace HB := kH HB hb; obtain ⟨aj, al⟩ := kN hg ac; replace ac := kB ac hb; obtain ⟨av, aw⟩ := kN hg ae; replace ae := kB ae hb; clear hb hbox hg; have dQ := ao.out; have dR := ap.out; have dS := aj.out; have dT := al.out; obtain ⟨bc, be⟩ := kc2 ac; obtain ⟨bf, bg⟩ := kf2 ac))
  replace ac := ak (A0f ac.out)
  replace ae := ak (A0f ae.out)
  replace af := ak (A0f af.out)
  replace HB := ak (A0j HB.out)
  refine A2d (n := 13) (S := fun w' => w'.cell? ⟨ah, 0, none⟩ = some (.slice ay am.length az) ∧ w'.cell? ⟨ah, 1, none⟩ = some (.int .i64 a0_1) ∧ w'.cell? ⟨a2, 0, none⟩ = some (.slice ax ad.length au) ∧ w'.cell? ⟨a2, 1, none⟩ = some (.int .i64 ag)) (ds := []) (bl 13 0) (by kernel_rfl) rfl rfl kz (fun hHeld => ?_); refine A1q A03.tab2 A03.bits2 (fun HT_ HW_ => ?_)
  generalize w7.drew = aK at ac ae af HB hHeld ⊢
  refine pu 0 (some 12) (bl 13 1) (h := ?_)
  refine pu 2 (some 14) (bl 13 5) (h := ?_)
  refine pu 6 (some 18) (bl 13 69) (h := ?_)
  refine pu 8 (some 20) (bl 13 325) (h := ?_)
  refine ta 1 (some 13) (bl 13 327) (h := ?_)
  refine ta 3 (some 15) (bl 13 335) (h := ?_)
  refine ta 7 (some 19) (bl 13 463) (h := ?_)
  refine ta 9 (some 21) (bl 13 975) (h := ?_)
  refine pu 10 (some 22) (bl 13 1999) (h := ?_)
  refine one_ (i := 4) (N := some 16) (bl 13 2015) rfl rfl (A1h HT_.out (by kernel_rfl)) (by decide) (fun K hK => ?_)
  refine event_step (by rfl) (w1 := aK.alloc (.cells #[.slice ay am.length az, .slice ax ad.length au] 25)) (v := .slice (some ⟨aK.heap.size, 0, none⟩) 2 2) (by go_simp) ?_
  have hb : Below aK.heap.size aK (aK.alloc (.cells #[.slice ay am.length az, .slice ax ad.length au] 25)) := A0x (Below.refl _ _) _
  have aR := ak (A1y (g := ah) (o := .cells #[.slice ay am.length az, .int .i64 a0_1] 31 (0, 0)) ac.out hb)
  have aT := ak (A1y (g := a2) (o := .cells #[.slice ax ad.length au, .int .i64 ag] 31 (0, 0)) ae.out hb)
  have aU := ak (A1y (g := ar) (o := .cells #[.slice none 0 0, .int .i64 0] 31 (0, 0)) af.out hb)
  have aQ := ak (A2k HB.out hb)
  have hw_ : Below w.heap.size w (aK.alloc (.cells #[.slice ay am.length az, .slice ax ad.length au] 25)) := aQ.out
  have CL : A0b (Kd.C (Kd.slice 5 (Kd.int .u8)) (aK.alloc (.cells #[.slice ay am.length az, .slice ax ad.length au] 25)) (some ⟨aK.heap.size, 0, none⟩) 2 [am, ad]) := ⟨C_lit2 (Kd.A1j b0.out hw_) (Kd.A1j b2.out hw_) b1.out bQ.out ((A0e (blk_new aK (.cells #[.slice ay am.length az, .slice ax ad.length au] 25)) 0).trans rfl) ((A0e (blk_new aK (.cells #[.slice ay am.length az, .slice ax ad.length au] 25)) 1).trans rfl)⟩
  clear ac
  clear ae
  clear af
  clear HB hw_ hb
  have ac := aR
  have ae := aT
  have af := aU
  have HB := aQ
  clear aR aT aU aQ
  generalize (aK.alloc (.cells #[.slice ay am.length az, .slice ax ad.length au] 25)) = wl_ at ac ae af HB CL ⊢
  refine hK.out _ _ kz (fun hHeld => ?_)
  clear hK K
  refine nm (some 16) (h := ?_)
  refine one_ (i := 5) (N := some 17) (bl 13 2047) rfl rfl (A1h HT_.out (by kernel_rfl)) (by decide) (fun K hK => ?_)
  refine A29 Tryd.func52 (by kernel_rfl) rfl #[.slice (some ⟨aK.heap.size, 0, none⟩) 2 2] (by rfl) rfl rfl km ?_
  refine (A2e.calls (some ⟨aK.heap.size, 0, none⟩) 2 [am, ad] aJ _ ?aV ?aW A4.out).mono ?_
  (case aV => exact CL.out)
  (case aW => exact Nat.le_refl _)
  rintro e eg ⟨dU, rfl, ho0, hb⟩
  refine ⟨_, rfl, ?_⟩
  have b6 := ak (Kd.A1t ho0 (A0n (kl HB)))
  replace ac := kB ac hb
  replace ae := kB ae hb
  replace af := kB af hb
  replace HB := kH HB hb
  (try clear hb)
  
  
  
  
  (try clear ho0)
  obtain ⟨bU, bV, bW⟩ := Kd.A1w b6.out
  (first | subst bW | (injection bW with f1_ f2_ f3_; have f4_ := f1_.symm; have f5_ := f3_.symm; clear f1_ f2_ f3_; subst f4_; subst f5_))
  refine hK.out _ _ kz (fun hHeld => ?_)
  clear hK K
  refine nm (some 17) (h := ?_)
  refine pu 11 (some 23) (bl 13 4095) (h := ?_)
  refine one_ (i := 12) (N := none) (bl 13 8191) rfl rfl (A1h HT_.out (by kernel_rfl)) (by decide) (fun K hK => ?_)
  have dV := (kc2 af).1
  have dn := A0c af.out 0
  have cv := aj.out
  have cw := av.out
  have cx := al.out
  have cy := aw.out
  have dW := (kc2 af).2
  have dp := A0c af.out 1
  refine A3k (w1 := ?_) (by rfl) rfl ?_ ?_
  rotate_left
  ·go_simp
   rfl
  refine hK.out _ _ (ks hHeld) (fun hHeld => ?_)
  clear hK K
  refine A28 (A2a HT_.out (by kernel_rfl)) ?_
  try go_wp2
  refine bodyPost_ret (results_cell_row rfl _ _ ar 31 #[.slice bU aJ.length bV, .int .i64 (wrap64 (a0_1 + ag))] (0, 0) _ rfl (kb af) Tryd.underlying31 rfl (by kernel_rfl)) rfl ?_
  exact ⟨_, kF, by (with_reducible repeat (first | apply Kd.A04 | apply Kd.A05 | apply Kd.A0z)); exact Kd.A1g (Kd.A0s (p := ⟨ar, 1, none⟩) (Kd.A0s (p := ⟨ar, 0, none⟩) (Kd.A1a b6.out af.out (by decide)) (fun _ hk => hk.2) (.slice bU aJ.length bV)) (fun _ hk => hk.2) (.int .i64 (wrap64 (a0_1 + ag)))) (fun _ hk => trivial), (kl HB)⟩
 ·rw [if_neg c3] at H
  have bD : ((Int.tmod a0_1 8) == 0) = false := beq_eq_false_iff_ne.mpr c3
  have bE : ((Int.tmod a0_1 8) != 0) = true := bne_iff_ne.mpr c3
  replace H := Option.bind_eq_some_iff.mp H
  obtain ⟨aE, bX, H⟩ := H
  replace H : (A03.l0 k (Int.tmod a0_1 8) ad (ad.length : Int) 0 aE a0_1 ad ag) = some (r1, r2) := H
  have dX := ak bX
  clear bX
  have H' := ak H
  clear H
  go_enter Tryd.func22, Tryd.ntmps22
  go_wp2_with (first | ((with_reducible refine A0q (N := 2) rfl ?_); refine bxe 2 #[.slice ay am.length az, .int .i64 a0_1] 31 (h := ?_); intro ah hg eh hbox hb; have ac := ak (hbox); have bR := kG hg HB; have b3 := kG hg HB; replace HB := kH HB hb; clear hb hbox hg) | ((with_reducible refine A0q (N := 3) rfl ?_); refine bxe 3 #[.slice ax ad.length au, .int .i64 ag] 31 (h := ?_); intro a2 hg ei hbox hb; have ae := ak (hbox); have bS := kG hg HB; have b4 := kG hg HB; replace HB := kH HB hb; obtain ⟨ao, ap⟩ := kN hg ac; replace ac := kB ac hb; clear hb hbox hg) | ((with_reducible refine A0q (N := 4) rfl ?_); refine bxe 4 #[.slice none 0 0, .int .i64 0] 31 (h := ?_); intro ar hg ej hbox hb; have af := ak (hbox); have bT := kG hg HB; have b5 := kG hg HB; replace HB := kH HB hb; obtain ⟨aj, al⟩ := kN hg ac; replace ac := kB ac hb; obtain ⟨av, aw⟩ := kN hg ae; replace ae := kB ae hb; clear hb hbox hg; have dq := ao.out; have dr := ap.out; have du := aj.out; have dw := al.out; obtain ⟨bh, bi⟩ := kc2 ac; obtain ⟨bj, bk⟩ := kf2 ac) | ((with_reducible refine A0h (f := 53) rfl ?_); refine A1b (some 26) rfl rfl Tryd.func53 (by kernel_rfl) rfl #[.slice ay am.length az] rfl km ?_; (with_reducible refine (A10.calls _ _ am aE _ ?aV ?aW dX.out).mono ?_); (case aV => repeat (first | exact (Kd.A1j b0.out HB.out) | (with_reducible refine Kd.A1e ?_ _) | (with_reducible refine Kd.A1d ?_ _) | (with_reducible refine Kd.A1v ?_))); (case aW => exact b1.out); rintro e ek ⟨dY, rfl, ho0, hb⟩; refine ⟨_, rfl, ?_⟩; have b7 := ak (Kd.A1t ho0 (A0n (kl HB))); replace ac := kB ac hb; replace ae := kB ae hb; replace af := kB af hb; replace HB := kH HB hb; (try clear hb); (try clear ho0); obtain ⟨bY, bZ, da⟩ := Kd.A1w b7.out; subst da; obtain ⟨bm, bn⟩ := kc2 ac; obtain ⟨bo, bp⟩ := kf2 ac; have dz := av.out; have d0 := aw.out; obtain ⟨bq, br⟩ := kc2 ae; obtain ⟨bs, bt⟩ := kf2 ae))
  go_loopg [34] k (fun kq dZ w' => ∃ (x34_1 : Int) (aa : List Int) (a1 : Value), dZ = .int .i64 x34_1 ∧ A0b (A03.l0 kq (Int.tmod a0_1 8) ad (ad.length : Int) x34_1 aa a0_1 ad ag = some (r1, r2)) ∧ A0b (kq ≤ k) ∧ A0b (Kd.R (Kd.int .u8) 5 w' w.heap.size (fun _ => True) a1 aa) ∧ A0b (w'.heap[ah]? = some (.cells #[a1, .int .i64 a0_1] 31 (0, 0))) ∧ A0b (w'.heap[a2]? = some (.cells #[(.slice ax ad.length au), .int .i64 ag] 31 (0, 0))) ∧ A0b (w'.heap[ar]? = some (.cells #[(.slice none 0 0), .int .i64 0] 31 (0, 0))) ∧ A0b (Below w.heap.size w w'))
  case atStart => exact ⟨(0), (aE), (.slice bY aE.length bZ), kE, H', ⟨Nat.le_refl _⟩, ⟨by (with_reducible repeat (first | apply Kd.A04 | apply Kd.A05 | apply Kd.A0z)); exact Kd.A1g (Kd.A0s (p := ⟨ah, 0, none⟩) (Kd.A1a b7.out ac.out (by decide)) (fun _ hk => hk.2) (.slice bY aE.length bZ)) (fun _ hk => trivial)⟩, ⟨(kb ac)⟩, ⟨(kb ae)⟩, ⟨(kb af)⟩, ⟨(kl HB)⟩⟩
  case round =>
   clear H'
   try clear c1
   try clear c2
   try clear p2
   try clear c3
   try clear bD
   try clear bE
   try clear c5
   try clear p6
   try clear c8
   try clear c9
   try clear el
   try clear em
   try clear en
   try clear eo
   try clear bc
   try clear be
   try clear bh
   try clear bi
   try clear bm
   try clear bn
   try clear bq
   try clear br
   try clear bf
   try clear bg
   try clear bj
   try clear bk
   try clear bo
   try clear bp
   try clear bs
   try clear bt
   obtain ⟨x34_1, aa, a1, rfl, HA, d5, HO_102000, ac, ae, af, HB⟩ := hrel
   cases gk with
   | zero => exact absurd HA.out (by simp [A03.l0])
   | succ k1 =>
    have H := HA.out
    clear HA
    simp only [A03.l0] at H
    by_cases bO : x34_1 < (ad.length : Int)
    ·rw [if_pos bO] at H
     have ca := decide_eq_true bO
     clear bO
     by_cases cz : 0 ≤ x34_1
     ·rw [if_pos cz] at H
      have d6 := decide_eq_true cz
      clear cz
      by_cases cA : x34_1 < (ad.length : Int)
      ·rw [if_pos cA] at H
       have d7 := decide_eq_true cA
       clear cA
       obtain ⟨ai, aX⟩ : ∃ j_ : Int, (wrap64 ((aa.length : Int) - 1)) = j_ := ⟨_, rfl⟩
       replace H : (if 0 ≤ (ai) then (if (ai) < (aa.length : Int) then (if 0 ≤ (Int.tmod a0_1 8) then ((some (aa.set ((ai) : Int).toNat (Go.bits .or .u8 (rd aa (ai)) (shr .u8 (rd ad x34_1) (Int.tmod a0_1 8))) : List Int)).bind fun aq => (if 0 ≤ (wrap64 (8 - (Int.tmod a0_1 8))) then (if aq.length < 140737488355328 then (A03.l0 k1 (Int.tmod a0_1 8) ad (ad.length : Int) (wrap64 (x34_1 + 1)) (aq ++ [shl .u8 (rd ad x34_1) (wrap64 (8 - (Int.tmod a0_1 8)))]) a0_1 ad ag) else (none)) else (none))) else (none)) else (none)) else (none)) = some (r1, r2) := by first | (rw [aX] at H; exact H) | (simp only [aX] at H ⊢; exact H)
       have db : (IntKind.i64.wrap ((aa.length : Int) - 1)) = ai := (A11 _).trans aX
       by_cases cB : 0 ≤ (ai)
       ·rw [if_pos cB] at H
        have d8 := decide_eq_true cB
        clear cB
        by_cases cC : (ai) < (aa.length : Int)
        ·rw [if_pos cC] at H
         have d9 := decide_eq_true cC
         clear cC
         obtain ⟨an, a7⟩ : ∃ j_ : Int, (Int.tmod a0_1 8) = j_ := ⟨_, rfl⟩
         replace H : (if 0 ≤ (an) then ((some (aa.set ((ai) : Int).toNat (Go.bits .or .u8 (rd aa (ai)) (shr .u8 (rd ad x34_1) (an))) : List Int)).bind fun aq => (if 0 ≤ (wrap64 (8 - (an))) then (if aq.length < 140737488355328 then (A03.l0 k1 (an) ad (ad.length : Int) (wrap64 (x34_1 + 1)) (aq ++ [shl .u8 (rd ad x34_1) (wrap64 (8 - (an)))]) a0_1 ad ag) else (none)) else (none))) else (none)) = some (r1, r2) := by first | (rw [a7] at H; exact H) | (simp only [a7] at H ⊢; exact H)
         (try rw [a7] at bD)
         (try rw [a7] at bE)
         by_cases cc : 0 ≤ (an)
         ·rw [if_pos cc] at H
          have dA := eq_true cc
          have dB := decide_eq_true cc
          clear cc
          obtain ⟨aM, aG⟩ : ∃ j_ : Int, (shr .u8 (rd ad x34_1) (an)) = j_ := ⟨_, rfl⟩
          replace H : ((some (aa.set ((ai) : Int).toNat (Go.bits .or .u8 (rd aa (ai)) (aM)) : List Int)).bind fun aq => (if 0 ≤ (wrap64 (8 - (an))) then (if aq.length < 140737488355328 then (A03.l0 k1 (an) ad (ad.length : Int) (wrap64 (x34_1 + 1)) (aq ++ [shl .u8 (rd ad x34_1) (wrap64 (8 - (an)))]) a0_1 ad ag) else (none)) else (none))) = some (r1, r2) := by first | (rw [aG] at H; exact H) | (simp only [aG] at H ⊢; exact H)
          have dc : ((rd ad x34_1) / 2 ^ min (an).toNat 8) = aM := aG
          have dd : (an) ≤ 8 → ((rd ad x34_1) / 2 ^ (an).toNat) = aM := shr_small aG
          obtain ⟨aq, a8⟩ : ∃ y_ : List Int, y_ = (aa.set ((ai) : Int).toNat (Go.bits .or .u8 (rd aa (ai)) (aM))) := ⟨_, rfl⟩
          replace H : (if 0 ≤ (wrap64 (8 - (an))) then (if aq.length < 140737488355328 then (A03.l0 k1 (an) ad (ad.length : Int) (wrap64 (x34_1 + 1)) (aq ++ [shl .u8 (rd ad x34_1) (wrap64 (8 - (an)))]) a0_1 ad ag) else (none)) else (none)) = some (r1, r2) := by first | (rw [a8]; with_reducible exact H) | (have H2_ := (Option.bind_some _ _).symm.trans H; rw [a8]; with_reducible exact H2_) | (have H2_ := (Option.bind_some _ _).symm.trans H; with_reducible exact H2_) | with_reducible exact H | (rw [a8]; exact H) | exact H
          have cd := ak a8
          clear a8
          obtain ⟨a3, aY⟩ : ∃ j_ : Int, (wrap64 (8 - (an))) = j_ := ⟨_, rfl⟩
          replace H : (if 0 ≤ (a3) then (if aq.length < 140737488355328 then (A03.l0 k1 (an) ad (ad.length : Int) (wrap64 (x34_1 + 1)) (aq ++ [shl .u8 (rd ad x34_1) (a3)]) a0_1 ad ag) else (none)) else (none)) = some (r1, r2) := by first | (rw [aY] at H; exact H) | (simp only [aY] at H ⊢; exact H)
          have de : (IntKind.i64.wrap (8 - (an))) = a3 := (A11 _).trans aY
          by_cases ce : 0 ≤ (a3)
          ·rw [if_pos ce] at H
           have dC := eq_true ce
           have dD := decide_eq_true ce
           clear ce
           obtain ⟨a9, aH⟩ : ∃ j_ : Int, (shl .u8 (rd ad x34_1) (a3)) = j_ := ⟨_, rfl⟩
           replace H : (if aq.length < 140737488355328 then (A03.l0 k1 (an) ad (ad.length : Int) (wrap64 (x34_1 + 1)) (aq ++ [a9]) a0_1 ad ag) else (none)) = some (r1, r2) := by first | (rw [aH] at H; exact H) | (simp only [aH] at H ⊢; exact H)
           have bF : (IntKind.u8.wrap ((rd ad x34_1) * 2 ^ min (a3).toNat 8)) = a9 := aH
           have bG : (a3) ≤ 8 → (IntKind.u8.wrap ((rd ad x34_1) * 2 ^ (a3).toNat)) = a9 := shl_small aH
           have df : ((rd ad x34_1) * 2 ^ min (a3).toNat 8) % 256 = a9 := (IntKind.wrap_u8 _).symm.trans bF
           have dg : (a3) ≤ 8 → ((rd ad x34_1) * 2 ^ (a3).toNat) % 256 = a9 := fun h_ => (IntKind.wrap_u8 _).symm.trans (bG h_)
           by_cases cD : aq.length < 140737488355328
           ·rw [if_pos cD] at H
            have LMc41 := ak cD
            clear cD
            obtain ⟨bu, aA⟩ : ∃ y_ : List Int, y_ = (aq ++ [a9]) := ⟨_, rfl⟩
            replace H : (A03.l0 k1 (an) ad (ad.length : Int) (wrap64 (x34_1 + 1)) bu a0_1 ad ag) = some (r1, r2) := by first | (rw [aA]; with_reducible exact H) | (have H2_ := (Option.bind_some _ _).symm.trans H; rw [aA]; with_reducible exact H2_) | (have H2_ := (Option.bind_some _ _).symm.trans H; with_reducible exact H2_) | with_reducible exact H | (rw [aA]; exact H) | exact H
            have cf := ak aA
            clear aA
            have H' := ak H
            clear H
            have bH : 0 ≤ (x34_1 : Int) := kD
            have bv : x34_1 < (ad.length : Int) := kD
            obtain ⟨b8, dh, a5⟩ := Kd.A33 b2.out x34_1 bH bv
            cases dh
            replace a5 := (HB.out.cell (World.block_lt_of_cell? w _ a5)).trans a5
            replace bH := eq_true bH
            (try (have aZ := bv; simp only [List.length_drop, List.length_take] at aZ; replace aZ := eq_true aZ)); replace bv := eq_true bv
            try go_wp2
            replace HO_102000 := ak (Kd.A0z HO_102000.out)
            replace ac := ak (A0f ac.out)
            replace ae := ak (A0f ae.out)
            replace af := ak (A0f af.out)
            replace HB := ak (A0j HB.out)
            obtain ⟨ea, aN, cg⟩ := Kd.A1w HO_102000.out
            (first | subst cg | (injection cg with f1_ f2_ f3_; have f4_ := f1_.symm; have f5_ := f3_.symm; clear f1_ f2_ f3_; subst f4_; subst f5_))
            have bI : 0 ≤ ((ai) : Int) := kD
            have bw : (ai) < (aa.length : Int) := kD
            obtain ⟨dE, di, a6⟩ := Kd.A33 (Kd.A06 HO_102000.out).2.2 (ai) bI bw
            cases di
            replace bI := eq_true bI
            (try (have ba := bw; simp only [List.length_drop, List.length_take] at ba; replace ba := eq_true ba)); replace bw := eq_true bw
            have p37 : 0 ≤ ((ai) : Int) := kD
            have cE : ((ai) : Int) < ((aa.length : Int) : Int) := kD
            obtain ⟨aC, eb, ch, ci, gl37, cl37, HG37⟩ := Kd.R_form HO_102000.out (by omega)
            (first | cases ch | (injection ch with ea_ en_ ec_; (first | subst ea_ | (injection ea_ with ea_; subst ea_)); subst ec_; clear en_))
            have GB37 := ak ci
            have GG37 := ak HG37
            clear ci gl37 HG37
            (first | simp only [add_plain] at a6 | skip)
            obtain ⟨bJ, bK⟩ := Kd.R_celln 0 HO_102000.out ((ai) : Int) p37 cE
            replace p37 := eq_true p37
            (try (have bL := cE; simp only [List.length_drop, List.length_take] at bL; replace bL := eq_true bL)); replace cE := eq_true cE
            have HP44 := Kd.R_putn HO_102000.out ((ai) : Int) (Go.bits .or .u8 (rd aa (ai)) (aM))
            rw [← cd.out] at HP44
            have cj := ak HP44
            clear HP44
            refine A2d (n := 14) (S := fun w' => w'.cell? ⟨ah, 0, none⟩ = some (.slice (some ⟨aC, 0, none⟩) aa.length aN) ∧ w'.cell? ⟨ah, 1, none⟩ = some (.int .i64 a0_1) ∧ w'.cell? ⟨aC, ((ai)).toNat, none⟩ = some (.int .u8 (rd aa (ai)))) (ds := [13]) (bl 14 0) (by kernel_rfl) rfl rfl ⟨(A0e ac.out 0).trans rfl, (A0e ac.out 1).trans rfl, a6⟩ (fun hHeld => ?_); refine A1q A03.tab8 A03.bits8 (fun HT_ HW_ => ?_)
            generalize wr.drew = ec at HO_102000 ac ae af HB GG37 cj bK a6 bJ hHeld ⊢
            refine pu 0 (some 38) (bl 14 1) (h := ?_)
            refine pu 2 (some 40) (bl 14 5) (h := ?_)
            refine pu 8 (some 46) (bl 14 261) (h := ?_)
            refine pu 9 (some 47) (bl 14 773) (h := ?_)
            refine pu 10 (some 48) (bl 14 1797) (h := ?_)
            refine ta 1 (some 39) (bl 14 1799) (h := ?_)
            refine ta 3 (some 41) (bl 14 1807) (h := ?_)
            refine pu 4 (some 42) (bl 14 1823) (h := ?_)
            refine pu 5 (some 43) (bl 14 1855) (h := ?_)
            refine pu 6 (some 44) (bl 14 1919) (h := ?_)
            refine ta 7 (some 45) (bl 14 2047) (h := ?_)
            refine pu 11 (some 49) (bl 14 4095) (h := ?_)
            refine pu 12 (some 50) (bl 14 8191) (h := ?_)
            refine last_ (i := 13) (N := none) (bl 14 16383) rfl rfl (A1h HT_.out (by kernel_rfl)) (by decide) (fun K hK => ?_)
            refine A3k (w1 := ?_) (by rfl) rfl ?_ ?_
            rotate_left
            ·go_simp
             rfl
            refine hK.out _ _ ?_
            clear hK K
            refine A28 (A2a HT_.out (by kernel_rfl)) ?_
            generalize hw_ : (ec.setCell ⟨aC, ((ai) : Int).toNat, none⟩ (.int .u8 (Go.bits .or .u8 (rd aa (ai)) (aM)))) = bP
            have aR : A0b (Kd.R (Kd.int .u8) 5 bP w.heap.size (fun _ => True) (.slice (some ⟨aC, 0, none⟩) aa.length aN) aq) := ⟨by rw [← hw_]; (with_reducible repeat (first | apply Kd.A04 | apply Kd.A05 | apply Kd.A0z)); exact cj.out⟩
            have aT : A0b (bP.heap[ah]? = some (.cells #[.slice (some ⟨aC, 0, none⟩) aa.length aN, .int .i64 a0_1] 31 (0, 0))) := ⟨by rw [← hw_]; (with_reducible repeat (first | refine A2t ?_ _ | refine A0f ?_ | refine A2p ?_ _)); refine blk_far ?_ (by have h_ := Kd.R_ne HO_102000.out ac.out (by decide); intro e_; exact h_ (by rw [e_]; rfl)) _; (with_reducible repeat (first | refine A2t ?_ _ | refine A0f ?_ | refine A2p ?_ _)); exact ac.out⟩
            have aU : A0b (bP.heap[a2]? = some (.cells #[.slice (some b8) ad.length au, .int .i64 ag] 31 (0, 0))) := ⟨by rw [← hw_]; (with_reducible repeat (first | refine A2t ?_ _ | refine A0f ?_ | refine A2p ?_ _)); refine blk_far ?_ (by have h_ := Kd.R_ne HO_102000.out ae.out (by decide); intro e_; exact h_ (by rw [e_]; rfl)) _; (with_reducible repeat (first | refine A2t ?_ _ | refine A0f ?_ | refine A2p ?_ _)); exact ae.out⟩
            have aQ : A0b (bP.heap[ar]? = some (.cells #[.slice none 0 0, .int .i64 0] 31 (0, 0))) := ⟨by rw [← hw_]; (with_reducible repeat (first | refine A2t ?_ _ | refine A0f ?_ | refine A2p ?_ _)); refine blk_far ?_ (by have h_ := Kd.R_ne HO_102000.out af.out (by decide); intro e_; exact h_ (by rw [e_]; rfl)) _; (with_reducible repeat (first | refine A2t ?_ _ | refine A0f ?_ | refine A2p ?_ _)); exact af.out⟩
            have b9 : A0b (Below w.heap.size w bP) := ⟨by rw [← hw_]; repeat (first | (with_reducible first | exact HB.out | apply A0x | apply A0p | apply A0j | refine A0i ?_ GB37.out | refine A0i ?_ b3.out | refine A0i ?_ b4.out | refine A0i ?_ b5.out) | exact HB.out)⟩
            (try clear HO_102000)
            (try clear ac)
            (try clear ae)
            (try clear af)
            (try clear HB)
            clear hw_
            have HO_102000 := aR
            have ac := aT
            have ae := aU
            have af := aQ
            have HB := b9
            clear aR aT aU aQ b9
            try go_wp2
            replace HO_102000 := ak (Kd.A0z HO_102000.out)
            replace ac := ak (A0f ac.out)
            replace ae := ak (A0f ae.out)
            replace af := ak (A0f af.out)
            replace HB := ak (A0j HB.out)
            refine A2d (n := 10) (S := fun w' => w'.cell? ⟨ah, 0, none⟩ = some (.slice (some ⟨aC, 0, none⟩) aa.length aN) ∧ w'.cell? ⟨ah, 1, none⟩ = some (.int .i64 a0_1)) (ds := [9]) (bl 10 0) (by kernel_rfl) rfl rfl kz (fun hHeld => ?_); refine A1q A03.tab9 A03.bits9 (fun HT_ HW_ => ?_)
            generalize bP.drew = ep at HO_102000 ac ae af HB hHeld ⊢
            refine pu 0 (some 51) (bl 10 1) (h := ?_)
            refine pu 2 (some 53) (bl 10 5) (h := ?_)
            refine pu 3 (some 54) (bl 10 13) (h := ?_)
            refine pu 4 (some 55) (bl 10 29) (h := ?_)
            refine pu 5 (some 56) (bl 10 61) (h := ?_)
            refine ta 1 (some 52) (bl 10 63) (h := ?_)
            refine one_ (i := 6) (N := some 57) (bl 10 127) rfl rfl (A1h HT_.out (by kernel_rfl)) (by decide) (fun K hK => ?_)
            refine value_ (w1 := ?_) (v := ?_) (by rfl) rfl ?_ ?_
            rotate_left 2
            ·go_simp
             constructor
             ·rfl
             ·rfl
            refine hK.out _ _ ⟨(A0e (A2p ac.out _) 0).trans rfl, (A0e (A2p ac.out _) 1).trans rfl⟩ (fun hHeld => ?_)
            clear hK K
            refine nm (some 57) (h := ?_)
            refine one_ (i := 7) (N := some 58) (bl 10 255) rfl rfl (A1h HT_.out (by kernel_rfl)) (by decide) (fun K hK => ?_)
            refine Kd.R_append_step (Kd.int .u8) (w0 := w) w.heap.size (by rfl) (.tmp 52) (.tmp 57) 25 5 (.int .u8 0) 1 rfl Tryd.underlying25 infoU8 rfl (by decide) (by omega) (.slice (some ⟨aC, 0, none⟩) aa.length aN) aq a9 [.int .u8 a9] (fun _ => True) (fun _ => False) rfl rfl ?aP (fun _ hk => hk.elim) ?aF ?aO ?aB ?aS ?aL ?_
            (case aP => exact rfl)
            (case aB => exact (kl HB))
            (case aF => exact (fun _ _ => trivial))
            (case aO => exact (kr HO_102000))
            (case aS => exact (A0n (kl HB)))
            (case aL => have := LMc41.out; omega)
            intro ed er ho hb hg hat
            rw [← cf.out] at ho
            have aR := ak (A1x (g := ah) (o := .cells #[.slice (some ⟨aC, 0, none⟩) aa.length aN, .int .i64 a0_1] 31 (0, 0)) (kb ac) hg (Kd.R_ne HO_102000.out ac.out (by decide)))
            have aT := ak (A1x (g := a2) (o := .cells #[.slice (some b8) ad.length au, .int .i64 ag] 31 (0, 0)) (kb ae) hg (Kd.R_ne HO_102000.out ae.out (by decide)))
            have aU := ak (A1x (g := ar) (o := .cells #[.slice none 0 0, .int .i64 0] 31 (0, 0)) (kb af) hg (Kd.R_ne HO_102000.out af.out (by decide)))
            have aQ := ak (hb)
            have b9 := ak (ho)
            clear ac
            clear ae
            clear af
            clear HB
            clear HO_102000
            have ac := aR
            have ae := aT
            have af := aU
            have HB := aQ
            have bA := b9
            clear aR aT aU aQ b9
            clear ho hb hg hat
            obtain ⟨ck, cm, co⟩ := Kd.A1w bA.out
            (first | subst co | (injection co with f1_ f2_ f3_; have f4_ := f1_.symm; have f5_ := f3_.symm; clear f1_ f2_ f3_; subst f4_; subst f5_))
            refine hK.out _ _ kz (fun hHeld => ?_)
            clear hK K
            refine nm (some 58) (h := ?_)
            refine pu 8 (some 59) (bl 10 511) (h := ?_)
            refine last_ (i := 9) (N := none) (bl 10 1023) rfl rfl (A1h HT_.out (by kernel_rfl)) (by decide) (fun K hK => ?_)
            have ee := (kc2 ac).1
            have dF := A0c ac.out 0
            have cF := ap.out
            have cG := al.out
            have cH := ao.out
            have cI := aj.out
            refine A3k (w1 := ?_) (by rfl) rfl ?_ ?_
            rotate_left
            ·go_simp
             rfl
            refine hK.out _ _ ?_
            clear hK K
            refine A28 (A2a HT_.out (by kernel_rfl)) ?_
            try go_wp2
            go_roundg k1
            case measure => have := d5.out; omega
            case rel => exact ⟨(wrap64 (x34_1 + 1)), (bu), (.slice ck bu.length cm), kE, (by rw [a7]; exact H'), ⟨by have := d5.out; omega⟩, ⟨by (with_reducible repeat (first | apply Kd.A04 | apply Kd.A05 | apply Kd.A0z)); exact Kd.A1g (Kd.A0s (p := ⟨ah, 0, none⟩) (Kd.A1a bA.out ac.out (by decide)) (fun _ hk => hk.2) (.slice ck bu.length cm)) (fun _ hk => trivial)⟩, ⟨(kb ac)⟩, ⟨(kb ae)⟩, ⟨(kb af)⟩, ⟨(kl HB)⟩⟩
           ·rw [if_neg cD] at H
            exact absurd H (by simp)
          ·rw [if_neg ce] at H
           exact absurd H (by simp)
         ·rw [if_neg cc] at H
          exact absurd H (by simp)
        ·rw [if_neg cC] at H
         exact absurd H (by simp)
       ·rw [if_neg cB] at H
        exact absurd H (by simp)
      ·rw [if_neg cA] at H
       exact absurd H (by simp)
     ·rw [if_neg cz] at H
      exact absurd H (by simp)
    ·rw [if_neg bO] at H
     have ca := decide_eq_false bO
     clear bO
     obtain ⟨a4, aI⟩ : ∃ j_ : Int, (wrap64 (Int.tdiv (wrap64 ((wrap64 (a0_1 + ag)) + 7)) 8)) = j_ := ⟨_, rfl⟩
     replace H : (if 0 ≤ (a4) then (if (a4) ≤ (aa.length : Int) then (some ((aa.take ((a4) : Int).toNat), wrap64 (a0_1 + ag))) else (none)) else (none)) = some (r1, r2) := by first | (rw [aI] at H; exact H) | (simp only [aI] at H ⊢; exact H)
     have dj : (IntKind.i64.wrap (Int.tdiv (wrap64 ((wrap64 (a0_1 + ag)) + 7)) 8)) = a4 := (A11 _).trans aI
     by_cases cp : 0 ≤ (a4)
     ·rw [if_pos cp] at H
      have dG := eq_true cp
      have dH := decide_eq_true cp
      clear cp
      by_cases cq : (a4) ≤ (aa.length : Int)
      ·rw [if_pos cq] at H
       have dI := eq_true cq
       have dJ := decide_eq_true cq
       clear cq
       obtain ⟨bb, aD⟩ : ∃ y_ : List Int, y_ = (aa.take ((a4) : Int).toNat) := ⟨_, rfl⟩
       replace H : (some (bb, wrap64 (a0_1 + ag))) = some (r1, r2) := by first | (rw [aD]; with_reducible exact H) | (have H2_ := (Option.bind_some _ _).symm.trans H; rw [aD]; with_reducible exact H2_) | (have H2_ := (Option.bind_some _ _).symm.trans H; with_reducible exact H2_) | with_reducible exact H | (rw [aD]; exact H) | exact H
       have bB := ak aD
       clear aD
       simp only [Option.some.injEq, Prod.mk.injEq] at H
       obtain ⟨rfl, rfl⟩ := H
       have dK := ao.out
       have dL := ap.out
       have dM := aj.out
       have dN := al.out
       obtain ⟨cJ, cK⟩ := kc2 ac
       obtain ⟨cL, cM⟩ := kf2 ac
       have dO := av.out
       have dP := aw.out
       obtain ⟨cN, cO⟩ := kc2 ae
       obtain ⟨cP, cQ⟩ := kf2 ae
       go_wp2_with (first | ((with_reducible refine gate_store (t := 3) (p := 66) rfl ?_); refine store_event (t := 3) (p := 66) (v := ?vo_w58) (w1 := (wr.setCell ⟨ah, 1, none⟩ (.int .i64 (wrap64 (a0_1 + ag))))) ?hg ?ho ?hn ?hr ?_; (case ho => rfl); (case hg => rfl); (case hn => rfl); (case hr => first | (go_simp; done) | (go_simp; rfl)); intro cr hw; have aR : A0b (Kd.R (Kd.int .u8) 5 cr w.heap.size (fun _ => True) a1 aa) := ⟨(by rw [hw]; exact (by (with_reducible repeat (first | apply Kd.A04 | apply Kd.A05 | apply Kd.A0z)); exact Kd.A1g (Kd.A0s (p := ⟨ah, 1, none⟩) (Kd.A1a HO_102000.out ac.out (by decide)) (fun _ hk => hk.2) (.int .i64 (wrap64 (a0_1 + ag)))) (fun _ hk => trivial)))⟩; have aT : A0b (cr.heap[ah]? = some (.cells #[a1, .int .i64 (wrap64 (a0_1 + ag))] 31 (0, 0))) := ⟨(by rw [hw]; exact (kb ac))⟩; have aU : A0b (cr.heap[a2]? = some (.cells #[.slice ax ad.length au, .int .i64 ag] 31 (0, 0))) := ⟨(by rw [hw]; exact (kb ae))⟩; have aQ : A0b (cr.heap[ar]? = some (.cells #[.slice none 0 0, .int .i64 0] 31 (0, 0))) := ⟨(by rw [hw]; exact (kb af))⟩; have b9 : A0b (Below w.heap.size w cr) := ⟨(by rw [hw]; exact (kl HB))⟩; clear hw; clear HO_102000; clear ac; clear ae; clear af; clear HB; have HO_102000 := aR; have ac := aT; have ae := aU; have af := aQ; have HB := b9; clear aR aT aU aQ b9; obtain ⟨cR, cS⟩ := kc2 ac; obtain ⟨cT, cU⟩ := kf2 ac; obtain ⟨bx, bz, dk⟩ := Kd.A1w HO_102000.out; subst dk; have cV : ((a4) : Int) ≤ ((aa.length : Int) : Int) := kD; obtain ⟨ef, bC, _, cs, _⟩ := info_parts infoU8; have bM := cut_to (P := Tryd.prog) 25 5 .i64 Tryd.underlying25 bC bx aa.length bz (a4) kD cV (Kd.A06 HO_102000.out).2.1; have hr61 := Kd.R_take (m := ((a4) : Int).toNat) HO_102000.out (by omega); have ct : bb.length = ((a4) : Int).toNat := (by rw [bB.out, List.length_take]; omega); rw [← bB.out] at hr61; rw [← ct] at hr61 bM; clear ct bC cs HO_102000; have cu := ak hr61; clear hr61; (try (have bN := cV; simp only [List.length_drop, List.length_take] at bN; replace bN := eq_true bN)); replace cV := eq_true cV; obtain ⟨cW, cX⟩ := kc2 af; obtain ⟨cY, cZ⟩ := kf2 af))
       refine bodyPost_ret (results_cell_row rfl _ _ ar 31 #[.slice bx bb.length bz, .int .i64 (wrap64 (a0_1 + ag))] (0, 0) _ rfl (kb af) Tryd.underlying31 rfl (by kernel_rfl)) rfl ?_
       exact ⟨_, by first | rfl | (simp [A0v, A0w] <;> rfl) | (simp only [← aI]; first | rfl | (simp [A0v, A0w] <;> rfl)) | (simp [*, A0v, A0w] <;> rfl), by (with_reducible repeat (first | apply Kd.A04 | apply Kd.A05 | apply Kd.A0z)); exact Kd.A1g (Kd.A0s (p := ⟨ar, 1, none⟩) (Kd.A0s (p := ⟨ar, 0, none⟩) (Kd.A0s (p := ⟨ah, 0, none⟩) (Kd.A1a (Kd.A1a cu.out ac.out (by decide)) af.out (by decide)) (fun _ hk => hk.1.2) (.slice bx bb.length bz)) (fun _ hk => hk.2) (.slice bx bb.length bz)) (fun _ hk => hk.2) (.int .i64 (wrap64 (a0_1 + ag)))) (fun _ hk => trivial), (kl HB)⟩
      ·rw [if_neg cq] at H
       exact absurd H (by simp)
     ·rw [if_neg cp] at H
      exact absurd H (by simp)
end Go.Proofs.YtiahbcaoikoogaaDoor
