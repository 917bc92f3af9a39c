-- copied by a program of the session
import Derived.Test.YtiahbcaoikoogabDoorKnM0
namespace Go.Proofs.YtiahbcaoikoogabDoor
open Go.RowKit Go.Proofs.YtiahbcaoikoogabDoorW.PrintWords Go.Proofs.YtiahbcaoikoogabDoorW.PrintLast Go.Proofs.YtiahbcaoikoogabDoorW.PrintMore
attribute [local go_sem] A2m A2n A25 A26 A2b A2c A2o A2p
set_option linter.unusedVariables false
set_option linter.unusedSimpArgs false
theorem C_lit2 {e : Nat} {w : World} {A0 A1 : Option Addr} {c0 c1 b : Nat} {l0 l1 : List Int} (h0 : Kd.C (Kd.int .u8) w A0 l0.length l0) (h1 : Kd.C (Kd.int .u8) w A1 l1.length l1) (hc0 : l0.length ≤ c0) (hc1 : l1.length ≤ c1)
  (hx : w.cell? ⟨b, 0, none⟩ = some (.slice A0 l0.length c0)) (hy : w.cell? ⟨b, 1, none⟩ = some (.slice A1 l1.length c1)) : Kd.C (Kd.slice e (Kd.int .u8)) w (some ⟨b, 0, none⟩) 2 [l0, l1] := by
 refine ⟨rfl, by omega, fun _ => ⟨_, rfl, fun j p hj => ?_⟩⟩
 rcases j with _ | _ | j
 ·obtain rfl : l0 = p := by simpa using hj
  refine ⟨[.slice A0 l0.length c0], rfl, ⟨A0, c0, rfl, hc0, h0⟩, fun i u hu => ?_⟩
  rcases i with _ | i
  ·obtain rfl := Option.some.inj hu
   rw [add_plain]
   exact hx
  ·simp at hu
 ·obtain rfl : l1 = p := by simpa using hj
  refine ⟨[.slice A1 l1.length c1], rfl, ⟨A1, c1, rfl, hc1, h1⟩, fun i u hu => ?_⟩
  rcases i with _ | i
  ·obtain rfl := Option.some.inj hu
   rw [add_plain]
   exact hy
  ·simp at hu
 ·simp at hj
def A1c.l0 : Nat → Int → List Int → Int → Int → List Int → Int → List Int → Int → Option (List Int × Int)
 | 0, _, _, _, _, _, _, _, _ => none
 | k + 1, x5, ah, ai, af, aa, ac, ae, ad => if af < ai then (if 0 ≤ af then (if af < (ah.length : Int) then (if 0 ≤ (wrap64 ((aa.length : Int) - 1)) then (if (wrap64 ((aa.length : Int) - 1)) < (aa.length : Int) then (if 0 ≤ x5 then ((some (aa.set ((wrap64 ((aa.length : Int) - 1)) : Int).toNat (Go.bits .or .u8 (rd aa (wrap64 ((aa.length : Int) - 1))) (shr .u8 (rd ah af) x5)) : List Int)).bind fun ag => (if 0 ≤ (wrap64 (8 - x5)) then (if ag.length < 140737488355328 then (A1c.l0 k x5 ah ai (wrap64 (af + 1)) (ag ++ [shl .u8 (rd ah af) (wrap64 (8 - x5))]) ac ae ad) else (none)) else (none))) else (none)) else (none)) else (none)) else (none)) else (none)) else (if 0 ≤ (wrap64 (Int.tdiv (wrap64 ((wrap64 (ac + ad)) + 7)) 8)) then (if (wrap64 (Int.tdiv (wrap64 ((wrap64 (ac + ad)) + 7)) 8)) ≤ (aa.length : Int) then (some ((aa.take ((wrap64 (Int.tdiv (wrap64 ((wrap64 (ac + ad)) + 7)) 8)) : Int).toNat), wrap64 (ac + ad))) else (none)) else (none))
def A1c.f (k : Nat) (ad : List Int) (aa : Int) (ac : List Int) (ae : Int) : Option (List Int × Int) := if (Int.tmod aa 8) = 0 then ((A2j.f [ad, ac]).bind fun af => (some (af, wrap64 (aa + ae)))) else ((A10.f ad).bind fun ag => (A1c.l0 k (Int.tmod aa 8) ac (ac.length : Int) 0 ag aa ac ae))
def A1c.T2 : Bool × List (List Nat × List Nat) := (true, [([], []), ([0], [0]), ([], []), ([2], [2]), ([1, 3], [1, 3]), ([4], [4]), ([], []), ([6], [6]), ([], []), ([8], [8]), ([7, 9], [7, 9]), ([5, 10], [5, 10]), ([11, 5, 0, 1, 2, 3, 4, 5, 6, 7, 8, 9, 10, 11], [11])])
def A1c.B2 : List Nat := [0, 1, 0, 4, 15, 31, 0, 64, 0, 256, 960, 2047, 4095]
theorem A1c.tab2 : rtab .any (opsOf Tryd.f23 2) = A1c.T2 := by kernel_rfl
theorem A1c.bits2 : A3g A1c.T2.2 A1c.B2 = true := by kernel_rfl
def A1c.T8 : Bool × List (List Nat × List Nat) := (true, [([], []), ([0], [0]), ([], []), ([2], [2]), ([3], [3]), ([4], [4]), ([1, 5], [1, 5]), ([6], [6]), ([], []), ([], []), ([8, 9], [8, 9]), ([7, 10], [7, 10]), ([1, 5, 0, 1, 2, 3, 4, 5, 6, 7, 8, 9, 10, 11], [1, 5]), ([12, 11, 0, 1, 2, 3, 4, 5, 6, 7, 8, 9, 10, 11], [11, 12])])
def A1c.B8 : List Nat := [0, 1, 0, 4, 12, 28, 63, 127, 0, 0, 768, 2047, 4095, 8191]
theorem A1c.tab8 : rtab .any (opsOf Tryd.f23 8) = A1c.T8 := by kernel_rfl
theorem A1c.bits8 : A3g A1c.T8.2 A1c.B8 = true := by kernel_rfl
def A1c.T9 : Bool × List (List Nat × List Nat) := (true, [([], []), ([0], [0]), ([], []), ([], []), ([3], [3]), ([2, 4], [2, 4]), ([5], [5]), ([1, 6], [1, 6]), ([0, 1, 2, 3, 4, 5, 6, 7], []), ([8, 7, 7, 0, 1, 2, 3, 4, 5, 6, 7], [7, 8])])
def A1c.B9 : List Nat := [0, 1, 0, 0, 8, 28, 60, 127, 255, 511]
theorem A1c.tab9 : rtab .any (opsOf Tryd.f23 9) = A1c.T9 := by kernel_rfl
theorem A1c.bits9 : A3g A1c.T9.2 A1c.B9 = true := by kernel_rfl
set_option maxHeartbeats 8000000 in
set_option maxRecDepth 100000 in
theorem A1c.calls (k : Nat) (az : Option Addr) (a1 : Nat) (an : List Int) (ag : Int) (ay : Option Addr) (av : Nat) (ad : List Int) (ah : Int) (r1 : List Int) (r2 : Int) (w : World) (hr0_0 : Kd.C (Kd.int .u8) w az an.length an) (hc0_0 : an.length ≤ a1) (hr1_0 : Kd.C (Kd.int .u8) w ay ad.length ad) (hc1_0 : ad.length ≤ av) (h : A1c.f k an ag ad ah = some (r1, r2)) :
  Calls Tryd.prog 23 #[.agg #[.slice az an.length a1, .int .i64 ag], .agg #[.slice ay ad.length av, .int .i64 ah]] w fun e w' => ∃ dm : Value, e = .returned (.agg #[dm, .int .i64 r2]) ∧ Kd.R (Kd.int .u8) 5 w' w.heap.size (fun _ => True) dm r1 ∧ Below w.heap.size w w' := by
 have hu56 := Tryd.underlying56
 have b1 := ak hr0_0
 have b2 := ak hc0_0
 clear hr0_0 hc0_0
 have b3 := ak hr1_0
 have bR := ak hc1_0
 clear hr1_0 hc1_0
 have HB := ak (Below.refl w.heap.size w)
 have H : (if (Int.tmod ag 8) = 0 then ((A2j.f [an, ad]).bind fun aK => (some (aK, wrap64 (ag + ah)))) else ((A10.f an).bind fun aG => (A1c.l0 k (Int.tmod ag 8) ad (ad.length : Int) 0 aG ag ad ah))) = some (r1, r2) := h
 clear h
 by_cases c3 : (Int.tmod ag 8) = 0
 ·rw [if_pos c3] at H
  have bE : ((Int.tmod ag 8) == 0) = true := beq_iff_eq.mpr c3
  have bF : ((Int.tmod ag 8) != 0) = false := bne_eq_false_iff_eq.mpr c3
  clear c3
  replace H := Option.bind_eq_some_iff.mp H
  obtain ⟨aK, dn, H⟩ := H
  replace H : (some (aK, wrap64 (ag + ah))) = some (r1, r2) := H
  have A4 := ak dn
  clear dn
  simp only [Option.some.injEq, Prod.mk.injEq] at H
  obtain ⟨rfl, rfl⟩ := H
  go_enter Tryd.func23, Tryd.ntmps23
  try go_wp2_with (first | ((with_reducible refine A0p (N := 2) rfl ?_); refine bxe 2 #[.slice az an.length a1, .int .i64 ag] 56 (h := ?_); intro ai hg w5 hbox hb; have ac := ak (hbox); have bS := kG hg HB; have b4 := kG hg HB; replace HB := kH HB hb; clear hb hbox hg) | ((with_reducible refine A0p (N := 3) rfl ?_); refine bxe 3 #[.slice ay ad.length av, .int .i64 ah] 56 (h := ?_); intro a3 hg w6 hbox hb; have ae := ak (hbox); have bT := kG hg HB; have b5 := kG hg HB; replace HB := kH HB hb; obtain ⟨ap, aq⟩ := kN hg ac; replace ac := kB ac hb; clear hb hbox hg) | ((with_reducible refine A0p (N := 4) rfl ?_); refine bxe 4 #[.slice none 0 0, .int .i64 0] 56 (h := ?_); intro au hg w7 hbox hb; have af := ak (hbox); have bU := kG hg HB; have b6 := kG hg HB; replace HB := kH HB hb; obtain ⟨al, am⟩ := kN hg ac; replace ac := kB ac hb; obtain ⟨aw, ax⟩ := kN hg ae; replace ae := kB ae hb; clear hb hbox hg; have dR := ap.out; have dS := aq.out; have dT := al.out; have dU := am.out; obtain ⟨be, bf⟩ := kc2 ac; obtain ⟨bg, bh⟩ := kf2 ac))
  replace ac := ak (A0i ac.out)
  replace ae := ak (A0i ae.out)
  replace af := ak (A0i af.out)
  replace HB := ak (A0g HB.out)
  refine A2h (n := 13) (S := fun w' => w'.cell? ⟨ai, 0, none⟩ = some (.slice az an.length a1) ∧ w'.cell? ⟨ai, 1, none⟩ = some (.int .i64 ag) ∧ w'.cell? ⟨a3, 0, none⟩ = some (.slice ay ad.length av) ∧ w'.cell? ⟨a3, 1, none⟩ = some (.int .i64 ah)) (ds := []) (bl 13 0) (by kernel_rfl) rfl rfl kz (fun hHeld => ?_); refine A2d A1c.tab2 A1c.bits2 (fun HT_ HW_ => ?_)
  generalize w7.drew = aM at ac ae af HB hHeld ⊢
  refine pu 0 (some 12) (bl 13 1) (h := ?_)
  refine pu 2 (some 14) (bl 13 5) (h := ?_)
  refine pu 6 (some 18) (bl 13 69) (h := ?_)
  refine pu 8 (some 20) (bl 13 325) (h := ?_)
  refine ta 1 (some 13) (bl 13 327) (h := ?_)
  refine ta 3 (some 15) (bl 13 335) (h := ?_)
  refine ta 7 (some 19) (bl 13 463) (h := ?_)
  refine ta 9 (some 21) (bl 13 975) (h := ?_)
  refine pu 10 (some 22) (bl 13 1999) (h := ?_)
  refine one_ (i := 4) (N := some 16) (bl 13 2015) rfl rfl (A18 HT_.out (by kernel_rfl)) (by decide) (fun K hK => ?_)
  refine event_step (by rfl) (w1 := aM.alloc (.cells #[.slice az an.length a1, .slice ay ad.length av] 23)) (v := .slice (some ⟨aM.heap.size, 0, none⟩) 2 2) (by go_simp) ?_
  have hb : Below aM.heap.size aM (aM.alloc (.cells #[.slice az an.length a1, .slice ay ad.length av] 23)) := A0o (Below.refl _ _) _
  have aT := ak (A1d (g := ai) (o := .cells #[.slice az an.length a1, .int .i64 ag] 56 (0, 0)) ac.out hb)
  have aU := ak (A1d (g := a3) (o := .cells #[.slice ay ad.length av, .int .i64 ah] 56 (0, 0)) ae.out hb)
  have aV := ak (A1d (g := au) (o := .cells #[.slice none 0 0, .int .i64 0] 56 (0, 0)) af.out hb)
  have aR := ak (A0t HB.out hb)
  have hw_ : Below w.heap.size w (aM.alloc (.cells #[.slice az an.length a1, .slice ay ad.length av] 23)) := aR.out
  have CL : A0e (Kd.C (Kd.slice 5 (Kd.int .u8)) (aM.alloc (.cells #[.slice az an.length a1, .slice ay ad.length av] 23)) (some ⟨aM.heap.size, 0, none⟩) 2 [an, ad]) := ⟨C_lit2 (Kd.A2g b1.out hw_) (Kd.A2g b3.out hw_) b2.out bR.out ((A2l (blk_new aM (.cells #[.slice az an.length a1, .slice ay ad.length av] 23)) 0).trans rfl) ((A2l (blk_new aM (.cells #[.slice az an.length a1, .slice ay ad.length av] 23)) 1).trans rfl)⟩
  clear ac
  clear ae
  clear af
  clear HB hw_ hb
  have ac := aT
  have ae := aU
  have af := aV
  have HB := aR
  clear aT aU aV aR
  generalize (aM.alloc (.cells #[.slice az an.length a1, .slice ay ad.length av] 23)) = wl_ at ac ae af HB CL ⊢
  refine hK.out _ _ kz (fun hHeld => ?_)
  clear hK K
  refine nm (some 16) (h := ?_)
  refine one_ (i := 5) (N := some 17) (bl 13 2047) rfl rfl (A18 HT_.out (by kernel_rfl)) (by decide) (fun K hK => ?_)
  refine goes_ Tryd.func37 (by kernel_rfl) rfl #[.slice (some ⟨aM.heap.size, 0, none⟩) 2 2] (by rfl) rfl rfl km ?_
  refine (A2j.calls (some ⟨aM.heap.size, 0, none⟩) 2 [an, ad] aK _ ?aW ?aX A4.out).mono ?_
  (case aW => exact CL.out)
  (case aX => exact Nat.le_refl _)
  rintro e eh ⟨dV, rfl, ho0, hb⟩
  refine ⟨_, rfl, ?_⟩
  have b7 := ak (Kd.A14 ho0 (A0y (kl HB)))
  replace ac := kB ac hb
  replace ae := kB ae hb
  replace af := kB af hb
  replace HB := kH HB hb
  (try clear hb)
  
  
  
  
  (try clear ho0)
  obtain ⟨bV, bW, bX⟩ := Kd.A1t b7.out
  (first | subst bX | (injection bX with f1_ f2_ f3_; have f4_ := f1_.symm; have f5_ := f3_.symm; clear f1_ f2_ f3_; subst f4_; subst f5_))
  refine hK.out _ _ kz (fun hHeld => ?_)
  clear hK K
  refine nm (some 17) (h := ?_)
  refine pu 11 (some 23) (bl 13 4095) (h := ?_)
  refine one_ (i := 12) (N := none) (bl 13 8191) rfl rfl (A18 HT_.out (by kernel_rfl)) (by decide) (fun K hK => ?_)
  have dW := (kc2 af).1
  have dp := A0b af.out 0
  have cw := al.out
  have cx := aw.out
  have cy := am.out
  have cz := ax.out
  have dX := (kc2 af).2
  have dq := A0b af.out 1
  refine A20 (w1 := ?_) (by rfl) rfl ?_ ?_
  rotate_left
  ·go_simp
   rfl
  refine hK.out _ _ (ks hHeld) (fun hHeld => ?_)
  clear hK K
  refine A3b (A27 HT_.out (by kernel_rfl)) ?_
  try go_wp2
  refine bodyPost_ret (results_cell_row rfl _ _ au 56 #[.slice bV aK.length bW, .int .i64 (wrap64 (ag + ah))] (0, 0) _ rfl (kb af) Tryd.underlying56 rfl (by kernel_rfl)) rfl ?_
  exact ⟨_, kF, by (with_reducible repeat (first | apply Kd.A08 | apply Kd.A09 | apply Kd.A1b)); exact Kd.A1e (Kd.A0k (p := ⟨au, 1, none⟩) (Kd.A0k (p := ⟨au, 0, none⟩) (Kd.A00 b7.out af.out (by decide)) (fun _ hk => hk.2) (.slice bV aK.length bW)) (fun _ hk => hk.2) (.int .i64 (wrap64 (ag + ah)))) (fun _ hk => trivial), (kl HB)⟩
 ·rw [if_neg c3] at H
  have bE : ((Int.tmod ag 8) == 0) = false := beq_eq_false_iff_ne.mpr c3
  have bF : ((Int.tmod ag 8) != 0) = true := bne_iff_ne.mpr c3
  replace H := Option.bind_eq_some_iff.mp H
  obtain ⟨aG, bY, H⟩ := H
  replace H : (A1c.l0 k (Int.tmod ag 8) ad (ad.length : Int) 0 aG ag ad ah) = some (r1, r2) := H
  have dY := ak bY
  clear bY
  have H' := ak H
  clear H
  go_enter Tryd.func23, Tryd.ntmps23
  go_wp2_with (first | ((with_reducible refine A0p (N := 2) rfl ?_); refine bxe 2 #[.slice az an.length a1, .int .i64 ag] 56 (h := ?_); intro ai hg ei hbox hb; have ac := ak (hbox); have bS := kG hg HB; have b4 := kG hg HB; replace HB := kH HB hb; clear hb hbox hg) | ((with_reducible refine A0p (N := 3) rfl ?_); refine bxe 3 #[.slice ay ad.length av, .int .i64 ah] 56 (h := ?_); intro a3 hg ej hbox hb; have ae := ak (hbox); have bT := kG hg HB; have b5 := kG hg HB; replace HB := kH HB hb; obtain ⟨ap, aq⟩ := kN hg ac; replace ac := kB ac hb; clear hb hbox hg) | ((with_reducible refine A0p (N := 4) rfl ?_); refine bxe 4 #[.slice none 0 0, .int .i64 0] 56 (h := ?_); intro au hg ek hbox hb; have af := ak (hbox); have bU := kG hg HB; have b6 := kG hg HB; replace HB := kH HB hb; obtain ⟨al, am⟩ := kN hg ac; replace ac := kB ac hb; obtain ⟨aw, ax⟩ := kN hg ae; replace ae := kB ae hb; clear hb hbox hg; have dr := ap.out; have du := aq.out; have dw := al.out; have dz := am.out; obtain ⟨bi, bj⟩ := kc2 ac; obtain ⟨bk, bm⟩ := kf2 ac) | ((with_reducible refine A0f (f := 38) rfl ?_); refine A03 (some 26) rfl rfl Tryd.func38 (by kernel_rfl) rfl #[.slice az an.length a1] rfl km ?_; (with_reducible refine (A10.calls _ _ an aG _ ?aW ?aX dY.out).mono ?_); (case aW => repeat (first | exact (Kd.A2g b1.out HB.out) | (with_reducible refine Kd.A1v ?_ _) | (with_reducible refine Kd.A1w ?_ _) | (with_reducible refine Kd.A2e ?_))); (case aX => exact b2.out); rintro e el ⟨dZ, rfl, ho0, hb⟩; refine ⟨_, rfl, ?_⟩; have b8 := ak (Kd.A14 ho0 (A0y (kl HB))); replace ac := kB ac hb; replace ae := kB ae hb; replace af := kB af hb; replace HB := kH HB hb; (try clear hb); (try clear ho0); obtain ⟨bZ, ca, db⟩ := Kd.A1t b8.out; subst db; obtain ⟨bn, bo⟩ := kc2 ac; obtain ⟨bp, bq⟩ := kf2 ac; have d0 := aw.out; have d5 := ax.out; obtain ⟨br, bs⟩ := kc2 ae; obtain ⟨bt, bu⟩ := kf2 ae))
  go_loopg [34] k (fun kq ea w' => ∃ (x34_1 : Int) (aa : List Int) (a2 : Value), ea = .int .i64 x34_1 ∧ A0e (A1c.l0 kq (Int.tmod ag 8) ad (ad.length : Int) x34_1 aa ag ad ah = some (r1, r2)) ∧ A0e (kq ≤ k) ∧ A0e (Kd.R (Kd.int .u8) 5 w' w.heap.size (fun _ => True) a2 aa) ∧ A0e (w'.heap[ai]? = some (.cells #[a2, .int .i64 ag] 56 (0, 0))) ∧ A0e (w'.heap[a3]? = some (.cells #[(.slice ay ad.length av), .int .i64 ah] 56 (0, 0))) ∧ A0e (w'.heap[au]? = some (.cells #[(.slice none 0 0), .int .i64 0] 56 (0, 0))) ∧ A0e (Below w.heap.size w w'))
  case atStart => exact ⟨(0), (aG), (.slice bZ aG.length ca), kE, H', ⟨Nat.le_refl _⟩, ⟨by (with_reducible repeat (first | apply Kd.A08 | apply Kd.A09 | apply Kd.A1b)); exact Kd.A1e (Kd.A0k (p := ⟨ai, 0, none⟩) (Kd.A00 b8.out ac.out (by decide)) (fun _ hk => hk.2) (.slice bZ aG.length ca)) (fun _ hk => trivial)⟩, ⟨(kb ac)⟩, ⟨(kb ae)⟩, ⟨(kb af)⟩, ⟨(kl HB)⟩⟩
  case round =>
   clear H'
   try clear c1
   try clear c2
   try clear p2
   try clear c3
   try clear bE
   try clear bF
   try clear p6
   try clear c8
   try clear c9
   try clear em
   try clear en
   try clear eo
   try clear ep
   try clear be
   try clear bf
   try clear bi
   try clear bj
   try clear bn
   try clear bo
   try clear br
   try clear bs
   try clear bg
   try clear bh
   try clear bk
   try clear bm
   try clear bp
   try clear bq
   try clear bt
   try clear bu
   obtain ⟨x34_1, aa, a2, rfl, HA, d6, HO_102000, ac, ae, af, HB⟩ := hrel
   cases gk with
   | zero => exact absurd HA.out (by simp [A1c.l0])
   | succ k1 =>
    have H := HA.out
    clear HA
    simp only [A1c.l0] at H
    by_cases bP : x34_1 < (ad.length : Int)
    ·rw [if_pos bP] at H
     have cc := decide_eq_true bP
     clear bP
     by_cases cA : 0 ≤ x34_1
     ·rw [if_pos cA] at H
      have d7 := decide_eq_true cA
      clear cA
      by_cases cB : x34_1 < (ad.length : Int)
      ·rw [if_pos cB] at H
       have d8 := decide_eq_true cB
       clear cB
       obtain ⟨aj, aY⟩ : ∃ j_ : Int, (wrap64 ((aa.length : Int) - 1)) = j_ := ⟨_, rfl⟩
       replace H : (if 0 ≤ (aj) then (if (aj) < (aa.length : Int) then (if 0 ≤ (Int.tmod ag 8) then ((some (aa.set ((aj) : Int).toNat (Go.bits .or .u8 (rd aa (aj)) (shr .u8 (rd ad x34_1) (Int.tmod ag 8))) : List Int)).bind fun ar => (if 0 ≤ (wrap64 (8 - (Int.tmod ag 8))) then (if ar.length < 140737488355328 then (A1c.l0 k1 (Int.tmod ag 8) ad (ad.length : Int) (wrap64 (x34_1 + 1)) (ar ++ [shl .u8 (rd ad x34_1) (wrap64 (8 - (Int.tmod ag 8)))]) ag ad ah) else (none)) else (none))) else (none)) else (none)) else (none)) = some (r1, r2) := by first | (rw [aY] at H; exact H) | (simp only [aY] at H ⊢; exact H)
       have dc : (IntKind.i64.wrap ((aa.length : Int) - 1)) = aj := (A2w _).trans aY
       by_cases cC : 0 ≤ (aj)
       ·rw [if_pos cC] at H
        have d9 := decide_eq_true cC
        clear cC
        by_cases cD : (aj) < (aa.length : Int)
        ·rw [if_pos cD] at H
         have dA := decide_eq_true cD
         clear cD
         obtain ⟨ao, a8⟩ : ∃ j_ : Int, (Int.tmod ag 8) = j_ := ⟨_, rfl⟩
         replace H : (if 0 ≤ (ao) then ((some (aa.set ((aj) : Int).toNat (Go.bits .or .u8 (rd aa (aj)) (shr .u8 (rd ad x34_1) (ao))) : List Int)).bind fun ar => (if 0 ≤ (wrap64 (8 - (ao))) then (if ar.length < 140737488355328 then (A1c.l0 k1 (ao) ad (ad.length : Int) (wrap64 (x34_1 + 1)) (ar ++ [shl .u8 (rd ad x34_1) (wrap64 (8 - (ao)))]) ag ad ah) else (none)) else (none))) else (none)) = some (r1, r2) := by first | (rw [a8] at H; exact H) | (simp only [a8] at H ⊢; exact H)
         (try rw [a8] at bE)
         (try rw [a8] at bF)
         by_cases cd : 0 ≤ (ao)
         ·rw [if_pos cd] at H
          have dB := eq_true cd
          have dC := decide_eq_true cd
          clear cd
          obtain ⟨aN, aH⟩ : ∃ j_ : Int, (shr .u8 (rd ad x34_1) (ao)) = j_ := ⟨_, rfl⟩
          replace H : ((some (aa.set ((aj) : Int).toNat (Go.bits .or .u8 (rd aa (aj)) (aN)) : List Int)).bind fun ar => (if 0 ≤ (wrap64 (8 - (ao))) then (if ar.length < 140737488355328 then (A1c.l0 k1 (ao) ad (ad.length : Int) (wrap64 (x34_1 + 1)) (ar ++ [shl .u8 (rd ad x34_1) (wrap64 (8 - (ao)))]) ag ad ah) else (none)) else (none))) = some (r1, r2) := by first | (rw [aH] at H; exact H) | (simp only [aH] at H ⊢; exact H)
          have dd : ((rd ad x34_1) / 2 ^ min (ao).toNat 8) = aN := aH
          have de : (ao) ≤ 8 → ((rd ad x34_1) / 2 ^ (ao).toNat) = aN := shr_small aH
          obtain ⟨ar, a9⟩ : ∃ y_ : List Int, y_ = (aa.set ((aj) : Int).toNat (Go.bits .or .u8 (rd aa (aj)) (aN))) := ⟨_, rfl⟩
          replace H : (if 0 ≤ (wrap64 (8 - (ao))) then (if ar.length < 140737488355328 then (A1c.l0 k1 (ao) ad (ad.length : Int) (wrap64 (x34_1 + 1)) (ar ++ [shl .u8 (rd ad x34_1) (wrap64 (8 - (ao)))]) ag ad ah) else (none)) else (none)) = some (r1, r2) := by first | (rw [a9]; with_reducible exact H) | (have H2_ := (Option.bind_some _ _).symm.trans H; rw [a9]; with_reducible exact H2_) | (have H2_ := (Option.bind_some _ _).symm.trans H; with_reducible exact H2_) | with_reducible exact H | (rw [a9]; exact H) | exact H
          have ce := ak a9
          clear a9
          obtain ⟨a4, aZ⟩ : ∃ j_ : Int, (wrap64 (8 - (ao))) = j_ := ⟨_, rfl⟩
          replace H : (if 0 ≤ (a4) then (if ar.length < 140737488355328 then (A1c.l0 k1 (ao) ad (ad.length : Int) (wrap64 (x34_1 + 1)) (ar ++ [shl .u8 (rd ad x34_1) (a4)]) ag ad ah) else (none)) else (none)) = some (r1, r2) := by first | (rw [aZ] at H; exact H) | (simp only [aZ] at H ⊢; exact H)
          have df : (IntKind.i64.wrap (8 - (ao))) = a4 := (A2w _).trans aZ
          by_cases cf : 0 ≤ (a4)
          ·rw [if_pos cf] at H
           have dD := eq_true cf
           have dE := decide_eq_true cf
           clear cf
           obtain ⟨aA, aI⟩ : ∃ j_ : Int, (shl .u8 (rd ad x34_1) (a4)) = j_ := ⟨_, rfl⟩
           replace H : (if ar.length < 140737488355328 then (A1c.l0 k1 (ao) ad (ad.length : Int) (wrap64 (x34_1 + 1)) (ar ++ [aA]) ag ad ah) else (none)) = some (r1, r2) := by first | (rw [aI] at H; exact H) | (simp only [aI] at H ⊢; exact H)
           have bG : (IntKind.u8.wrap ((rd ad x34_1) * 2 ^ min (a4).toNat 8)) = aA := aI
           have bH : (a4) ≤ 8 → (IntKind.u8.wrap ((rd ad x34_1) * 2 ^ (a4).toNat)) = aA := A3p aI
           have dg : ((rd ad x34_1) * 2 ^ min (a4).toNat 8) % 256 = aA := (IntKind.wrap_u8 _).symm.trans bG
           have dh : (a4) ≤ 8 → ((rd ad x34_1) * 2 ^ (a4).toNat) % 256 = aA := fun h_ => (IntKind.wrap_u8 _).symm.trans (bH h_)
           by_cases cE : ar.length < 140737488355328
           ·rw [if_pos cE] at H
            have LMc41 := ak cE
            clear cE
            obtain ⟨bv, aC⟩ : ∃ y_ : List Int, y_ = (ar ++ [aA]) := ⟨_, rfl⟩
            replace H : (A1c.l0 k1 (ao) ad (ad.length : Int) (wrap64 (x34_1 + 1)) bv ag ad ah) = some (r1, r2) := by first | (rw [aC]; with_reducible exact H) | (have H2_ := (Option.bind_some _ _).symm.trans H; rw [aC]; with_reducible exact H2_) | (have H2_ := (Option.bind_some _ _).symm.trans H; with_reducible exact H2_) | with_reducible exact H | (rw [aC]; exact H) | exact H
            have cg := ak aC
            clear aC
            have H' := ak H
            clear H
            have bI : 0 ≤ (x34_1 : Int) := kD
            have bw : x34_1 < (ad.length : Int) := kD
            obtain ⟨b9, di, a6⟩ := Kd.at_int b3.out x34_1 bI bw
            cases di
            replace a6 := (HB.out.cell (World.block_lt_of_cell? w _ a6)).trans a6
            replace bI := eq_true bI
            (try (have ba := bw; simp only [List.length_drop, List.length_take] at ba; replace ba := eq_true ba)); replace bw := eq_true bw
            try go_wp2
            replace HO_102000 := ak (Kd.A1b HO_102000.out)
            replace ac := ak (A0i ac.out)
            replace ae := ak (A0i ae.out)
            replace af := ak (A0i af.out)
            replace HB := ak (A0g HB.out)
            obtain ⟨eb, aQ, ch⟩ := Kd.A1t HO_102000.out
            (first | subst ch | (injection ch with f1_ f2_ f3_; have f4_ := f1_.symm; have f5_ := f3_.symm; clear f1_ f2_ f3_; subst f4_; subst f5_))
            have bJ : 0 ≤ ((aj) : Int) := kD
            have bx : (aj) < (aa.length : Int) := kD
            obtain ⟨dF, dj, a7⟩ := Kd.at_int (Kd.A07 HO_102000.out).2.2 (aj) bJ bx
            cases dj
            replace bJ := eq_true bJ
            (try (have bb := bx; simp only [List.length_drop, List.length_take] at bb; replace bb := eq_true bb)); replace bx := eq_true bx
            have p37 : 0 ≤ ((aj) : Int) := kD
            have cF : ((aj) : Int) < ((aa.length : Int) : Int) := kD
            obtain ⟨aD, ec, ci, cj, gl37, cl37, HG37⟩ := Kd.R_form HO_102000.out (by omega)
            (first | cases ci | (injection ci with ea_ en_ ec_; (first | subst ea_ | (injection ea_ with ea_; subst ea_)); subst ec_; clear en_))
            have GB37 := ak cj
            have GG37 := ak HG37
            clear cj gl37 HG37
            (first | simp only [add_plain] at a7 | skip)
            obtain ⟨bK, bL⟩ := Kd.R_celln 0 HO_102000.out ((aj) : Int) p37 cF
            replace p37 := eq_true p37
            (try (have bM := cF; simp only [List.length_drop, List.length_take] at bM; replace bM := eq_true bM)); replace cF := eq_true cF
            have HP44 := Kd.R_putn HO_102000.out ((aj) : Int) (Go.bits .or .u8 (rd aa (aj)) (aN))
            rw [← ce.out] at HP44
            have ck := ak HP44
            clear HP44
            refine A2h (n := 14) (S := fun w' => w'.cell? ⟨ai, 0, none⟩ = some (.slice (some ⟨aD, 0, none⟩) aa.length aQ) ∧ w'.cell? ⟨ai, 1, none⟩ = some (.int .i64 ag) ∧ w'.cell? ⟨aD, ((aj)).toNat, none⟩ = some (.int .u8 (rd aa (aj)))) (ds := [13]) (bl 14 0) (by kernel_rfl) rfl rfl ⟨(A2l ac.out 0).trans rfl, (A2l ac.out 1).trans rfl, a7⟩ (fun hHeld => ?_); refine A2d A1c.tab8 A1c.bits8 (fun HT_ HW_ => ?_)
            generalize wr.drew = ed at HO_102000 ac ae af HB GG37 ck bL a7 bK hHeld ⊢
            refine pu 0 (some 38) (bl 14 1) (h := ?_)
            refine pu 2 (some 40) (bl 14 5) (h := ?_)
            refine pu 8 (some 46) (bl 14 261) (h := ?_)
            refine pu 9 (some 47) (bl 14 773) (h := ?_)
            refine pu 10 (some 48) (bl 14 1797) (h := ?_)
            refine ta 1 (some 39) (bl 14 1799) (h := ?_)
            refine ta 3 (some 41) (bl 14 1807) (h := ?_)
            refine pu 4 (some 42) (bl 14 1823) (h := ?_)
            refine pu 5 (some 43) (bl 14 1855) (h := ?_)
            refine pu 6 (some 44) (bl 14 1919) (h := ?_)
            refine ta 7 (some 45) (bl 14 2047) (h := ?_)
            refine pu 11 (some 49) (bl 14 4095) (h := ?_)
            refine pu 12 (some 50) (bl 14 8191) (h := ?_)
            refine last_ (i := 13) (N := none) (bl 14 16383) rfl rfl (A18 HT_.out (by kernel_rfl)) (by decide) (fun K hK => ?_)
            refine A20 (w1 := ?_) (by rfl) rfl ?_ ?_
            rotate_left
            ·go_simp
             rfl
            refine hK.out _ _ ?_
            clear hK K
            refine A3b (A27 HT_.out (by kernel_rfl)) ?_
            generalize hw_ : (ed.setCell ⟨aD, ((aj) : Int).toNat, none⟩ (.int .u8 (Go.bits .or .u8 (rd aa (aj)) (aN)))) = bQ
            have aT : A0e (Kd.R (Kd.int .u8) 5 bQ w.heap.size (fun _ => True) (.slice (some ⟨aD, 0, none⟩) aa.length aQ) ar) := ⟨by rw [← hw_]; (with_reducible repeat (first | apply Kd.A08 | apply Kd.A09 | apply Kd.A1b)); exact ck.out⟩
            have aU : A0e (bQ.heap[ai]? = some (.cells #[.slice (some ⟨aD, 0, none⟩) aa.length aQ, .int .i64 ag] 56 (0, 0))) := ⟨by rw [← hw_]; (with_reducible repeat (first | refine A2v ?_ _ | refine A0i ?_ | refine A2q ?_ _)); refine blk_far ?_ (by have h_ := Kd.R_ne HO_102000.out ac.out (by decide); intro e_; exact h_ (by rw [e_]; rfl)) _; (with_reducible repeat (first | refine A2v ?_ _ | refine A0i ?_ | refine A2q ?_ _)); exact ac.out⟩
            have aV : A0e (bQ.heap[a3]? = some (.cells #[.slice (some b9) ad.length av, .int .i64 ah] 56 (0, 0))) := ⟨by rw [← hw_]; (with_reducible repeat (first | refine A2v ?_ _ | refine A0i ?_ | refine A2q ?_ _)); refine blk_far ?_ (by have h_ := Kd.R_ne HO_102000.out ae.out (by decide); intro e_; exact h_ (by rw [e_]; rfl)) _; (with_reducible repeat (first | refine A2v ?_ _ | refine A0i ?_ | refine A2q ?_ _)); exact ae.out⟩
            have aR : A0e (bQ.heap[au]? = some (.cells #[.slice none 0 0, .int .i64 0] 56 (0, 0))) := ⟨by rw [← hw_]; (with_reducible repeat (first | refine A2v ?_ _ | refine A0i ?_ | refine A2q ?_ _)); refine blk_far ?_ (by have h_ := Kd.R_ne HO_102000.out af.out (by decide); intro e_; exact h_ (by rw [e_]; rfl)) _; (with_reducible repeat (first | refine A2v ?_ _ | refine A0i ?_ | refine A2q ?_ _)); exact af.out⟩
            have bA : A0e (Below w.heap.size w bQ) := ⟨by rw [← hw_]; repeat (first | (with_reducible first | exact HB.out | apply A0o | apply A0h | apply A0g | refine A0c ?_ GB37.out | refine A0c ?_ b4.out | refine A0c ?_ b5.out | refine A0c ?_ b6.out) | exact HB.out)⟩
            (try clear HO_102000)
            (try clear ac)
            (try clear ae)
            (try clear af)
            (try clear HB)
            clear hw_
            have HO_102000 := aT
            have ac := aU
            have ae := aV
            have af := aR
            have HB := bA
            clear aT aU aV aR bA
            try go_wp2
            replace HO_102000 := ak (Kd.A1b HO_102000.out)
            replace ac := ak (A0i ac.out)
            replace ae := ak (A0i ae.out)
            replace af := ak (A0i af.out)
            replace HB := ak (A0g HB.out)
            refine A2h (n := 10) (S := fun w' => w'.cell? ⟨ai, 0, none⟩ = some (.slice (some ⟨aD, 0, none⟩) aa.length aQ) ∧ w'.cell? ⟨ai, 1, none⟩ = some (.int .i64 ag)) (ds := [9]) (bl 10 0) (by kernel_rfl) rfl rfl kz (fun hHeld => ?_); refine A2d A1c.tab9 A1c.bits9 (fun HT_ HW_ => ?_)
            generalize bQ.drew = er at HO_102000 ac ae af HB hHeld ⊢
            refine pu 0 (some 51) (bl 10 1) (h := ?_)
            refine pu 2 (some 53) (bl 10 5) (h := ?_)
            refine pu 3 (some 54) (bl 10 13) (h := ?_)
            refine pu 4 (some 55) (bl 10 29) (h := ?_)
            refine pu 5 (some 56) (bl 10 61) (h := ?_)
            refine ta 1 (some 52) (bl 10 63) (h := ?_)
            refine one_ (i := 6) (N := some 57) (bl 10 127) rfl rfl (A18 HT_.out (by kernel_rfl)) (by decide) (fun K hK => ?_)
            refine value_ (w1 := ?_) (v := ?_) (by rfl) rfl ?_ ?_
            rotate_left 2
            ·go_simp
             constructor
             ·rfl
             ·rfl
            refine hK.out _ _ ⟨(A2l (A2q ac.out _) 0).trans rfl, (A2l (A2q ac.out _) 1).trans rfl⟩ (fun hHeld => ?_)
            clear hK K
            refine nm (some 57) (h := ?_)
            refine one_ (i := 7) (N := some 58) (bl 10 255) rfl rfl (A18 HT_.out (by kernel_rfl)) (by decide) (fun K hK => ?_)
            refine Kd.R_append_step (Kd.int .u8) (w0 := w) w.heap.size (by rfl) (.tmp 52) (.tmp 57) 23 5 (.int .u8 0) 1 rfl Tryd.underlying23 infoU8 rfl (by decide) (by omega) (.slice (some ⟨aD, 0, none⟩) aa.length aQ) ar aA [.int .u8 aA] (fun _ => True) (fun _ => False) rfl rfl ?aP (fun _ hk => hk.elim) ?aF ?aO ?aB ?aS ?aL ?_
            (case aP => exact rfl)
            (case aB => exact (kl HB))
            (case aF => exact (fun _ _ => trivial))
            (case aO => exact (kr HO_102000))
            (case aS => exact (A0y (kl HB)))
            (case aL => have := LMc41.out; omega)
            intro ee et ho hb hg hat
            rw [← cg.out] at ho
            have aT := ak (A28 (g := ai) (o := .cells #[.slice (some ⟨aD, 0, none⟩) aa.length aQ, .int .i64 ag] 56 (0, 0)) (kb ac) hg (Kd.R_ne HO_102000.out ac.out (by decide)))
            have aU := ak (A28 (g := a3) (o := .cells #[.slice (some b9) ad.length av, .int .i64 ah] 56 (0, 0)) (kb ae) hg (Kd.R_ne HO_102000.out ae.out (by decide)))
            have aV := ak (A28 (g := au) (o := .cells #[.slice none 0 0, .int .i64 0] 56 (0, 0)) (kb af) hg (Kd.R_ne HO_102000.out af.out (by decide)))
            have aR := ak (hb)
            have bA := ak (ho)
            clear ac
            clear ae
            clear af
            clear HB
            clear HO_102000
            have ac := aT
            have ae := aU
            have af := aV
            have HB := aR
            have bB := bA
            clear aT aU aV aR bA
            clear ho hb hg hat
            obtain ⟨cm, co, cp⟩ := Kd.A1t bB.out
            (first | subst cp | (injection cp with f1_ f2_ f3_; have f4_ := f1_.symm; have f5_ := f3_.symm; clear f1_ f2_ f3_; subst f4_; subst f5_))
            refine hK.out _ _ kz (fun hHeld => ?_)
            clear hK K
            refine nm (some 58) (h := ?_)
            refine pu 8 (some 59) (bl 10 511) (h := ?_)
            refine last_ (i := 9) (N := none) (bl 10 1023) rfl rfl (A18 HT_.out (by kernel_rfl)) (by decide) (fun K hK => ?_)
            have ef := (kc2 ac).1
            have dG := A0b ac.out 0
            have cG := aq.out
            have cH := am.out
            have cI := ap.out
            have cJ := al.out
            refine A20 (w1 := ?_) (by rfl) rfl ?_ ?_
            rotate_left
            ·go_simp
             rfl
            refine hK.out _ _ ?_
            clear hK K
            refine A3b (A27 HT_.out (by kernel_rfl)) ?_
            try go_wp2
            go_roundg k1
            case measure => have := d6.out; omega
            case rel => exact ⟨(wrap64 (x34_1 + 1)), (bv), (.slice cm bv.length co), kE, (by rw [a8]; exact H'), ⟨by have := d6.out; omega⟩, ⟨by (with_reducible repeat (first | apply Kd.A08 | apply Kd.A09 | apply Kd.A1b)); exact Kd.A1e (Kd.A0k (p := ⟨ai, 0, none⟩) (Kd.A00 bB.out ac.out (by decide)) (fun _ hk => hk.2) (.slice cm bv.length co)) (fun _ hk => trivial)⟩, ⟨(kb ac)⟩, ⟨(kb ae)⟩, ⟨(kb af)⟩, ⟨(kl HB)⟩⟩
           ·rw [if_neg cE] at H
            exact absurd H (by simp)
          ·rw [if_neg cf] at H
           exact absurd H (by simp)
         ·rw [if_neg cd] at H
          exact absurd H (by simp)
        ·rw [if_neg cD] at H
         exact absurd H (by simp)
       ·rw [if_neg cC] at H
        exact absurd H (by simp)
      ·rw [if_neg cB] at H
       exact absurd H (by simp)
     ·rw [if_neg cA] at H
      exact absurd H (by simp)
    ·rw [if_neg bP] at H
     have cc := decide_eq_false bP
     clear bP
     obtain ⟨a5, aJ⟩ : ∃ j_ : Int, (wrap64 (Int.tdiv (wrap64 ((wrap64 (ag + ah)) + 7)) 8)) = j_ := ⟨_, rfl⟩
     replace H : (if 0 ≤ (a5) then (if (a5) ≤ (aa.length : Int) then (some ((aa.take ((a5) : Int).toNat), wrap64 (ag + ah))) else (none)) else (none)) = some (r1, r2) := by first | (rw [aJ] at H; exact H) | (simp only [aJ] at H ⊢; exact H)
     have dk : (IntKind.i64.wrap (Int.tdiv (wrap64 ((wrap64 (ag + ah)) + 7)) 8)) = a5 := (A2w _).trans aJ
     by_cases cq : 0 ≤ (a5)
     ·rw [if_pos cq] at H
      have dH := eq_true cq
      have dI := decide_eq_true cq
      clear cq
      by_cases cr : (a5) ≤ (aa.length : Int)
      ·rw [if_pos cr] at H
       have dJ := eq_true cr
       have dK := decide_eq_true cr
       clear cr
       obtain ⟨bc, aE⟩ : ∃ y_ : List Int, y_ = (aa.take ((a5) : Int).toNat) := ⟨_, rfl⟩
       replace H : (some (bc, wrap64 (ag + ah))) = some (r1, r2) := by first | (rw [aE]; with_reducible exact H) | (have H2_ := (Option.bind_some _ _).symm.trans H; rw [aE]; with_reducible exact H2_) | (have H2_ := (Option.bind_some _ _).symm.trans H; with_reducible exact H2_) | with_reducible exact H | (rw [aE]; exact H) | exact H
       have bC := ak aE
       clear aE
       simp only [Option.some.injEq, Prod.mk.injEq] at H
       obtain ⟨rfl, rfl⟩ := H
       have dL := ap.out
       have dM := aq.out
       have dN := al.out
       have dO := am.out
       obtain ⟨cK, cL⟩ := kc2 ac
       obtain ⟨cM, cN⟩ := kf2 ac
       have dP := aw.out
       have dQ := ax.out
       obtain ⟨cO, cP⟩ := kc2 ae
       obtain ⟨cQ, cR⟩ := kf2 ae
       go_wp2_with (first | ((with_reducible refine gate_store (t := 3) (p := 66) rfl ?_); refine store_event (t := 3) (p := 66) (v := ?vo_w58) (w1 := (wr.setCell ⟨ai, 1, none⟩ (.int .i64 (wrap64 (ag + ah))))) ?hg ?ho ?hn ?hr ?_; (case ho => rfl); (case hg => rfl); (case hn => rfl); (case hr => first | (go_simp; done) | (go_simp; rfl)); intro cs hw; have aT : A0e (Kd.R (Kd.int .u8) 5 cs w.heap.size (fun _ => True) a2 aa) := ⟨(by rw [hw]; exact (by (with_reducible repeat (first | apply Kd.A08 | apply Kd.A09 | apply Kd.A1b)); exact Kd.A1e (Kd.A0k (p := ⟨ai, 1, none⟩) (Kd.A00 HO_102000.out ac.out (by decide)) (fun _ hk => hk.2) (.int .i64 (wrap64 (ag + ah)))) (fun _ hk => trivial)))⟩; have aU : A0e (cs.heap[ai]? = some (.cells #[a2, .int .i64 (wrap64 (ag + ah))] 56 (0, 0))) := ⟨(by rw [hw]; exact (kb ac))⟩; have aV : A0e (cs.heap[a3]? = some (.cells #[.slice ay ad.length av, .int .i64 ah] 56 (0, 0))) := ⟨(by rw [hw]; exact (kb ae))⟩; have aR : A0e (cs.heap[au]? = some (.cells #[.slice none 0 0, .int .i64 0] 56 (0, 0))) := ⟨(by rw [hw]; exact (kb af))⟩; have bA : A0e (Below w.heap.size w cs) := ⟨(by rw [hw]; exact (kl HB))⟩; clear hw; clear HO_102000; clear ac; clear ae; clear af; clear HB; have HO_102000 := aT; have ac := aU; have ae := aV; have af := aR; have HB := bA; clear aT aU aV aR bA; obtain ⟨cS, cT⟩ := kc2 ac; obtain ⟨cU, cV⟩ := kf2 ac; obtain ⟨bz, b0, dl⟩ := Kd.A1t HO_102000.out; subst dl; have cW : ((a5) : Int) ≤ ((aa.length : Int) : Int) := kD; obtain ⟨eg, bD, _, ct, _⟩ := info_parts infoU8; have bN := cut_to (P := Tryd.prog) 23 5 .i64 Tryd.underlying23 bD bz aa.length b0 (a5) kD cW (Kd.A07 HO_102000.out).2.1; have hr61 := Kd.R_take (m := ((a5) : Int).toNat) HO_102000.out (by omega); have cu : bc.length = ((a5) : Int).toNat := (by rw [bC.out, List.length_take]; omega); rw [← bC.out] at hr61; rw [← cu] at hr61 bN; clear cu bD ct HO_102000; have cv := ak hr61; clear hr61; (try (have bO := cW; simp only [List.length_drop, List.length_take] at bO; replace bO := eq_true bO)); replace cW := eq_true cW; obtain ⟨cX, cY⟩ := kc2 af; obtain ⟨cZ, da⟩ := kf2 af))
       refine bodyPost_ret (results_cell_row rfl _ _ au 56 #[.slice bz bc.length b0, .int .i64 (wrap64 (ag + ah))] (0, 0) _ rfl (kb af) Tryd.underlying56 rfl (by kernel_rfl)) rfl ?_
       exact ⟨_, by first | rfl | (simp [A0l, A0m] <;> rfl) | (simp only [← aJ]; first | rfl | (simp [A0l, A0m] <;> rfl)) | (simp [*, A0l, A0m] <;> rfl), by (with_reducible repeat (first | apply Kd.A08 | apply Kd.A09 | apply Kd.A1b)); exact Kd.A1e (Kd.A0k (p := ⟨au, 1, none⟩) (Kd.A0k (p := ⟨au, 0, none⟩) (Kd.A0k (p := ⟨ai, 0, none⟩) (Kd.A00 (Kd.A00 cv.out ac.out (by decide)) af.out (by decide)) (fun _ hk => hk.1.2) (.slice bz bc.length b0)) (fun _ hk => hk.2) (.slice bz bc.length b0)) (fun _ hk => hk.2) (.int .i64 (wrap64 (ag + ah)))) (fun _ hk => trivial), (kl HB)⟩
      ·rw [if_neg cr] at H
       exact absurd H (by simp)
     ·rw [if_neg cq] at H
      exact absurd H (by simp)
end Go.Proofs.YtiahbcaoikoogabDoor
