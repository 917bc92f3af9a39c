-- copied by a program of the session
import Derived.Test.YtodocfjbpkicgaaDoorKwAllx31
import Derived.Test.YtodocfjbpkicgaaDoorKwXw
set_option linter.unusedSimpArgs false
set_option linter.unusedVariables false
set_option maxHeartbeats 8000000
set_option maxRecDepth 100000
section
namespace Go.Proofs.YtodocfjbpkicgaaDoor.All
open Go.RowKit Go.Zw Go.Zl Go.Zm
attribute [local go_sem] A2h A2r
mutual
def A1j.j0 : Nat → Int → Int → Bool → List Int → Int → Option (List Int × Int)
 | 0, _, _, _, _, _ => none
 | k + 1, x1, x2, ad, aa, ac => if ad = true then (some (aa, ac)) else (A1j.l0 k x1 (wrap64 (x2 - 1)) aa ac)
def A1j.l0 : Nat → Int → Int → List Int → Int → Option (List Int × Int)
 | 0, _, _, _, _ => none
 | k + 1, x1, x7, ac, aa => if x7 ≥ 0 then (if (Int.tmod aa 8) = 0 then (if ac.length < 140737488355328 then ((some (ac ++ [0] : List Int)).bind fun ad => (if 0 ≤ (wrap64 (Int.tdiv aa 8)) then (if (wrap64 (Int.tdiv aa 8)) < (ad.length : Int) then (if 0 ≤ x7 then (if 0 ≤ (wrap64 (7 - (Int.tmod aa 8))) then (A1j.l0 k x1 (wrap64 (x7 - 1)) (ad.set ((wrap64 (Int.tdiv aa 8)) : Int).toNat (Go.bits .or .u8 (rd ad (wrap64 (Int.tdiv aa 8))) (shl .u8 ((Go.bits .and .u64 (shr .u64 x1 x7) 1) % 256) (wrap64 (7 - (Int.tmod aa 8)))))) (wrap64 (aa + 1))) else (none)) else (none)) else (none)) else (none))) else (none)) else (if 0 ≤ (wrap64 (Int.tdiv aa 8)) then (if (wrap64 (Int.tdiv aa 8)) < (ac.length : Int) then (if 0 ≤ x7 then (if 0 ≤ (wrap64 (7 - (Int.tmod aa 8))) then (A1j.l0 k x1 (wrap64 (x7 - 1)) (ac.set ((wrap64 (Int.tdiv aa 8)) : Int).toNat (Go.bits .or .u8 (rd ac (wrap64 (Int.tdiv aa 8))) (shl .u8 ((Go.bits .and .u64 (shr .u64 x1 x7) 1) % 256) (wrap64 (7 - (Int.tmod aa 8)))))) (wrap64 (aa + 1))) else (none)) else (none)) else (none)) else (none))) else (some (ac, aa))
end
def A1j.f (k : Nat) (ac : List Int) (a0_1 : Int) (a1 : Int) (a2 : Int) : Option (List Int × Int) := (A23.f ac).bind fun aa => (if a2 < 0 then (A1j.j0 k a1 a2 true aa a0_1) else (A1j.j0 k a1 a2 (decide (a2 > 64)) aa a0_1))
theorem A1j.A2x : ∀ k, (∀ y0 y1 y2 y3 y4, LeO (A1j.j0 k y0 y1 y2 y3 y4) (A1j.j0 (k + 1) y0 y1 y2 y3 y4)) ∧ (∀ y0 y1 y2 y3, LeO (A1j.l0 k y0 y1 y2 y3) (A1j.l0 (k + 1) y0 y1 y2 y3))
 | 0 => ⟨fun _ _ _ _ _ r h => by simp [A1j.j0] at h, fun _ _ _ _ r h => by simp [A1j.l0] at h⟩
 | k + 1 => by
  obtain ⟨ih0, ih1⟩ := A1j.A2x k
  refine ⟨?_, ?_⟩ <;> intros <;> (first | unfold A1j.j0 | unfold A1j.l0) <;> (
   repeat' first
   | with_reducible apply ih0
   | with_reducible apply ih1
   | (with_reducible exact LeO.refl _)
   | (with_reducible exact LeO.none _)
   | (with_reducible refine LeO.ite ?_ ?_)
   | (with_reducible refine LeO.bind ?_ (fun _ => ?_))
   | exact LeO.none _
   | refine LeO.ite ?_ ?_
   | refine LeO.bind ?_ (fun _ => ?_))
theorem A1j.mono : ∀ a0 a1 a2 a3 k, LeO (A1j.f k a0 a1 a2 a3) (A1j.f (k + 1) a0 a1 a2 a3) := by
 intro a0 a1 a2 a3 k
 obtain ⟨ih0, ih1⟩ := A1j.A2x k
 unfold A1j.f
 repeat' first
   | with_reducible apply ih0
   | with_reducible apply ih1
   | (with_reducible exact LeO.refl _)
   | (with_reducible exact LeO.none _)
   | (with_reducible refine LeO.ite ?_ ?_)
   | (with_reducible refine LeO.bind ?_ (fun _ => ?_))
   | exact LeO.none _
   | refine LeO.ite ?_ ?_
   | refine LeO.bind ?_ (fun _ => ?_)
def A1j.T9 : Bool × List (List Nat × List Nat) := (true, [([], []), ([0], [0]), ([], []), ([2], [2]), ([3], [3]), ([1, 4], [1, 4]), ([5], [5]), ([], []), ([], []), ([7, 8], [7, 8]), ([9], [9]), ([10], [10]), ([], []), ([12], [12]), ([13], [13]), ([14], [14]), ([11, 15], [11, 15]), ([6, 16], [6, 16]), ([1, 4, 0, 1, 2, 3, 4, 5, 6, 7, 8, 9, 10, 11, 12, 13, 14, 15, 16, 17], [1, 4]), ([18, 17, 0, 1, 2, 3, 4, 5, 6, 7, 8, 9, 10, 11, 12, 13, 14, 15, 16, 17], [17, 18])])
def A1j.B9 : List Nat := [0, 1, 0, 4, 12, 31, 63, 0, 0, 384, 896, 1920, 0, 4096, 12288, 28672, 65408, 131071, 262143, 524287]
theorem A1j.tab9 : rtab .any (opsOf Tryd.f111 9) = A1j.T9 := by kernel_rfl
theorem A1j.bits9 : A26 A1j.T9.2 A1j.B9 = true := by kernel_rfl
theorem A1j.calls (k : Nat) (bc : Option Addr) (be : Nat) (a4 : List Int) (a0_1 : Int) (a1 : Int) (a2 : Int) (r1 : List Int) (r2 : Int) (w : World) (hr0_0 : Kd.C (Kd.int .u8) w bc a4.length a4) (hc0_0 : a4.length ≤ be) (h : A1j.f k a4 a0_1 a1 a2 = some (r1, r2)) :
  Calls Tryd.prog 111 #[.agg #[.slice bc a4.length be, .int .i64 a0_1], .int .u64 a1, .int .i64 a2] w fun e w' => ∃ d5 : Value, e = .returned (.agg #[d5, .int .i64 r2]) ∧ Kd.R (Kd.int .u8) 5 w' w.heap.size (fun _ => True) d5 r1 ∧ Below w.heap.size w w' := by
 have hu161 := Tryd.underlying161; have b6 := ak hr0_0; have b7 := ak hc0_0; clear hr0_0 hc0_0; have HB := ak (Below.refl w.heap.size w); have H := h; clear h; unfold A1j.f at H; replace H := bkH H; obtain ⟨au, A4, H⟩ := H; have da := ak H; clear H
 go_enter Tryd.func111, Tryd.ntmps111
 go_upto_region 2 with (first | ((with_reducible refine A0s (N := 3) rfl ?_); refine bxe 3 #[.slice bc a4.length be, .int .i64 a0_1] 161 (h := ?_); intro af hg w6 hbox hb; have ac := ak (hbox); have d6 := kG hg HB; have aM := kG hg HB; replace HB := kH HB hb; clear hb hbox hg) | ((with_reducible refine A0s (N := 6) rfl ?_); refine bxe 6 #[.slice none 0 0, .int .i64 0] 161 (h := ?_); intro am hg w7 hbox hb; have ae := ak (hbox); have d7 := kG hg HB; have aN := kG hg HB; replace HB := kH HB hb; obtain ⟨ai, aj⟩ := kN hg ac; replace ac := kB ac hb; clear hb hbox hg; have dW := ai.out; have dX := aj.out; obtain ⟨db, dc⟩ := kc2 ac; obtain ⟨dd, de⟩ := kf2 ac) | ((with_reducible refine A0l (f := 113) rfl ?_); refine A1d (some 10) rfl rfl Tryd.func113 (by kernel_rfl) rfl #[.slice bc a4.length be] rfl km ?_; (with_reducible refine (A23.calls _ _ a4 au _ ?b8 ?b9 A4.out).mono ?_); (case b8 => exact kC (Kd.A1i b6.out HB.out)); (case b9 => exact b7.out); rintro e eh ⟨dY, rfl, ho0, hb⟩; refine ⟨_, rfl, ?_⟩; have aQ := ak (Kd.A2l ho0 (A0t (kl HB))); replace ac := kB ac hb; replace ae := kB ae hb; replace HB := kH HB hb; obtain ⟨a9, aA, df⟩ := Kd.A11 aQ.out; subst df; obtain ⟨bU, bV⟩ := kc2 ac; obtain ⟨bW, bX⟩ := kf2 ac))
 (try simp only [Act.put, List.setIfInBounds_toArray, List.set_cons_zero, List.set_cons_succ])
 go_cut [17] (fun dZ wc => ∃ (kq : Nat) (aD : Bool), dZ = .bool aD ∧ A0b (A1j.j0 kq a1 a2 aD au a0_1 = some (r1, r2)) ∧ A0b (kq ≤ k) ∧ A0b (Kd.R (Kd.int .u8) 5 wc w.heap.size (fun _ => True) (.slice a9 au.length aA) au) ∧ A0b (wc.heap[af]? = some (.cells #[(.slice a9 au.length aA), .int .i64 a0_1] 161 (0, 0))) ∧ A0b (wc.heap[am]? = some (.cells #[(.slice none 0 0), .int .i64 0] 161 (0, 0))) ∧ A0b (Below w.heap.size w wc))
 case first =>
  have H := da.out; clear da
  by_cases b4 : a2 < 0
  ·rw [kIp b4] at H; have a5 := kTt b4; clear b4
   (first | rw [a5] | (simp only [A2i, A2u]; rw [a5]) | skip)
   have H' := ak H; clear H
   go_wp2
   go_meet
   case rel => exact ⟨_, (true), kE, H', kO, ⟨by (with_reducible repeat (first | apply Kd.R_alloc | apply Kd.A00 | apply Kd.A02)); exact Kd.A1e (Kd.A03 (p := ⟨af, 0, none⟩) (Kd.A2a aQ.out ac.out (by decide)) (fun _ hk => hk.2) (.slice a9 au.length aA)) (fun _ hk => trivial)⟩, ⟨(kb ac)⟩, ⟨(kb ae)⟩, ⟨(kl HB)⟩⟩
  rw [kIn b4] at H; have a5 := kFf b4; clear b4
  (first | rw [a5] | (simp only [A2i, A2u]; rw [a5]) | skip)
  have H' := ak H; clear H
  go_wp2
  go_meet
  case rel => exact ⟨_, (decide (a2 > 64)), kE, H', kO, ⟨by (with_reducible repeat (first | apply Kd.R_alloc | apply Kd.A00 | apply Kd.A02)); exact Kd.A1e (Kd.A03 (p := ⟨af, 0, none⟩) (Kd.A2a aQ.out ac.out (by decide)) (fun _ hk => hk.2) (.slice a9 au.length aA)) (fun _ hk => trivial)⟩, ⟨(kb ac)⟩, ⟨(kb ae)⟩, ⟨(kl HB)⟩⟩
 case rest =>
  clear da; obtain ⟨kq, aD, rfl, HA, bY, HO_168000, ac, ae, HB⟩ := hcut
  cases kq with
  | zero => exact absurd HA.out (by simp [A1j.j0])
  | succ d8 =>
   have H := HA.out; clear HA; simp only [A1j.j0] at H
   by_cases bZ : aD = true
   ·subst bZ
    rw [if_pos rfl] at H; obtain ⟨rfl, rfl⟩ := kI2 H; have d9 := ai.out; have dA := aj.out; obtain ⟨ca, cc⟩ := kc2 ac; obtain ⟨cf, cg⟩ := kf2 ac; obtain ⟨ch, ci⟩ := kc2 ae; obtain ⟨cj, ck⟩ := kf2 ae
    go_wp2
    refine bodyPost_ret (results_cell_row rfl _ _ am 161 #[.slice a9 au.length aA, .int .i64 a0_1] (0, 0) _ rfl (kb ae) Tryd.underlying161 rfl (by kernel_rfl)) rfl ?_
    exact ⟨_, kF, by (with_reducible repeat (first | apply Kd.R_alloc | apply Kd.A00 | apply Kd.A02)); exact Kd.A1e (Kd.A03 (p := ⟨am, 1, none⟩) (Kd.A03 (p := ⟨am, 0, none⟩) (Kd.A2a HO_168000.out ae.out (by decide)) (fun _ hk => hk.2) (.slice a9 au.length aA)) (fun _ hk => hk.2) (.int .i64 a0_1)) (fun _ hk => trivial), (kl HB)⟩
   replace bZ := Bool.eq_false_iff.mpr bZ; subst bZ
   rw [if_neg (show ¬ (false = true) by decide)] at H; have H' := ak H; clear H
   go_wp2
   go_loopg [7] d8 (fun kq v7 w' => ∃ (ag : Int) (ad : List Int) (aa : Int) (ap : Value), v7 = .int .i64 ag ∧ A0b (A1j.l0 kq a1 ag ad aa = some (r1, r2)) ∧ A0b (kq ≤ d8) ∧ A0b (Kd.R (Kd.int .u8) 5 w' w.heap.size (fun _ => True) ap ad) ∧ A0b (w'.heap[af]? = some (.cells #[ap, .int .i64 aa] 161 (0, 0))) ∧ A0b (w'.heap[am]? = some (.cells #[(.slice none 0 0), .int .i64 0] 161 (0, 0))) ∧ A0b (Below w.heap.size w w'))
   case atStart => exact ⟨(wrap64 (a2 - 1)), (au), (a0_1), (.slice a9 au.length aA), kE, H', ⟨Nat.le_refl _⟩, ⟨kr HO_168000⟩, ⟨kb ac⟩, ⟨kb ae⟩, ⟨(kl HB)⟩⟩
   case round =>
    clear H'; obtain ⟨ag, ad, aa, ap, rfl, HA, cm, HO_168000, ac, ae, HB⟩ := hrel
    cases gk with
    | zero => exact absurd HA.out (by simp [A1j.l0])
    | succ k2 =>
     have H := HA.out; clear HA; simp only [A1j.l0] at H
     by_cases b5 : ag ≥ 0
     ·rw [kIp b5] at H; have bA : decide (0 ≤ ag) = true := kTt b5; clear b5
      by_cases bB : (Int.tmod aa 8) = 0
      ·rw [kIp bB] at H; obtain ⟨bC, bD⟩ := kqT bB; clear bB
       by_cases co : ad.length < 140737488355328
       ·rw [kIp co] at H; have LMc20 := ak co; clear co; obtain ⟨al, a6⟩ : ∃ y_ : List Int, y_ = (ad ++ [0]) := ⟨_, rfl⟩
        replace H : (if 0 ≤ (wrap64 (Int.tdiv aa 8)) then (if (wrap64 (Int.tdiv aa 8)) < (al.length : Int) then (if 0 ≤ ag then (if 0 ≤ (wrap64 (7 - (Int.tmod aa 8))) then (A1j.l0 k2 a1 (wrap64 (ag - 1)) (al.set ((wrap64 (Int.tdiv aa 8)) : Int).toNat (Go.bits .or .u8 (rd al (wrap64 (Int.tdiv aa 8))) (shl .u8 ((Go.bits .and .u64 (shr .u64 a1 ag) 1) % 256) (wrap64 (7 - (Int.tmod aa 8)))))) (wrap64 (aa + 1))) else (none)) else (none)) else (none)) else (none)) = some (r1, r2) := by first | (rw [a6]; with_reducible exact H) | (have H2_ := (Option.bind_some _ _).symm.trans H; rw [a6]; with_reducible exact H2_) | (have H2_ := (Option.bind_some _ _).symm.trans H; with_reducible exact H2_) | with_reducible exact H | (rw [a6]; exact H) | exact H
        have bE := ak a6; clear a6; obtain ⟨an, aR⟩ := kX (wrap64 (Int.tdiv aa 8))
        (first | rw [aR] at H | simp only [aR] at H)
        have dg : (IntKind.i64.wrap (Int.tdiv aa 8)) = an := (A2i _).trans aR
        by_cases cp : 0 ≤ (an)
        ·rw [kIp cp] at H; have dB := kTt cp; clear cp
         by_cases cq : (an) < (al.length : Int)
         ·rw [kIp cq] at H; have dC := kTt cq; clear cq
          by_cases bF : 0 ≤ ag
          ·rw [kIp bF] at H; have dD := kEt bF; have dF := kTt bF; clear bF; obtain ⟨av, aE⟩ := kX (shr .u64 a1 ag)
           (first | rw [aE] at H | simp only [aE] at H)
           have dh : (a1 / 2 ^ min ag.toNat 64) = av := aE; have di : ag ≤ 64 → (a1 / 2 ^ ag.toNat) = av := shr_small aE; obtain ⟨aq, aT⟩ := kX (wrap64 (7 - (Int.tmod aa 8)))
           (first | rw [aT] at H | simp only [aT] at H)
           have dj : (IntKind.i64.wrap (7 - (Int.tmod aa 8))) = aq := (A2i _).trans aT
           by_cases bG : 0 ≤ (aq)
           ·rw [kIp bG] at H; have dG := kEt bG; have dH := kTt bG; clear bG; obtain ⟨aw, aG⟩ := kX (shl .u8 ((Go.bits .and .u64 (av) 1) % 256) (aq))
            (first | rw [aG] at H | simp only [aG] at H)
            have bj : (IntKind.u8.wrap (((Go.bits .and .u64 (av) 1) % 256) * 2 ^ min (aq).toNat 8)) = aw := aG; have bk : (aq) ≤ 8 → (IntKind.u8.wrap (((Go.bits .and .u64 (av) 1) % 256) * 2 ^ (aq).toNat)) = aw := shl_small aG; have bm : (((Go.bits .and .u64 (av) 1) % 256) * 2 ^ min (aq).toNat 8) % 256 = aw := (IntKind.wrap_u8 _).symm.trans bj
            have bn : (aq) ≤ 8 → (((Go.bits .and .u64 (av) 1) % 256) * 2 ^ (aq).toNat) % 256 = aw := fun h_ => (IntKind.wrap_u8 _).symm.trans (bk h_)
            have dk : IntKind.u8.wrap (IntKind.u8.wrap (Go.bits .and .u64 (av) 1) * 2 ^ min (aq).toNat 8) = aw := by rw [IntKind.wrap_u8, IntKind.wrap_u8]; exact bm
            have dl : (aq) ≤ 8 → IntKind.u8.wrap (IntKind.u8.wrap (Go.bits .and .u64 (av) 1) * 2 ^ (aq).toNat) = aw := fun h_ => by rw [IntKind.wrap_u8, IntKind.wrap_u8]; exact bn h_
            obtain ⟨bo, a7⟩ : ∃ y_ : List Int, y_ = (al.set ((an) : Int).toNat (Go.bits .or .u8 (rd al (an)) (aw))) := ⟨_, rfl⟩
            replace H : (A1j.l0 k2 a1 (wrap64 (ag - 1)) bo (wrap64 (aa + 1))) = some (r1, r2) := by first | (rw [a7]; with_reducible exact H) | (have H2_ := (Option.bind_some _ _).symm.trans H; rw [a7]; with_reducible exact H2_) | (have H2_ := (Option.bind_some _ _).symm.trans H; with_reducible exact H2_) | with_reducible exact H | (rw [a7]; exact H) | exact H
            have bH := ak a7; clear a7; have H' := ak H; clear H; have dI := ai.out; have dJ := aj.out; obtain ⟨cr, cs⟩ := kc2 ac; obtain ⟨ct, cu⟩ := kf2 ac
            try go_wp2_with (first | ((with_reducible refine A2c (b := .append) (xs := #[.tmp 30, .tmp 31]) rfl ?_); at_builtin; refine Kd.A3t (Kd.int .u8) (w0 := w) w.heap.size rfl (.tmp 30) (.tmp 31) 22 5 (.int .u8 0) 1 rfl Tryd.underlying22 info5 rfl (by decide) (by omega) ap ad 0 [.int .u8 0] (fun _ => True) (fun _ => False) rfl rfl ?aP (fun _ hk => hk.elim) ?aF ?aO ?aB ?aS ?aL ?_; (case aP => exact rfl); (case aB => exact (kl HB)); (case aF => exact (fun _ _ => trivial)); (case aO => exact (kr HO_168000)); (case aS => exact (A0t (kl HB))); (case aL => have := LMc20.out; omega); intro ea eb ho hb hg hat; rw [← bE.out] at ho; have aU := ak (A15 (g := af) (o := .cells #[ap, .int .i64 aa] 161 (0, 0)) (kb ac) hg (Kd.R_ne HO_168000.out ac.out (by decide))); have aV := ak (A15 (g := am) (o := .cells #[.slice none 0 0, .int .i64 0] 161 (0, 0)) (kb ae) hg (Kd.R_ne HO_168000.out ae.out (by decide))); have aW := ak (hb); have aX := ak (ho); clear ac; clear ae; clear HB; clear HO_168000; have ac := aU; have ae := aV; have HB := aW; have ah := aX; clear aU aV aW aX; clear ho hb hg hat; obtain ⟨bp, aC, dm⟩ := Kd.A11 ah.out; subst dm; obtain ⟨cv, cw⟩ := kc2 ac; obtain ⟨cx, cy⟩ := kf2 ac))
            generalize hw_ : (eb.setCell ⟨af, 0, none⟩ (.slice bp al.length aC)) = dn; have aU : A0b (Kd.R (Kd.int .u8) 5 dn w.heap.size (fun _ => True) (.slice bp al.length aC) al) := ⟨by rw [← hw_]; (with_reducible repeat (first | apply Kd.R_alloc | apply Kd.A00 | apply Kd.A02)); exact Kd.A1e (Kd.A03 (p := ⟨af, 0, none⟩) (Kd.A2a ah.out ac.out (by decide)) (fun _ hk => hk.2) (.slice bp al.length aC)) (fun _ hk => trivial)⟩; have aV := mv hw_ (kb ac); have aW := mv hw_ (kb ae); have aX : A0b (Below w.heap.size w dn) := ⟨by rw [← hw_]; repeat (first | (with_reducible first | exact HB.out | apply A2k | apply A2e | apply A04 | refine A1y ?_ aM.out | refine A1y ?_ aN.out) | exact HB.out)⟩; clear hw_; have ah := aU; have ac := aV; have ae := aW; have HB := aX; clear aU aV aW aX; replace ah := ak (Kd.A02 ah.out); replace ac := ak (A0v ac.out); replace ae := ak (A0v ae.out); replace HB := ak (A04 HB.out); have bq : 0 ≤ ((an) : Int) := kD; have bf : (an) < (al.length : Int) := kD; obtain ⟨dK, dp, ax⟩ := Kd.A2y (Kd.A0y ah.out).2.2 (an) bq bf
            cases dp
            replace bq := kEt bq
            (try (have aY := bf; simp only [List.length_drop, List.length_take] at aY; replace aY := kEt aY)); replace bf := kEt bf
            have p29 : 0 ≤ ((an) : Int) := kD; have cz : ((an) : Int) < ((al.length : Int) : Int) := kD; obtain ⟨aJ, ec, bI, bJ, gl29, cl29, HG29⟩ := Kd.R_form ah.out (by omega)
            (first | cases bI | (injection bI with ea_ en_ ec_; (first | subst ea_ | (injection ea_ with ea_; subst ea_)); subst ec_; clear en_))
            have GB29 := ak bJ; have GG29 := ak HG29; clear bJ gl29 HG29
            (first | simp only [add_plain] at ax | skip)
            obtain ⟨br, bs⟩ := Kd.R_celln 0 ah.out ((an) : Int) p29 cz; replace p29 := kEt p29
            (try (have bt := cz; simp only [List.length_drop, List.length_take] at bt; replace bt := kEt bt)); replace cz := kEt cz
            have HP37 := Kd.R_putn ah.out ((an) : Int) (Go.bits .or .u8 (rd al (an)) (aw)); rw [← bH.out] at HP37; have bK := ak HP37; clear HP37
            refine A28 (n := 20) (S := fun w' => w'.cell? ⟨af, 0, none⟩ = some (.slice (some ⟨aJ, 0, none⟩) al.length aC) ∧ w'.cell? ⟨af, 1, none⟩ = some (.int .i64 aa) ∧ w'.cell? ⟨aJ, ((an)).toNat, none⟩ = some (.int .u8 (rd al (an)))) (ds := [19]) (bl 20 0) (by kernel_rfl) rfl rfl ⟨(A16 ac.out 0).trans rfl, (A16 ac.out 1).trans rfl, ax⟩ (fun hHeld => ?_); refine A2j A1j.tab9 A1j.bits9 (fun HT_ HW_ => ?_)
            generalize dn.drew = ed at ah ac ae HB GG29 bK bs ax br hHeld ⊢; refine pv 0 34 ?_; refine pv 2 36 ?_; refine pv 7 41 ?_; refine pv 8 42 ?_; refine pv 9 43 ?_; refine pv 10 44 ?_; refine pv 11 45 ?_; refine pv 12 46 ?_; refine ta 1 (some 35) (bl 20 8071) (h := ?_); refine ta 3 (some 37) (bl 20 8079) (h := ?_); refine pv 4 38 ?_; refine pv 5 39 ?_; refine ta 6 (some 40) (bl 20 8191) (h := ?_); refine ta 13 (some 47) (bl 20 16383) (h := ?_); refine pv 14 48 ?_; refine pv 15 49 ?_; refine pv 16 50 ?_; refine pv 17 51 ?_; refine pv 18 52 ?_; refine last_ (i := 19) (N := none) (bl 20 1048575) rfl rfl (A2s HT_.out (by kernel_rfl)) (by decide) (fun K hK => ?_); refine skip_ (w1 := ?_) (by rfl) rfl ?_ ?_
            rotate_left
            ·go_simp
             rfl
            refine hK.out _ _ ?_; clear hK K; refine A3u (A22 HT_.out (by kernel_rfl)) ?_; generalize hw_ : (ed.setCell ⟨aJ, ((an) : Int).toNat, none⟩ (.int .u8 (Go.bits .or .u8 (rd al (an)) (aw)))) = cA; have aU : A0b (Kd.R (Kd.int .u8) 5 cA w.heap.size (fun _ => True) (.slice (some ⟨aJ, 0, none⟩) al.length aC) bo) := ⟨by rw [← hw_]; (with_reducible repeat (first | apply Kd.R_alloc | apply Kd.A00 | apply Kd.A02)); exact bK.out⟩; have aV : A0b (cA.heap[af]? = some (.cells #[.slice (some ⟨aJ, 0, none⟩) al.length aC, .int .i64 aa] 161 (0, 0))) := ⟨by rw [← hw_]; (with_reducible repeat (first | refine A3p ?_ _ | refine A0v ?_ | refine blk_alloc ?_ _)); refine blk_far ?_ (by have h_ := Kd.R_ne ah.out ac.out (by decide); intro e_; exact h_ (by rw [e_]; rfl)) _; (with_reducible repeat (first | refine A3p ?_ _ | refine A0v ?_ | refine blk_alloc ?_ _)); exact ac.out⟩; have aW : A0b (cA.heap[am]? = some (.cells #[.slice none 0 0, .int .i64 0] 161 (0, 0))) := ⟨by rw [← hw_]; (with_reducible repeat (first | refine A3p ?_ _ | refine A0v ?_ | refine blk_alloc ?_ _)); refine blk_far ?_ (by have h_ := Kd.R_ne ah.out ae.out (by decide); intro e_; exact h_ (by rw [e_]; rfl)) _; (with_reducible repeat (first | refine A3p ?_ _ | refine A0v ?_ | refine blk_alloc ?_ _)); exact ae.out⟩; have aX : A0b (Below w.heap.size w cA) := ⟨by rw [← hw_]; repeat (first | (with_reducible first | exact HB.out | apply A2k | apply A2e | apply A04 | refine A1y ?_ GB29.out | refine A1y ?_ aM.out | refine A1y ?_ aN.out) | exact HB.out)⟩; clear hw_; have ah := aU; have ac := aV; have ae := aW; have HB := aX; clear aU aV aW aX; obtain ⟨cB, cC⟩ := kc2 ac; obtain ⟨cD, cF⟩ := kf2 ac
            try go_wp2
            go_roundg k2
            case measure => have := bY.out; have := cm.out; omega
            case rel => exact ⟨(wrap64 (ag - 1)), (bo), (wrap64 (aa + 1)), (.slice (some ⟨aJ, 0, none⟩) al.length aC), kE, H', ⟨by have := bY.out; have := cm.out; omega⟩, ⟨by (with_reducible repeat (first | apply Kd.R_alloc | apply Kd.A00 | apply Kd.A02)); exact Kd.A1e (Kd.A03 (p := ⟨af, 1, none⟩) (Kd.A2a ah.out ac.out (by decide)) (fun _ hk => hk.2) (.int .i64 (wrap64 (aa + 1)))) (fun _ hk => trivial)⟩, ⟨(kb ac)⟩, ⟨(kb ae)⟩, ⟨(kl HB)⟩⟩
           exact (kA bG H).elim
          exact (kA bF H).elim
         exact (kA cq H).elim
        exact (kA cp H).elim
       exact (kA co H).elim
      rw [kIn bB] at H; obtain ⟨bC, bD⟩ := kqF bB; obtain ⟨ao, aZ⟩ := kX (wrap64 (Int.tdiv aa 8))
      (first | rw [aZ] at H | simp only [aZ] at H)
      have dq : (IntKind.i64.wrap (Int.tdiv aa 8)) = ao := (A2i _).trans aZ
      by_cases cG : 0 ≤ (ao)
      ·rw [kIp cG] at H; have dL := kTt cG; clear cG
       by_cases cH : (ao) < (ad.length : Int)
       ·rw [kIp cH] at H; have dM := kTt cH; clear cH
        by_cases bL : 0 ≤ ag
        ·rw [kIp bL] at H; have dN := kEt bL; have dO := kTt bL; clear bL; obtain ⟨ay, aH⟩ := kX (shr .u64 a1 ag)
         (first | rw [aH] at H | simp only [aH] at H)
         have dr : (a1 / 2 ^ min ag.toNat 64) = ay := aH; have dt : ag ≤ 64 → (a1 / 2 ^ ag.toNat) = ay := shr_small aH; obtain ⟨ar, ba⟩ := kX (wrap64 (7 - (Int.tmod aa 8)))
         (first | rw [ba] at H | simp only [ba] at H)
         have du : (IntKind.i64.wrap (7 - (Int.tmod aa 8))) = ar := (A2i _).trans ba
         by_cases bM : 0 ≤ (ar)
         ·rw [kIp bM] at H; have dP := kEt bM; have dQ := kTt bM; clear bM; obtain ⟨az, aI⟩ := kX (shl .u8 ((Go.bits .and .u64 (ay) 1) % 256) (ar))
          (first | rw [aI] at H | simp only [aI] at H)
          have bu : (IntKind.u8.wrap (((Go.bits .and .u64 (ay) 1) % 256) * 2 ^ min (ar).toNat 8)) = az := aI; have bv : (ar) ≤ 8 → (IntKind.u8.wrap (((Go.bits .and .u64 (ay) 1) % 256) * 2 ^ (ar).toNat)) = az := shl_small aI; have bw : (((Go.bits .and .u64 (ay) 1) % 256) * 2 ^ min (ar).toNat 8) % 256 = az := (IntKind.wrap_u8 _).symm.trans bu
          have bx : (ar) ≤ 8 → (((Go.bits .and .u64 (ay) 1) % 256) * 2 ^ (ar).toNat) % 256 = az := fun h_ => (IntKind.wrap_u8 _).symm.trans (bv h_)
          have dv : IntKind.u8.wrap (IntKind.u8.wrap (Go.bits .and .u64 (ay) 1) * 2 ^ min (ar).toNat 8) = az := by rw [IntKind.wrap_u8, IntKind.wrap_u8]; exact bw
          have dw : (ar) ≤ 8 → IntKind.u8.wrap (IntKind.u8.wrap (Go.bits .and .u64 (ay) 1) * 2 ^ (ar).toNat) = az := fun h_ => by rw [IntKind.wrap_u8, IntKind.wrap_u8]; exact bx h_
          obtain ⟨bz, a8⟩ : ∃ y_ : List Int, y_ = (ad.set ((ao) : Int).toNat (Go.bits .or .u8 (rd ad (ao)) (az))) := ⟨_, rfl⟩
          replace H : (A1j.l0 k2 a1 (wrap64 (ag - 1)) bz (wrap64 (aa + 1))) = some (r1, r2) := by first | (rw [a8]; with_reducible exact H) | (have H2_ := (Option.bind_some _ _).symm.trans H; rw [a8]; with_reducible exact H2_) | (have H2_ := (Option.bind_some _ _).symm.trans H; with_reducible exact H2_) | with_reducible exact H | (rw [a8]; exact H) | exact H
          have bN := ak a8; clear a8; have H' := ak H; clear H; have dR := ai.out; have dS := aj.out; obtain ⟨cI, cJ⟩ := kc2 ac; obtain ⟨cK, cL⟩ := kf2 ac
          try go_wp2
          replace HO_168000 := ak (Kd.A02 HO_168000.out); replace ac := ak (A0v ac.out); replace ae := ak (A0v ae.out); replace HB := ak (A04 HB.out); obtain ⟨ee, bh, bO⟩ := Kd.A11 HO_168000.out
          (first | subst bO | (injection bO with f1_ f2_ f3_; have f4_ := f1_.symm; have f5_ := f3_.symm; clear f1_ f2_ f3_; subst f4_; subst f5_))
          have b0 : 0 ≤ ((ao) : Int) := kD; have bi : (ao) < (ad.length : Int) := kD; obtain ⟨dT, dz, a3⟩ := Kd.A2y (Kd.A0y HO_168000.out).2.2 (ao) b0 bi
          cases dz
          replace b0 := kEt b0
          (try (have bb := bi; simp only [List.length_drop, List.length_take] at bb; replace bb := kEt bb)); replace bi := kEt bi
          have p48 : 0 ≤ ((ao) : Int) := kD; have cM : ((ao) : Int) < ((ad.length : Int) : Int) := kD; obtain ⟨aK, ef, bP, bQ, gl48, cl48, HG48⟩ := Kd.R_form HO_168000.out (by omega)
          (first | cases bP | (injection bP with ea_ en_ ec_; (first | subst ea_ | (injection ea_ with ea_; subst ea_)); subst ec_; clear en_))
          have GB48 := ak bQ; have GG48 := ak HG48; clear bQ gl48 HG48
          (first | simp only [add_plain] at a3 | skip)
          obtain ⟨b1, b2⟩ := Kd.R_celln 0 HO_168000.out ((ao) : Int) p48 cM; replace p48 := kEt p48
          (try (have b3 := cM; simp only [List.length_drop, List.length_take] at b3; replace b3 := kEt b3)); replace cM := kEt cM
          have HP53 := Kd.R_putn HO_168000.out ((ao) : Int) (Go.bits .or .u8 (rd ad (ao)) (az)); rw [← bN.out] at HP53; have bR := ak HP53; clear HP53
          refine A28 (n := 20) (S := fun w' => w'.cell? ⟨af, 0, none⟩ = some (.slice (some ⟨aK, 0, none⟩) ad.length bh) ∧ w'.cell? ⟨af, 1, none⟩ = some (.int .i64 aa) ∧ w'.cell? ⟨aK, ((ao)).toNat, none⟩ = some (.int .u8 (rd ad (ao)))) (ds := [19]) (bl 20 0) (by kernel_rfl) rfl rfl ⟨(A16 ac.out 0).trans rfl, (A16 ac.out 1).trans rfl, a3⟩ (fun hHeld => ?_); refine A2j A1j.tab9 A1j.bits9 (fun HT_ HW_ => ?_)
          generalize wr.drew = eg at HO_168000 ac ae HB GG48 bR b2 a3 b1 hHeld ⊢; refine pv 0 34 ?_; refine pv 2 36 ?_; refine pv 7 41 ?_; refine pv 8 42 ?_; refine pv 9 43 ?_; refine pv 10 44 ?_; refine pv 11 45 ?_; refine pv 12 46 ?_; refine ta 1 (some 35) (bl 20 8071) (h := ?_); refine ta 3 (some 37) (bl 20 8079) (h := ?_); refine pv 4 38 ?_; refine pv 5 39 ?_; refine ta 6 (some 40) (bl 20 8191) (h := ?_); refine ta 13 (some 47) (bl 20 16383) (h := ?_); refine pv 14 48 ?_; refine pv 15 49 ?_; refine pv 16 50 ?_; refine pv 17 51 ?_; refine pv 18 52 ?_; refine last_ (i := 19) (N := none) (bl 20 1048575) rfl rfl (A2s HT_.out (by kernel_rfl)) (by decide) (fun K hK => ?_); refine skip_ (w1 := ?_) (by rfl) rfl ?_ ?_
          rotate_left
          ·go_simp
           rfl
          refine hK.out _ _ ?_; clear hK K; refine A3u (A22 HT_.out (by kernel_rfl)) ?_; generalize hw_ : (eg.setCell ⟨aK, ((ao) : Int).toNat, none⟩ (.int .u8 (Go.bits .or .u8 (rd ad (ao)) (az)))) = cN; have aU : A0b (Kd.R (Kd.int .u8) 5 cN w.heap.size (fun _ => True) (.slice (some ⟨aK, 0, none⟩) ad.length bh) bz) := ⟨by rw [← hw_]; (with_reducible repeat (first | apply Kd.R_alloc | apply Kd.A00 | apply Kd.A02)); exact bR.out⟩; have aV : A0b (cN.heap[af]? = some (.cells #[.slice (some ⟨aK, 0, none⟩) ad.length bh, .int .i64 aa] 161 (0, 0))) := ⟨by rw [← hw_]; (with_reducible repeat (first | refine A3p ?_ _ | refine A0v ?_ | refine blk_alloc ?_ _)); refine blk_far ?_ (by have h_ := Kd.R_ne HO_168000.out ac.out (by decide); intro e_; exact h_ (by rw [e_]; rfl)) _; (with_reducible repeat (first | refine A3p ?_ _ | refine A0v ?_ | refine blk_alloc ?_ _)); exact ac.out⟩; have aW : A0b (cN.heap[am]? = some (.cells #[.slice none 0 0, .int .i64 0] 161 (0, 0))) := ⟨by rw [← hw_]; (with_reducible repeat (first | refine A3p ?_ _ | refine A0v ?_ | refine blk_alloc ?_ _)); refine blk_far ?_ (by have h_ := Kd.R_ne HO_168000.out ae.out (by decide); intro e_; exact h_ (by rw [e_]; rfl)) _; (with_reducible repeat (first | refine A3p ?_ _ | refine A0v ?_ | refine blk_alloc ?_ _)); exact ae.out⟩; have aX : A0b (Below w.heap.size w cN) := ⟨by rw [← hw_]; repeat (first | (with_reducible first | exact HB.out | apply A2k | apply A2e | apply A04 | refine A1y ?_ GB48.out | refine A1y ?_ aM.out | refine A1y ?_ aN.out) | exact HB.out)⟩; clear hw_; have HO_168000 := aU; have ac := aV; have ae := aW; have HB := aX; clear aU aV aW aX; obtain ⟨cO, cP⟩ := kc2 ac; obtain ⟨cQ, cR⟩ := kf2 ac
          try go_wp2
          go_roundg k2
          case measure => have := bY.out; have := cm.out; omega
          case rel => exact ⟨(wrap64 (ag - 1)), (bz), (wrap64 (aa + 1)), (.slice (some ⟨aK, 0, none⟩) ad.length bh), kE, H', ⟨by have := bY.out; have := cm.out; omega⟩, ⟨by (with_reducible repeat (first | apply Kd.R_alloc | apply Kd.A00 | apply Kd.A02)); exact Kd.A1e (Kd.A03 (p := ⟨af, 1, none⟩) (Kd.A2a HO_168000.out ac.out (by decide)) (fun _ hk => hk.2) (.int .i64 (wrap64 (aa + 1)))) (fun _ hk => trivial)⟩, ⟨(kb ac)⟩, ⟨(kb ae)⟩, ⟨(kl HB)⟩⟩
         exact (kA bM H).elim
        exact (kA bL H).elim
       exact (kA cH H).elim
      exact (kA cG H).elim
     rw [kIn b5] at H; have bA : decide (0 ≤ ag) = false := kFf b5; clear b5; obtain ⟨rfl, rfl⟩ := kI2 H; have dU := ai.out; have dV := aj.out; obtain ⟨cS, cT⟩ := kc2 ac; obtain ⟨cU, cV⟩ := kf2 ac; obtain ⟨bS, bT, d0⟩ := Kd.A11 HO_168000.out; subst d0; obtain ⟨cW, cX⟩ := kc2 ae; obtain ⟨cY, cZ⟩ := kf2 ae
     go_wp2
     refine bodyPost_ret (results_cell_row rfl _ _ am 161 #[.slice bS ad.length bT, .int .i64 aa] (0, 0) _ rfl (kb ae) Tryd.underlying161 rfl (by kernel_rfl)) rfl ?_
     exact ⟨_, kF, by (with_reducible repeat (first | apply Kd.R_alloc | apply Kd.A00 | apply Kd.A02)); exact Kd.A1e (Kd.A03 (p := ⟨am, 1, none⟩) (Kd.A03 (p := ⟨am, 0, none⟩) (Kd.A2a HO_168000.out ae.out (by decide)) (fun _ hk => hk.2) (.slice bS ad.length bT)) (fun _ hk => hk.2) (.int .i64 aa)) (fun _ hk => trivial), (kl HB)⟩
end Go.Proofs.YtodocfjbpkicgaaDoor.All
end
section
namespace Go.Proofs.YtodocfjbpkicgaaDoor.All
open Go.RowKit Go.Zw Go.Zl Go.Zm
attribute [local go_sem] A2h A2r
def xor_window.f (a0 : Int) : Option (Int × Int) := (bits_LeadingZeros64.f a0).bind fun aa => ((bits_TrailingZeros64.f a0).bind fun ac => (some (aa, wrap64 ((wrap64 (64 - aa)) - ac))))
theorem xor_window.calls (a0 : Int) (r1 : Int) (r2 : Int) (w : World) (hT : A39 w) (h : xor_window.f a0 = some (r1, r2)) :
  Calls Tryd.prog 118 #[.int .u64 a0] w fun e w' => e = .returned (.tuple #[.int .i64 r1, .int .i64 r2]) ∧ A0q w w' := by
 have HT := ak hT; clear hT; have H := h; clear h; unfold xor_window.f at H; replace H := bkH H; obtain ⟨ac, A2, H⟩ := H; replace H := bkH H; obtain ⟨ad, A3, H⟩ := H; obtain ⟨rfl, rfl⟩ := kI2 H
 go_enter Tryd.func118, Tryd.ntmps118
 go_wp2_with (first | ((with_reducible refine A0l (f := 122) rfl ?_); refine A1d (some 6) rfl rfl Tryd.func122 (by kernel_rfl) rfl #[.int .u64 a0] rfl km ?_; (with_reducible refine (bits_LeadingZeros64.calls a0 ac _ A2.out).mono ?_); rintro e w' ⟨rfl, ⟨nd, rfl⟩⟩; refine ⟨_, rfl, ?_⟩) | ((with_reducible refine A0l (f := 123) rfl ?_); refine A1d (some 11) rfl rfl Tryd.func123 (by kernel_rfl) rfl #[.int .u64 a0] rfl km ?_; (with_reducible refine (bits_TrailingZeros64.calls a0 ad _ ?aa A3.out).mono ?_); (case aa => exact HT.out); rintro e w' ⟨rfl, ⟨nd, rfl⟩⟩; refine ⟨_, rfl, ?_⟩))
 go_ret2
 exact ⟨by first | rfl | (simp; done) | (simp [*]; done), by repeat (first | exact A0q.refl _ | apply A0q.step)⟩
end Go.Proofs.YtodocfjbpkicgaaDoor.All
end
