-- copied by a program of the session
import Derived.Test.YtodocfjbpkicgaaDoorKvAllx0
import Derived.Test.YtodocfjbpkicgaaDoorKvXw
section
namespace Go.Proofs.YtodocfjbpkicgaaDoor.All
open Go.RowKit Go.Proofs.YtodocfjbpkicgaaDoorW.PrintWords Go.Proofs.YtodocfjbpkicgaaDoorW.PrintLast Go.Proofs.YtodocfjbpkicgaaDoorW.PrintMore
attribute [local go_sem] A17 A18 A2o A2p A1y A1z A19 A2a
set_option linter.unusedVariables false
set_option linter.unusedSimpArgs false
mutual
def A0v.j0 : Nat → Int → Int → Bool → List Int → Int → Option (List Int × Int)
 | 0, _, _, _, _, _ => none
 | k + 1, x1, x2, ad, aa, ac => if ad = true then (some (aa, ac)) else (A0v.l0 k x1 (wrap64 (x2 - 1)) aa ac)
def A0v.l0 : Nat → Int → Int → List Int → Int → Option (List Int × Int)
 | 0, _, _, _, _ => none
 | k + 1, x1, x7, ac, aa => if x7 ≥ 0 then (if (Int.tmod aa 8) = 0 then (if ac.length < 140737488355328 then ((some (ac ++ [0] : List Int)).bind fun ad => (if 0 ≤ (wrap64 (Int.tdiv aa 8)) then (if (wrap64 (Int.tdiv aa 8)) < (ad.length : Int) then (if 0 ≤ x7 then (if 0 ≤ (wrap64 (7 - (Int.tmod aa 8))) then (A0v.l0 k x1 (wrap64 (x7 - 1)) (ad.set ((wrap64 (Int.tdiv aa 8)) : Int).toNat (Go.bits .or .u8 (rd ad (wrap64 (Int.tdiv aa 8))) (shl .u8 ((Go.bits .and .u64 (shr .u64 x1 x7) 1) % 256) (wrap64 (7 - (Int.tmod aa 8)))))) (wrap64 (aa + 1))) else (none)) else (none)) else (none)) else (none))) else (none)) else (if 0 ≤ (wrap64 (Int.tdiv aa 8)) then (if (wrap64 (Int.tdiv aa 8)) < (ac.length : Int) then (if 0 ≤ x7 then (if 0 ≤ (wrap64 (7 - (Int.tmod aa 8))) then (A0v.l0 k x1 (wrap64 (x7 - 1)) (ac.set ((wrap64 (Int.tdiv aa 8)) : Int).toNat (Go.bits .or .u8 (rd ac (wrap64 (Int.tdiv aa 8))) (shl .u8 ((Go.bits .and .u64 (shr .u64 x1 x7) 1) % 256) (wrap64 (7 - (Int.tmod aa 8)))))) (wrap64 (aa + 1))) else (none)) else (none)) else (none)) else (none))) else (some (ac, aa))
end
def A0v.f (k : Nat) (ad : List Int) (aa : Int) (a1 : Int) (a2 : Int) : Option (List Int × Int) := (A1s.f ad).bind fun ac => (if a2 < 0 then (A0v.j0 k a1 a2 true ac aa) else (A0v.j0 k a1 a2 (decide (a2 > 64)) ac aa))
theorem A0v.A2w : ∀ k, (∀ y0 y1 y2 y3 y4, LeO (A0v.j0 k y0 y1 y2 y3 y4) (A0v.j0 (k + 1) y0 y1 y2 y3 y4)) ∧ (∀ y0 y1 y2 y3, LeO (A0v.l0 k y0 y1 y2 y3) (A0v.l0 (k + 1) y0 y1 y2 y3))
 | 0 => ⟨fun _ _ _ _ _ r h => by simp [A0v.j0] at h, fun _ _ _ _ r h => by simp [A0v.l0] at h⟩
 | k + 1 => by
  obtain ⟨ih0, ih1⟩ := A0v.A2w k
  refine ⟨?_, ?_⟩ <;> intros <;> (first | unfold A0v.j0 | unfold A0v.l0) <;> (
   repeat' first
   | (with_reducible exact ih0 _ _ _ _ _)
   | (with_reducible exact ih1 _ _ _ _)
   | (with_reducible exact LeO.refl _)
   | (with_reducible exact LeO.none _)
   | (with_reducible refine LeO.ite ?_ ?_)
   | (with_reducible refine LeO.bind ?_ (fun _ => ?_))
   | exact ih0 _ _ _ _ _
   | exact ih1 _ _ _ _
   | exact LeO.none _
   | refine LeO.ite ?_ ?_
   | refine LeO.bind ?_ (fun _ => ?_))
theorem A0v.mono : ∀ a0 a1 a2 a3 k, LeO (A0v.f k a0 a1 a2 a3) (A0v.f (k + 1) a0 a1 a2 a3) := by
 intro a0 a1 a2 a3 k
 obtain ⟨ih0, ih1⟩ := A0v.A2w k
 unfold A0v.f
 repeat' first
   | (with_reducible exact ih0 _ _ _ _ _)
   | (with_reducible exact ih1 _ _ _ _)
   | (with_reducible exact LeO.refl _)
   | (with_reducible exact LeO.none _)
   | (with_reducible refine LeO.ite ?_ ?_)
   | (with_reducible refine LeO.bind ?_ (fun _ => ?_))
   | exact ih0 _ _ _ _ _
   | exact ih1 _ _ _ _
   | exact LeO.none _
   | refine LeO.ite ?_ ?_
   | refine LeO.bind ?_ (fun _ => ?_)
def A0v.T9 : Bool × List (List Nat × List Nat) := (true, [([], []), ([0], [0]), ([], []), ([2], [2]), ([3], [3]), ([1, 4], [1, 4]), ([5], [5]), ([], []), ([], []), ([7, 8], [7, 8]), ([9], [9]), ([10], [10]), ([], []), ([12], [12]), ([13], [13]), ([14], [14]), ([11, 15], [11, 15]), ([6, 16], [6, 16]), ([1, 4, 0, 1, 2, 3, 4, 5, 6, 7, 8, 9, 10, 11, 12, 13, 14, 15, 16, 17], [1, 4]), ([18, 17, 0, 1, 2, 3, 4, 5, 6, 7, 8, 9, 10, 11, 12, 13, 14, 15, 16, 17], [17, 18])])
def A0v.B9 : List Nat := [0, 1, 0, 4, 12, 31, 63, 0, 0, 384, 896, 1920, 0, 4096, 12288, 28672, 65408, 131071, 262143, 524287]
theorem A0v.tab9 : rtab .any (opsOf Tryd.f111 9) = A0v.T9 := by kernel_rfl
theorem A0v.bits9 : A3j A0v.T9.2 A0v.B9 = true := by kernel_rfl
set_option maxHeartbeats 8000000 in
set_option maxRecDepth 100000 in
theorem A0v.calls (k : Nat) (be : Option Addr) (bf : Nat) (a3 : List Int) (ax : Int) (a1 : Int) (a2 : Int) (r1 : List Int) (r2 : Int) (w : World) (hr0_0 : Kd.C (Kd.int .u8) w be a3.length a3) (hc0_0 : a3.length ≤ bf) (h : A0v.f k a3 ax a1 a2 = some (r1, r2)) :
  Calls Tryd.prog 111 #[.agg #[.slice be a3.length bf, .int .i64 ax], .int .u64 a1, .int .i64 a2] w fun e w' => ∃ d0 : Value, e = .returned (.agg #[d0, .int .i64 r2]) ∧ Kd.R (Kd.int .u8) 5 w' w.heap.size (fun _ => True) d0 r1 ∧ Below w.heap.size w w' := by
 have hu161 := Tryd.underlying161; have b6 := ak hr0_0; have b7 := ak hc0_0; clear hr0_0 hc0_0; have HB := ak (Below.refl w.heap.size w); have H : ((A1s.f a3).bind fun ap => (if a2 < 0 then (A0v.j0 k a1 a2 true ap ax) else (A0v.j0 k a1 a2 (decide (a2 > 64)) ap ax))) = some (r1, r2) := h; clear h; replace H := bkH H; obtain ⟨ap, A4, H⟩ := H; have cY := ak H; clear H
 go_enter Tryd.func111, Tryd.ntmps111
 go_upto_region 2 with (first | ((with_reducible refine A0s (N := 3) rfl ?_); refine bxe 3 #[.slice be a3.length bf, .int .i64 ax] 161 (h := ?_); intro aj hg w6 hbox hb; have ad := ak (hbox); have d5 := kG hg HB; have aN := kG hg HB; replace HB := kH HB hb; clear hb hbox hg) | ((with_reducible refine A0s (N := 6) rfl ?_); refine bxe 6 #[.slice none 0 0, .int .i64 0] 161 (h := ?_); intro ao hg w7 hbox hb; have ae := ak (hbox); have d6 := kG hg HB; have aQ := kG hg HB; replace HB := kH HB hb; obtain ⟨am, an⟩ := kN hg ad; replace ad := kB ad hb; clear hb hbox hg; have dU := am.out; have dV := an.out; obtain ⟨cZ, da⟩ := kc2 ad; obtain ⟨db, dc⟩ := kf2 ad) | ((with_reducible refine A0m (f := 113) rfl ?_); refine A07 (some 10) rfl rfl Tryd.func113 (by kernel_rfl) rfl #[.slice be a3.length bf] rfl km ?_; (with_reducible refine (A1s.calls _ _ a3 ap _ ?b8 ?b9 A4.out).mono ?_); (case b8 => repeat (first | exact (Kd.A15 b6.out HB.out) | (with_reducible refine Kd.A2r ?_ _) | (with_reducible refine Kd.A2v ?_ _) | (with_reducible refine Kd.A3c ?_))); (case b9 => exact b7.out); rintro e ef ⟨dW, rfl, ho0, hb⟩; refine ⟨_, rfl, ?_⟩; have aR := ak (Kd.A11 ho0 (A0p (kl HB))); replace ad := kB ad hb; replace ae := kB ae hb; replace HB := kH HB hb; obtain ⟨aC, aD, dd⟩ := Kd.A1w aR.out; subst dd; obtain ⟨bV, bW⟩ := kc2 ad; obtain ⟨bX, bY⟩ := kf2 ad))
 (try simp only [Act.put, List.setIfInBounds_toArray, List.set_cons_zero, List.set_cons_succ])
 go_cut [17] (fun dX wc => ∃ (kq : Nat) (aE : Bool), dX = .bool aE ∧ A0g (A0v.j0 kq a1 a2 aE ap ax = some (r1, r2)) ∧ A0g (kq ≤ k) ∧ A0g (Kd.R (Kd.int .u8) 5 wc w.heap.size (fun _ => True) (.slice aC ap.length aD) ap) ∧ A0g (wc.heap[aj]? = some (.cells #[(.slice aC ap.length aD), .int .i64 ax] 161 (0, 0))) ∧ A0g (wc.heap[ao]? = some (.cells #[(.slice none 0 0), .int .i64 0] 161 (0, 0))) ∧ A0g (Below w.heap.size w wc))
 case first =>
  have H := cY.out; clear cY
  by_cases b4 : a2 < 0
  ·rw [if_pos b4] at H; have a6 : decide (a2 < 0) = true := decide_eq_true b4; clear b4
   (first | rw [a6] | (simp only [A2b, A25]; rw [a6]) | skip)
   have H' := ak H; clear H
   go_wp2
   go_meet
   case rel => exact ⟨_, (true), kE, H', ⟨by first | omega | exact Nat.le_refl _⟩, ⟨by (with_reducible repeat (first | apply Kd.A1g | apply Kd.A1h | apply Kd.A1f)); exact Kd.A1a (Kd.A0r (p := ⟨aj, 0, none⟩) (Kd.A1c aR.out ad.out (by decide)) (fun _ hk => hk.2) (.slice aC ap.length aD)) (fun _ hk => trivial)⟩, ⟨(kb ad)⟩, ⟨(kb ae)⟩, ⟨(kl HB)⟩⟩
  ·rw [if_neg b4] at H; have a6 : decide (a2 < 0) = false := decide_eq_false b4; clear b4
   (first | rw [a6] | (simp only [A2b, A25]; rw [a6]) | skip)
   have H' := ak H; clear H
   go_wp2
   go_meet
   case rel => exact ⟨_, (decide (a2 > 64)), kE, H', ⟨by first | omega | exact Nat.le_refl _⟩, ⟨by (with_reducible repeat (first | apply Kd.A1g | apply Kd.A1h | apply Kd.A1f)); exact Kd.A1a (Kd.A0r (p := ⟨aj, 0, none⟩) (Kd.A1c aR.out ad.out (by decide)) (fun _ hk => hk.2) (.slice aC ap.length aD)) (fun _ hk => trivial)⟩, ⟨(kb ad)⟩, ⟨(kb ae)⟩, ⟨(kl HB)⟩⟩
 case rest =>
  clear cY; obtain ⟨kq, aE, rfl, HA, bZ, HO_168000, ad, ae, HB⟩ := hcut
  cases kq with
  | zero => exact absurd HA.out (by simp [A0v.j0])
  | succ d7 =>
   have H := HA.out; clear HA; simp only [A0v.j0] at H
   by_cases ca : aE = true
   ·subst ca
    rw [if_pos rfl] at H; simp only [Option.some.injEq, Prod.mk.injEq] at H; obtain ⟨rfl, rfl⟩ := H; have d8 := am.out; have d9 := an.out; obtain ⟨cc, cd⟩ := kc2 ad; obtain ⟨ce, cf⟩ := kf2 ad; obtain ⟨cg, ch⟩ := kc2 ae; obtain ⟨ci, cj⟩ := kf2 ae
    go_wp2
    refine bodyPost_ret (results_cell_row rfl _ _ ao 161 #[.slice aC ap.length aD, .int .i64 ax] (0, 0) _ rfl (kb ae) Tryd.underlying161 rfl (by kernel_rfl)) rfl ?_
    exact ⟨_, kF, by (with_reducible repeat (first | apply Kd.A1g | apply Kd.A1h | apply Kd.A1f)); exact Kd.A1a (Kd.A0r (p := ⟨ao, 1, none⟩) (Kd.A0r (p := ⟨ao, 0, none⟩) (Kd.A1c HO_168000.out ae.out (by decide)) (fun _ hk => hk.2) (.slice aC ap.length aD)) (fun _ hk => hk.2) (.int .i64 ax)) (fun _ hk => trivial), (kl HB)⟩
   ·replace ca := Bool.eq_false_iff.mpr ca; subst ca
    rw [if_neg (show ¬ (false = true) by decide)] at H; have H' := ak H; clear H
    go_wp2
    go_loopg [7] d7 (fun kq v7 w' => ∃ (af : Int) (ac : List Int) (aa : Int) (aq : Value), v7 = .int .i64 af ∧ A0g (A0v.l0 kq a1 af ac aa = some (r1, r2)) ∧ A0g (kq ≤ d7) ∧ A0g (Kd.R (Kd.int .u8) 5 w' w.heap.size (fun _ => True) aq ac) ∧ A0g (w'.heap[aj]? = some (.cells #[aq, .int .i64 aa] 161 (0, 0))) ∧ A0g (w'.heap[ao]? = some (.cells #[(.slice none 0 0), .int .i64 0] 161 (0, 0))) ∧ A0g (Below w.heap.size w w'))
    case atStart => exact ⟨(wrap64 (a2 - 1)), (ap), (ax), (.slice aC ap.length aD), kE, H', ⟨Nat.le_refl _⟩, ⟨kr HO_168000⟩, ⟨kb ad⟩, ⟨kb ae⟩, ⟨(kl HB)⟩⟩
    case round =>
     clear H'; obtain ⟨af, ac, aa, aq, rfl, HA, ck, HO_168000, ad, ae, HB⟩ := hrel
     cases gk with
     | zero => exact absurd HA.out (by simp [A0v.l0])
     | succ k2 =>
      have H := HA.out; clear HA; simp only [A0v.l0] at H
      by_cases b5 : af ≥ 0
      ·rw [if_pos b5] at H; have bA : decide (0 ≤ af) = true := decide_eq_true b5; clear b5
       by_cases bB : (Int.tmod aa 8) = 0
       ·rw [if_pos bB] at H; obtain ⟨bC, bD⟩ := kqT bB; clear bB
        by_cases cm : ac.length < 140737488355328
        ·rw [if_pos cm] at H; have LMc20 := ak cm; clear cm; obtain ⟨ag, a7⟩ : ∃ y_ : List Int, y_ = (ac ++ [0]) := ⟨_, rfl⟩
         replace H : (if 0 ≤ (wrap64 (Int.tdiv aa 8)) then (if (wrap64 (Int.tdiv aa 8)) < (ag.length : Int) then (if 0 ≤ af then (if 0 ≤ (wrap64 (7 - (Int.tmod aa 8))) then (A0v.l0 k2 a1 (wrap64 (af - 1)) (ag.set ((wrap64 (Int.tdiv aa 8)) : Int).toNat (Go.bits .or .u8 (rd ag (wrap64 (Int.tdiv aa 8))) (shl .u8 ((Go.bits .and .u64 (shr .u64 a1 af) 1) % 256) (wrap64 (7 - (Int.tmod aa 8)))))) (wrap64 (aa + 1))) else (none)) else (none)) else (none)) else (none)) = some (r1, r2) := by first | (rw [a7]; with_reducible exact H) | (have H2_ := (Option.bind_some _ _).symm.trans H; rw [a7]; with_reducible exact H2_) | (have H2_ := (Option.bind_some _ _).symm.trans H; with_reducible exact H2_) | with_reducible exact H | (rw [a7]; exact H) | exact H
         have bE := ak a7; clear a7; obtain ⟨ah, aT⟩ : ∃ j_ : Int, (wrap64 (Int.tdiv aa 8)) = j_ := ⟨_, rfl⟩
         replace H : (if 0 ≤ (ah) then (if (ah) < (ag.length : Int) then (if 0 ≤ af then (if 0 ≤ (wrap64 (7 - (Int.tmod aa 8))) then (A0v.l0 k2 a1 (wrap64 (af - 1)) (ag.set ((ah) : Int).toNat (Go.bits .or .u8 (rd ag (ah)) (shl .u8 ((Go.bits .and .u64 (shr .u64 a1 af) 1) % 256) (wrap64 (7 - (Int.tmod aa 8)))))) (wrap64 (aa + 1))) else (none)) else (none)) else (none)) else (none)) = some (r1, r2) := by first | (rw [aT] at H; exact H) | (simp only [aT] at H ⊢; exact H)
         have de : (IntKind.i64.wrap (Int.tdiv aa 8)) = ah := (A2b _).trans aT
         by_cases co : 0 ≤ (ah)
         ·rw [if_pos co] at H; have dA := decide_eq_true co; clear co
          by_cases cp : (ah) < (ag.length : Int)
          ·rw [if_pos cp] at H; have dB := decide_eq_true cp; clear cp
           by_cases bF : 0 ≤ af
           ·rw [if_pos bF] at H; have dC := eq_true bF; have dD := decide_eq_true bF; clear bF; obtain ⟨av, aG⟩ : ∃ j_ : Int, (shr .u64 a1 af) = j_ := ⟨_, rfl⟩
            replace H : (if 0 ≤ (wrap64 (7 - (Int.tmod aa 8))) then (A0v.l0 k2 a1 (wrap64 (af - 1)) (ag.set ((ah) : Int).toNat (Go.bits .or .u8 (rd ag (ah)) (shl .u8 ((Go.bits .and .u64 (av) 1) % 256) (wrap64 (7 - (Int.tmod aa 8)))))) (wrap64 (aa + 1))) else (none)) = some (r1, r2) := by first | (rw [aG] at H; exact H) | (simp only [aG] at H ⊢; exact H)
            have df : (a1 / 2 ^ min af.toNat 64) = av := aG; have dg : af ≤ 64 → (a1 / 2 ^ af.toNat) = av := shr_small aG; obtain ⟨ar, aU⟩ : ∃ j_ : Int, (wrap64 (7 - (Int.tmod aa 8))) = j_ := ⟨_, rfl⟩
            replace H : (if 0 ≤ (ar) then (A0v.l0 k2 a1 (wrap64 (af - 1)) (ag.set ((ah) : Int).toNat (Go.bits .or .u8 (rd ag (ah)) (shl .u8 ((Go.bits .and .u64 (av) 1) % 256) (ar)))) (wrap64 (aa + 1))) else (none)) = some (r1, r2) := by first | (rw [aU] at H; exact H) | (simp only [aU] at H ⊢; exact H)
            have dh : (IntKind.i64.wrap (7 - (Int.tmod aa 8))) = ar := (A2b _).trans aU
            by_cases bG : 0 ≤ (ar)
            ·rw [if_pos bG] at H; have dE := eq_true bG; have dF := decide_eq_true bG; clear bG; obtain ⟨ay, aH⟩ : ∃ j_ : Int, (shl .u8 ((Go.bits .and .u64 (av) 1) % 256) (ar)) = j_ := ⟨_, rfl⟩
             replace H : (A0v.l0 k2 a1 (wrap64 (af - 1)) (ag.set ((ah) : Int).toNat (Go.bits .or .u8 (rd ag (ah)) (ay))) (wrap64 (aa + 1))) = some (r1, r2) := by first | (rw [aH] at H; exact H) | (simp only [aH] at H ⊢; exact H)
             have bk : (IntKind.u8.wrap (((Go.bits .and .u64 (av) 1) % 256) * 2 ^ min (ar).toNat 8)) = ay := aH; have bm : (ar) ≤ 8 → (IntKind.u8.wrap (((Go.bits .and .u64 (av) 1) % 256) * 2 ^ (ar).toNat)) = ay := A3i aH; have bn : (((Go.bits .and .u64 (av) 1) % 256) * 2 ^ min (ar).toNat 8) % 256 = ay := (IntKind.wrap_u8 _).symm.trans bk
             have bo : (ar) ≤ 8 → (((Go.bits .and .u64 (av) 1) % 256) * 2 ^ (ar).toNat) % 256 = ay := fun h_ => (IntKind.wrap_u8 _).symm.trans (bm h_)
             have di : IntKind.u8.wrap (IntKind.u8.wrap (Go.bits .and .u64 (av) 1) * 2 ^ min (ar).toNat 8) = ay := by rw [IntKind.wrap_u8, IntKind.wrap_u8]; exact bn
             have dj : (ar) ≤ 8 → IntKind.u8.wrap (IntKind.u8.wrap (Go.bits .and .u64 (av) 1) * 2 ^ (ar).toNat) = ay := fun h_ => by rw [IntKind.wrap_u8, IntKind.wrap_u8]; exact bo h_
             obtain ⟨bp, a8⟩ : ∃ y_ : List Int, y_ = (ag.set ((ah) : Int).toNat (Go.bits .or .u8 (rd ag (ah)) (ay))) := ⟨_, rfl⟩
             replace H : (A0v.l0 k2 a1 (wrap64 (af - 1)) bp (wrap64 (aa + 1))) = some (r1, r2) := by first | (rw [a8]; with_reducible exact H) | (have H2_ := (Option.bind_some _ _).symm.trans H; rw [a8]; with_reducible exact H2_) | (have H2_ := (Option.bind_some _ _).symm.trans H; with_reducible exact H2_) | with_reducible exact H | (rw [a8]; exact H) | exact H
             have bH := ak a8; clear a8; have H' := ak H; clear H; have dG := am.out; have dH := an.out; obtain ⟨cq, cr⟩ := kc2 ad; obtain ⟨cs, ct⟩ := kf2 ad
             try go_wp2_with (first | ((with_reducible refine gate_builtin (b := .append) (xs := #[.tmp 30, .tmp 31]) rfl ?_); at_builtin; refine Kd.R_append (Kd.int .u8) (w0 := w) w.heap.size rfl (.tmp 30) (.tmp 31) 22 5 (.int .u8 0) 1 rfl Tryd.underlying22 info5 rfl (by decide) (by omega) aq ac 0 [.int .u8 0] (fun _ => True) (fun _ => False) rfl rfl ?aP (fun _ hk => hk.elim) ?aF ?aO ?aB ?aS ?aL ?_; (case aP => exact rfl); (case aB => exact (kl HB)); (case aF => exact (fun _ _ => trivial)); (case aO => exact (kr HO_168000)); (case aS => exact (A0p (kl HB))); (case aL => have := LMc20.out; omega); intro dY dZ ho hb hg hat; rw [← bE.out] at ho; have aV := ak (blk_grown (g := aj) (o := .cells #[aq, .int .i64 aa] 161 (0, 0)) (kb ad) hg (Kd.R_ne HO_168000.out ad.out (by decide))); have aW := ak (blk_grown (g := ao) (o := .cells #[.slice none 0 0, .int .i64 0] 161 (0, 0)) (kb ae) hg (Kd.R_ne HO_168000.out ae.out (by decide))); have aX := ak (hb); have aY := ak (ho); clear ad; clear ae; clear HB; clear HO_168000; have ad := aV; have ae := aW; have HB := aX; have al := aY; clear aV aW aX aY; clear ho hb hg hat; obtain ⟨bg, a9, dk⟩ := Kd.A1w al.out; subst dk; obtain ⟨cu, cv⟩ := kc2 ad; obtain ⟨cw, cx⟩ := kf2 ad))
             generalize hw_ : (dZ.setCell ⟨aj, 0, none⟩ (.slice bg ag.length a9)) = bI; have aV : A0g (Kd.R (Kd.int .u8) 5 bI w.heap.size (fun _ => True) (.slice bg ag.length a9) ag) := ⟨by rw [← hw_]; (with_reducible repeat (first | apply Kd.A1g | apply Kd.A1h | apply Kd.A1f)); exact Kd.A1a (Kd.A0r (p := ⟨aj, 0, none⟩) (Kd.A1c al.out ad.out (by decide)) (fun _ hk => hk.2) (.slice bg ag.length a9)) (fun _ hk => trivial)⟩; have aW : A0g (bI.heap[aj]? = some (.cells #[.slice bg ag.length a9, .int .i64 aa] 161 (0, 0))) := ⟨by rw [← hw_]; exact kb ad⟩; have aX : A0g (bI.heap[ao]? = some (.cells #[.slice none 0 0, .int .i64 0] 161 (0, 0))) := ⟨by rw [← hw_]; exact kb ae⟩; have aY : A0g (Below w.heap.size w bI) := ⟨by rw [← hw_]; repeat (first | (with_reducible first | exact HB.out | apply A0i | apply A0d | apply A0e | refine A0a ?_ aN.out | refine A0a ?_ aQ.out) | exact HB.out)⟩; clear hw_; have al := aV; have ad := aW; have ae := aX; have HB := aY; clear aV aW aX aY; replace al := ak (Kd.A1f al.out); replace ad := ak (A0o ad.out); replace ae := ak (A0o ae.out); replace HB := ak (A0e HB.out); have bq : 0 ≤ ((ah) : Int) := kD; have bh : (ah) < (ag.length : Int) := kD; obtain ⟨dI, dl, a4⟩ := Kd.at_int (Kd.A1u al.out).2.2 (ah) bq bh
             cases dl
             replace bq := eq_true bq
             (try (have aZ := bh; simp only [List.length_drop, List.length_take] at aZ; replace aZ := eq_true aZ)); replace bh := eq_true bh
             have p29 : 0 ≤ ((ah) : Int) := kD; have cy : ((ah) : Int) < ((ag.length : Int) : Int) := kD; obtain ⟨aK, ea, bJ, bK, gl29, cl29, HG29⟩ := Kd.R_form al.out (by omega)
             (first | cases bJ | (injection bJ with ea_ en_ ec_; (first | subst ea_ | (injection ea_ with ea_; subst ea_)); subst ec_; clear en_))
             have GB29 := ak bK; have GG29 := ak HG29; clear bK gl29 HG29
             (first | simp only [add_plain] at a4 | skip)
             obtain ⟨br, bs⟩ := Kd.R_celln 0 al.out ((ah) : Int) p29 cy; replace p29 := eq_true p29
             (try (have bt := cy; simp only [List.length_drop, List.length_take] at bt; replace bt := eq_true bt)); replace cy := eq_true cy
             have HP37 := Kd.R_putn al.out ((ah) : Int) (Go.bits .or .u8 (rd ag (ah)) (ay)); rw [← bH.out] at HP37; have bL := ak HP37; clear HP37
             refine A12 (n := 20) (S := fun w' => w'.cell? ⟨aj, 0, none⟩ = some (.slice (some ⟨aK, 0, none⟩) ag.length a9) ∧ w'.cell? ⟨aj, 1, none⟩ = some (.int .i64 aa) ∧ w'.cell? ⟨aK, ((ah)).toNat, none⟩ = some (.int .u8 (rd ag (ah)))) (ds := [19]) (bl 20 0) (by kernel_rfl) rfl rfl ⟨(A1v ad.out 0).trans rfl, (A1v ad.out 1).trans rfl, a4⟩ (fun hHeld => ?_); refine A13 A0v.tab9 A0v.bits9 (fun HT_ HW_ => ?_)
             generalize bI.drew = eb at al ad ae HB GG29 bL bs a4 br hHeld ⊢; refine pu 0 (some 34) (bl 20 1) (h := ?_); refine pu 2 (some 36) (bl 20 5) (h := ?_); refine pu 7 (some 41) (bl 20 133) (h := ?_); refine pu 8 (some 42) (bl 20 389) (h := ?_); refine pu 9 (some 43) (bl 20 901) (h := ?_); refine pu 10 (some 44) (bl 20 1925) (h := ?_); refine pu 11 (some 45) (bl 20 3973) (h := ?_); refine pu 12 (some 46) (bl 20 8069) (h := ?_); refine ta 1 (some 35) (bl 20 8071) (h := ?_); refine ta 3 (some 37) (bl 20 8079) (h := ?_); refine pu 4 (some 38) (bl 20 8095) (h := ?_); refine pu 5 (some 39) (bl 20 8127) (h := ?_); refine ta 6 (some 40) (bl 20 8191) (h := ?_); refine ta 13 (some 47) (bl 20 16383) (h := ?_); refine pu 14 (some 48) (bl 20 32767) (h := ?_); refine pu 15 (some 49) (bl 20 65535) (h := ?_); refine pu 16 (some 50) (bl 20 131071) (h := ?_); refine pu 17 (some 51) (bl 20 262143) (h := ?_); refine pu 18 (some 52) (bl 20 524287) (h := ?_); refine last_ (i := 19) (N := none) (bl 20 1048575) rfl rfl (A2e HT_.out (by kernel_rfl)) (by decide) (fun K hK => ?_); refine A2x (w1 := ?_) (by rfl) rfl ?_ ?_
             rotate_left
             ·go_simp
              rfl
             refine hK.out _ _ ?_; clear hK K; refine A2y (A2z HT_.out (by kernel_rfl)) ?_; generalize hw_ : (eb.setCell ⟨aK, ((ah) : Int).toNat, none⟩ (.int .u8 (Go.bits .or .u8 (rd ag (ah)) (ay)))) = cz; have aV : A0g (Kd.R (Kd.int .u8) 5 cz w.heap.size (fun _ => True) (.slice (some ⟨aK, 0, none⟩) ag.length a9) bp) := ⟨by rw [← hw_]; (with_reducible repeat (first | apply Kd.A1g | apply Kd.A1h | apply Kd.A1f)); exact bL.out⟩; have aW : A0g (cz.heap[aj]? = some (.cells #[.slice (some ⟨aK, 0, none⟩) ag.length a9, .int .i64 aa] 161 (0, 0))) := ⟨by rw [← hw_]; (with_reducible repeat (first | refine A2u ?_ _ | refine A0o ?_ | refine A2t ?_ _)); refine blk_far ?_ (by have h_ := Kd.R_ne al.out ad.out (by decide); intro e_; exact h_ (by rw [e_]; rfl)) _; (with_reducible repeat (first | refine A2u ?_ _ | refine A0o ?_ | refine A2t ?_ _)); exact ad.out⟩; have aX : A0g (cz.heap[ao]? = some (.cells #[.slice none 0 0, .int .i64 0] 161 (0, 0))) := ⟨by rw [← hw_]; (with_reducible repeat (first | refine A2u ?_ _ | refine A0o ?_ | refine A2t ?_ _)); refine blk_far ?_ (by have h_ := Kd.R_ne al.out ae.out (by decide); intro e_; exact h_ (by rw [e_]; rfl)) _; (with_reducible repeat (first | refine A2u ?_ _ | refine A0o ?_ | refine A2t ?_ _)); exact ae.out⟩; have aY : A0g (Below w.heap.size w cz) := ⟨by rw [← hw_]; repeat (first | (with_reducible first | exact HB.out | apply A0i | apply A0d | apply A0e | refine A0a ?_ GB29.out | refine A0a ?_ aN.out | refine A0a ?_ aQ.out) | exact HB.out)⟩; clear hw_; have al := aV; have ad := aW; have ae := aX; have HB := aY; clear aV aW aX aY; obtain ⟨cA, cB⟩ := kc2 ad; obtain ⟨cC, cD⟩ := kf2 ad
             try go_wp2
             go_roundg k2
             case measure => have := bZ.out; have := ck.out; omega
             case rel => exact ⟨(wrap64 (af - 1)), (bp), (wrap64 (aa + 1)), (.slice (some ⟨aK, 0, none⟩) ag.length a9), kE, H', ⟨by have := bZ.out; have := ck.out; omega⟩, ⟨by (with_reducible repeat (first | apply Kd.A1g | apply Kd.A1h | apply Kd.A1f)); exact Kd.A1a (Kd.A0r (p := ⟨aj, 1, none⟩) (Kd.A1c al.out ad.out (by decide)) (fun _ hk => hk.2) (.int .i64 (wrap64 (aa + 1)))) (fun _ hk => trivial)⟩, ⟨(kb ad)⟩, ⟨(kb ae)⟩, ⟨(kl HB)⟩⟩
            ·rw [if_neg bG] at H
             exact absurd H (by simp)
           ·rw [if_neg bF] at H
            exact absurd H (by simp)
          ·rw [if_neg cp] at H
           exact absurd H (by simp)
         ·rw [if_neg co] at H
          exact absurd H (by simp)
        ·rw [if_neg cm] at H
         exact absurd H (by simp)
       ·rw [if_neg bB] at H; obtain ⟨bC, bD⟩ := kqF bB; obtain ⟨ai, ba⟩ : ∃ j_ : Int, (wrap64 (Int.tdiv aa 8)) = j_ := ⟨_, rfl⟩
        replace H : (if 0 ≤ (ai) then (if (ai) < (ac.length : Int) then (if 0 ≤ af then (if 0 ≤ (wrap64 (7 - (Int.tmod aa 8))) then (A0v.l0 k2 a1 (wrap64 (af - 1)) (ac.set ((ai) : Int).toNat (Go.bits .or .u8 (rd ac (ai)) (shl .u8 ((Go.bits .and .u64 (shr .u64 a1 af) 1) % 256) (wrap64 (7 - (Int.tmod aa 8)))))) (wrap64 (aa + 1))) else (none)) else (none)) else (none)) else (none)) = some (r1, r2) := by first | (rw [ba] at H; exact H) | (simp only [ba] at H ⊢; exact H)
        have dm : (IntKind.i64.wrap (Int.tdiv aa 8)) = ai := (A2b _).trans ba
        by_cases cE : 0 ≤ (ai)
        ·rw [if_pos cE] at H; have dJ := decide_eq_true cE; clear cE
         by_cases cF : (ai) < (ac.length : Int)
         ·rw [if_pos cF] at H; have dK := decide_eq_true cF; clear cF
          by_cases bM : 0 ≤ af
          ·rw [if_pos bM] at H; have dL := eq_true bM; have dM := decide_eq_true bM; clear bM; obtain ⟨aw, aI⟩ : ∃ j_ : Int, (shr .u64 a1 af) = j_ := ⟨_, rfl⟩
           replace H : (if 0 ≤ (wrap64 (7 - (Int.tmod aa 8))) then (A0v.l0 k2 a1 (wrap64 (af - 1)) (ac.set ((ai) : Int).toNat (Go.bits .or .u8 (rd ac (ai)) (shl .u8 ((Go.bits .and .u64 (aw) 1) % 256) (wrap64 (7 - (Int.tmod aa 8)))))) (wrap64 (aa + 1))) else (none)) = some (r1, r2) := by first | (rw [aI] at H; exact H) | (simp only [aI] at H ⊢; exact H)
           have dn : (a1 / 2 ^ min af.toNat 64) = aw := aI; have dp : af ≤ 64 → (a1 / 2 ^ af.toNat) = aw := shr_small aI; obtain ⟨au, bb⟩ : ∃ j_ : Int, (wrap64 (7 - (Int.tmod aa 8))) = j_ := ⟨_, rfl⟩
           replace H : (if 0 ≤ (au) then (A0v.l0 k2 a1 (wrap64 (af - 1)) (ac.set ((ai) : Int).toNat (Go.bits .or .u8 (rd ac (ai)) (shl .u8 ((Go.bits .and .u64 (aw) 1) % 256) (au)))) (wrap64 (aa + 1))) else (none)) = some (r1, r2) := by first | (rw [bb] at H; exact H) | (simp only [bb] at H ⊢; exact H)
           have dq : (IntKind.i64.wrap (7 - (Int.tmod aa 8))) = au := (A2b _).trans bb
           by_cases bN : 0 ≤ (au)
           ·rw [if_pos bN] at H; have dN := eq_true bN; have dO := decide_eq_true bN; clear bN; obtain ⟨az, aJ⟩ : ∃ j_ : Int, (shl .u8 ((Go.bits .and .u64 (aw) 1) % 256) (au)) = j_ := ⟨_, rfl⟩
            replace H : (A0v.l0 k2 a1 (wrap64 (af - 1)) (ac.set ((ai) : Int).toNat (Go.bits .or .u8 (rd ac (ai)) (az))) (wrap64 (aa + 1))) = some (r1, r2) := by first | (rw [aJ] at H; exact H) | (simp only [aJ] at H ⊢; exact H)
            have bu : (IntKind.u8.wrap (((Go.bits .and .u64 (aw) 1) % 256) * 2 ^ min (au).toNat 8)) = az := aJ; have bv : (au) ≤ 8 → (IntKind.u8.wrap (((Go.bits .and .u64 (aw) 1) % 256) * 2 ^ (au).toNat)) = az := A3i aJ; have bw : (((Go.bits .and .u64 (aw) 1) % 256) * 2 ^ min (au).toNat 8) % 256 = az := (IntKind.wrap_u8 _).symm.trans bu
            have bx : (au) ≤ 8 → (((Go.bits .and .u64 (aw) 1) % 256) * 2 ^ (au).toNat) % 256 = az := fun h_ => (IntKind.wrap_u8 _).symm.trans (bv h_)
            have dr : IntKind.u8.wrap (IntKind.u8.wrap (Go.bits .and .u64 (aw) 1) * 2 ^ min (au).toNat 8) = az := by rw [IntKind.wrap_u8, IntKind.wrap_u8]; exact bw
            have du : (au) ≤ 8 → IntKind.u8.wrap (IntKind.u8.wrap (Go.bits .and .u64 (aw) 1) * 2 ^ (au).toNat) = az := fun h_ => by rw [IntKind.wrap_u8, IntKind.wrap_u8]; exact bx h_
            obtain ⟨bz, aA⟩ : ∃ y_ : List Int, y_ = (ac.set ((ai) : Int).toNat (Go.bits .or .u8 (rd ac (ai)) (az))) := ⟨_, rfl⟩
            replace H : (A0v.l0 k2 a1 (wrap64 (af - 1)) bz (wrap64 (aa + 1))) = some (r1, r2) := by first | (rw [aA]; with_reducible exact H) | (have H2_ := (Option.bind_some _ _).symm.trans H; rw [aA]; with_reducible exact H2_) | (have H2_ := (Option.bind_some _ _).symm.trans H; with_reducible exact H2_) | with_reducible exact H | (rw [aA]; exact H) | exact H
            have bO := ak aA; clear aA; have H' := ak H; clear H; have dP := am.out; have dQ := an.out; obtain ⟨cG, cH⟩ := kc2 ad; obtain ⟨cI, cJ⟩ := kf2 ad
            try go_wp2
            replace HO_168000 := ak (Kd.A1f HO_168000.out); replace ad := ak (A0o ad.out); replace ae := ak (A0o ae.out); replace HB := ak (A0e HB.out); obtain ⟨ec, bi, bP⟩ := Kd.A1w HO_168000.out
            (first | subst bP | (injection bP with f1_ f2_ f3_; have f4_ := f1_.symm; have f5_ := f3_.symm; clear f1_ f2_ f3_; subst f4_; subst f5_))
            have b0 : 0 ≤ ((ai) : Int) := kD; have bj : (ai) < (ac.length : Int) := kD; obtain ⟨dR, dw, a5⟩ := Kd.at_int (Kd.A1u HO_168000.out).2.2 (ai) b0 bj
            cases dw
            replace b0 := eq_true b0
            (try (have bc := bj; simp only [List.length_drop, List.length_take] at bc; replace bc := eq_true bc)); replace bj := eq_true bj
            have p48 : 0 ≤ ((ai) : Int) := kD; have cK : ((ai) : Int) < ((ac.length : Int) : Int) := kD; obtain ⟨aM, ed, bQ, bR, gl48, cl48, HG48⟩ := Kd.R_form HO_168000.out (by omega)
            (first | cases bQ | (injection bQ with ea_ en_ ec_; (first | subst ea_ | (injection ea_ with ea_; subst ea_)); subst ec_; clear en_))
            have GB48 := ak bR; have GG48 := ak HG48; clear bR gl48 HG48
            (first | simp only [add_plain] at a5 | skip)
            obtain ⟨b1, b2⟩ := Kd.R_celln 0 HO_168000.out ((ai) : Int) p48 cK; replace p48 := eq_true p48
            (try (have b3 := cK; simp only [List.length_drop, List.length_take] at b3; replace b3 := eq_true b3)); replace cK := eq_true cK
            have HP53 := Kd.R_putn HO_168000.out ((ai) : Int) (Go.bits .or .u8 (rd ac (ai)) (az)); rw [← bO.out] at HP53; have bS := ak HP53; clear HP53
            refine A12 (n := 20) (S := fun w' => w'.cell? ⟨aj, 0, none⟩ = some (.slice (some ⟨aM, 0, none⟩) ac.length bi) ∧ w'.cell? ⟨aj, 1, none⟩ = some (.int .i64 aa) ∧ w'.cell? ⟨aM, ((ai)).toNat, none⟩ = some (.int .u8 (rd ac (ai)))) (ds := [19]) (bl 20 0) (by kernel_rfl) rfl rfl ⟨(A1v ad.out 0).trans rfl, (A1v ad.out 1).trans rfl, a5⟩ (fun hHeld => ?_); refine A13 A0v.tab9 A0v.bits9 (fun HT_ HW_ => ?_)
            generalize wr.drew = ee at HO_168000 ad ae HB GG48 bS b2 a5 b1 hHeld ⊢; refine pu 0 (some 34) (bl 20 1) (h := ?_); refine pu 2 (some 36) (bl 20 5) (h := ?_); refine pu 7 (some 41) (bl 20 133) (h := ?_); refine pu 8 (some 42) (bl 20 389) (h := ?_); refine pu 9 (some 43) (bl 20 901) (h := ?_); refine pu 10 (some 44) (bl 20 1925) (h := ?_); refine pu 11 (some 45) (bl 20 3973) (h := ?_); refine pu 12 (some 46) (bl 20 8069) (h := ?_); refine ta 1 (some 35) (bl 20 8071) (h := ?_); refine ta 3 (some 37) (bl 20 8079) (h := ?_); refine pu 4 (some 38) (bl 20 8095) (h := ?_); refine pu 5 (some 39) (bl 20 8127) (h := ?_); refine ta 6 (some 40) (bl 20 8191) (h := ?_); refine ta 13 (some 47) (bl 20 16383) (h := ?_); refine pu 14 (some 48) (bl 20 32767) (h := ?_); refine pu 15 (some 49) (bl 20 65535) (h := ?_); refine pu 16 (some 50) (bl 20 131071) (h := ?_); refine pu 17 (some 51) (bl 20 262143) (h := ?_); refine pu 18 (some 52) (bl 20 524287) (h := ?_); refine last_ (i := 19) (N := none) (bl 20 1048575) rfl rfl (A2e HT_.out (by kernel_rfl)) (by decide) (fun K hK => ?_); refine A2x (w1 := ?_) (by rfl) rfl ?_ ?_
            rotate_left
            ·go_simp
             rfl
            refine hK.out _ _ ?_; clear hK K; refine A2y (A2z HT_.out (by kernel_rfl)) ?_; generalize hw_ : (ee.setCell ⟨aM, ((ai) : Int).toNat, none⟩ (.int .u8 (Go.bits .or .u8 (rd ac (ai)) (az)))) = cL; have aV : A0g (Kd.R (Kd.int .u8) 5 cL w.heap.size (fun _ => True) (.slice (some ⟨aM, 0, none⟩) ac.length bi) bz) := ⟨by rw [← hw_]; (with_reducible repeat (first | apply Kd.A1g | apply Kd.A1h | apply Kd.A1f)); exact bS.out⟩; have aW : A0g (cL.heap[aj]? = some (.cells #[.slice (some ⟨aM, 0, none⟩) ac.length bi, .int .i64 aa] 161 (0, 0))) := ⟨by rw [← hw_]; (with_reducible repeat (first | refine A2u ?_ _ | refine A0o ?_ | refine A2t ?_ _)); refine blk_far ?_ (by have h_ := Kd.R_ne HO_168000.out ad.out (by decide); intro e_; exact h_ (by rw [e_]; rfl)) _; (with_reducible repeat (first | refine A2u ?_ _ | refine A0o ?_ | refine A2t ?_ _)); exact ad.out⟩; have aX : A0g (cL.heap[ao]? = some (.cells #[.slice none 0 0, .int .i64 0] 161 (0, 0))) := ⟨by rw [← hw_]; (with_reducible repeat (first | refine A2u ?_ _ | refine A0o ?_ | refine A2t ?_ _)); refine blk_far ?_ (by have h_ := Kd.R_ne HO_168000.out ae.out (by decide); intro e_; exact h_ (by rw [e_]; rfl)) _; (with_reducible repeat (first | refine A2u ?_ _ | refine A0o ?_ | refine A2t ?_ _)); exact ae.out⟩; have aY : A0g (Below w.heap.size w cL) := ⟨by rw [← hw_]; repeat (first | (with_reducible first | exact HB.out | apply A0i | apply A0d | apply A0e | refine A0a ?_ GB48.out | refine A0a ?_ aN.out | refine A0a ?_ aQ.out) | exact HB.out)⟩; clear hw_; have HO_168000 := aV; have ad := aW; have ae := aX; have HB := aY; clear aV aW aX aY; obtain ⟨cM, cN⟩ := kc2 ad; obtain ⟨cO, cP⟩ := kf2 ad
            try go_wp2
            go_roundg k2
            case measure => have := bZ.out; have := ck.out; omega
            case rel => exact ⟨(wrap64 (af - 1)), (bz), (wrap64 (aa + 1)), (.slice (some ⟨aM, 0, none⟩) ac.length bi), kE, H', ⟨by have := bZ.out; have := ck.out; omega⟩, ⟨by (with_reducible repeat (first | apply Kd.A1g | apply Kd.A1h | apply Kd.A1f)); exact Kd.A1a (Kd.A0r (p := ⟨aj, 1, none⟩) (Kd.A1c HO_168000.out ad.out (by decide)) (fun _ hk => hk.2) (.int .i64 (wrap64 (aa + 1)))) (fun _ hk => trivial)⟩, ⟨(kb ad)⟩, ⟨(kb ae)⟩, ⟨(kl HB)⟩⟩
           ·rw [if_neg bN] at H
            exact absurd H (by simp)
          ·rw [if_neg bM] at H
           exact absurd H (by simp)
         ·rw [if_neg cF] at H
          exact absurd H (by simp)
        ·rw [if_neg cE] at H
         exact absurd H (by simp)
      ·rw [if_neg b5] at H; have bA : decide (0 ≤ af) = false := decide_eq_false b5; clear b5; simp only [Option.some.injEq, Prod.mk.injEq] at H; obtain ⟨rfl, rfl⟩ := H; have dS := am.out; have dT := an.out; obtain ⟨cQ, cR⟩ := kc2 ad; obtain ⟨cS, cT⟩ := kf2 ad; obtain ⟨bT, bU, dz⟩ := Kd.A1w HO_168000.out; subst dz; obtain ⟨cU, cV⟩ := kc2 ae; obtain ⟨cW, cX⟩ := kf2 ae
       go_wp2
       refine bodyPost_ret (results_cell_row rfl _ _ ao 161 #[.slice bT ac.length bU, .int .i64 aa] (0, 0) _ rfl (kb ae) Tryd.underlying161 rfl (by kernel_rfl)) rfl ?_
       exact ⟨_, kF, by (with_reducible repeat (first | apply Kd.A1g | apply Kd.A1h | apply Kd.A1f)); exact Kd.A1a (Kd.A0r (p := ⟨ao, 1, none⟩) (Kd.A0r (p := ⟨ao, 0, none⟩) (Kd.A1c HO_168000.out ae.out (by decide)) (fun _ hk => hk.2) (.slice bT ac.length bU)) (fun _ hk => hk.2) (.int .i64 aa)) (fun _ hk => trivial), (kl HB)⟩
end Go.Proofs.YtodocfjbpkicgaaDoor.All
end
section
namespace Go.Proofs.YtodocfjbpkicgaaDoor.All
open Go.RowKit Go.Proofs.YtodocfjbpkicgaaDoorW.PrintWords Go.Proofs.YtodocfjbpkicgaaDoorW.PrintLast Go.Proofs.YtodocfjbpkicgaaDoorW.PrintMore
attribute [local go_sem] A17 A18 A2o A2p A1y A1z A19 A2a
set_option linter.unusedVariables false
set_option linter.unusedSimpArgs false
def xor_window.f (a0 : Int) : Option (Int × Int) := (bits_LeadingZeros64.f a0).bind fun aa => ((bits_TrailingZeros64.f a0).bind fun ac => (some (aa, wrap64 ((wrap64 (64 - aa)) - ac))))
set_option maxHeartbeats 8000000 in
set_option maxRecDepth 100000 in
theorem xor_window.calls (a0 : Int) (r1 : Int) (r2 : Int) (w : World) (hT : A3e w) (h : xor_window.f a0 = some (r1, r2)) :
  Calls Tryd.prog 118 #[.int .u64 a0] w fun e w' => e = .returned (.tuple #[.int .i64 r1, .int .i64 r2]) ∧ A09 w w' := by
 have HT := ak hT; clear hT; have H : ((bits_LeadingZeros64.f a0).bind fun aa => ((bits_TrailingZeros64.f a0).bind fun ac => (some (aa, wrap64 ((wrap64 (64 - aa)) - ac))))) = some (r1, r2) := h; clear h; replace H := bkH H; obtain ⟨aa, A2, H⟩ := H; replace H := bkH H; obtain ⟨ac, A3, H⟩ := H; simp only [Option.some.injEq, Prod.mk.injEq] at H; obtain ⟨rfl, rfl⟩ := H
 go_enter Tryd.func118, Tryd.ntmps118
 go_wp2_with (first | ((with_reducible refine A0m (f := 122) rfl ?_); refine A07 (some 6) rfl rfl Tryd.func122 (by kernel_rfl) rfl #[.int .u64 a0] rfl km ?_; (with_reducible refine (bits_LeadingZeros64.calls a0 aa _ A2.out).mono ?_); rintro e w' ⟨rfl, ⟨nd, rfl⟩⟩; refine ⟨_, rfl, ?_⟩) | ((with_reducible refine A0m (f := 123) rfl ?_); refine A07 (some 11) rfl rfl Tryd.func123 (by kernel_rfl) rfl #[.int .u64 a0] rfl km ?_; (with_reducible refine (bits_TrailingZeros64.calls a0 ac _ ?ad A3.out).mono ?_); (case ad => exact HT.out); rintro e w' ⟨rfl, ⟨nd, rfl⟩⟩; refine ⟨_, rfl, ?_⟩))
 go_ret2
 exact ⟨by first | rfl | (simp; done) | (simp [*]; done), by repeat (first | exact A09.refl _ | apply A09.step)⟩
end Go.Proofs.YtodocfjbpkicgaaDoor.All
end
section
namespace Go.Proofs.YtodocfjbpkicgaaDoor.All
open Go.RowKit Go.Proofs.YtodocfjbpkicgaaDoorW.PrintWords Go.Proofs.YtodocfjbpkicgaaDoorW.PrintLast Go.Proofs.YtodocfjbpkicgaaDoorW.PrintMore
attribute [local go_sem] A17 A18 A2o A2p A1y A1z A19 A2a
set_option linter.unusedVariables false
set_option linter.unusedSimpArgs false
mutual
def A02.j0 : Nat → List Int → Int → Int → Bool → Option (Int × Bool)
 | 0, _, _, _, _ => none
 | k + 1, x0, x1, x2, aa => if aa = true then (some (0, false)) else (A02.l0 k x0 x1 x2 0 x1)
def A02.l0 : Nat → List Int → Int → Int → Int → Int → Option (Int × Bool)
 | 0, _, _, _, _, _ => none
 | k + 1, x0, x1, x2, x8, x9 => if x9 < (wrap64 (x1 + x2)) then (if 0 ≤ (wrap64 (Int.tdiv x9 8)) then (if (wrap64 (Int.tdiv x9 8)) < (x0.length : Int) then (if 0 ≤ (wrap64 (7 - (Int.tmod x9 8))) then (A02.l0 k x0 x1 x2 (Go.bits .or .u64 (IntKind.u64.wrap (x8 * 2)) (IntKind.u64.wrap (Go.bits .and .u8 (shr .u8 (rd x0 (wrap64 (Int.tdiv x9 8))) (wrap64 (7 - (Int.tmod x9 8)))) 1))) (wrap64 (x9 + 1))) else (none)) else (none)) else (none)) else (some (x8, true))
end
def A02.f (k : Nat) (l0 : List Int) (a1 : Int) (a2 : Int) : Option (Int × Bool) := if a2 < 0 then (A02.j0 k l0 a1 a2 true) else (if a2 > 64 then (A02.j0 k l0 a1 a2 true) else (if a1 < 0 then (A02.j0 k l0 a1 a2 true) else (if a1 > (wrap64 (8 * (l0.length : Int))) then (A02.j0 k l0 a1 a2 true) else (A02.j0 k l0 a1 a2 (decide (a2 > (wrap64 ((wrap64 (8 * (l0.length : Int))) - a1))))))))
set_option maxHeartbeats 8000000 in
set_option maxRecDepth 100000 in
theorem A02.calls (k : Nat) (A0 : Option Addr) (c0 : Nat) (l0 : List Int) (a1 : Int) (a2 : Int) (r1 : Int) (r2 : Bool) (w : World) (hr0 : Kd.C (Kd.int .u8) w A0 l0.length l0) (hc0 : l0.length ≤ c0) (h : A02.f k l0 a1 a2 = some (r1, r2)) :
  Calls Tryd.prog 82 #[.slice A0 l0.length c0, .int .i64 a1, .int .i64 a2] w fun e w' => e = .returned (.tuple #[.int .u64 r1, .bool r2]) ∧ A09 w w' := by
 have aG := ak hr0; have aI := ak hc0; clear hr0 hc0; have H : (if a2 < 0 then (A02.j0 k l0 a1 a2 true) else (if a2 > 64 then (A02.j0 k l0 a1 a2 true) else (if a1 < 0 then (A02.j0 k l0 a1 a2 true) else (if a1 > (wrap64 (8 * (l0.length : Int))) then (A02.j0 k l0 a1 a2 true) else (A02.j0 k l0 a1 a2 (decide (a2 > (wrap64 ((wrap64 (8 * (l0.length : Int))) - a1))))))))) = some (r1, r2) := h; clear h; have aw := ak H; clear H
 go_enter Tryd.func82, Tryd.ntmps82
 go_upto_region 1 with (fail)
 go_cut [35] (fun aH wc => ∃ (kq : Nat) (ag : Bool), aH = .bool ag ∧ A0g (A02.j0 kq l0 a1 a2 ag = some (r1, r2)) ∧ A0g (kq ≤ k) ∧ A09 w wc)
 case first =>
  have H := aw.out; clear aw
  by_cases c5 : a2 < 0
  ·rw [if_pos c5] at H; have ah := decide_eq_true c5; clear c5
   (first | rw [ah] | (simp only [A2b, A25]; rw [ah]) | skip)
   have H' := ak H; clear H
   go_wp2
   go_meet
   case rel => exact ⟨_, (true), kE, H', ⟨by first | omega | exact Nat.le_refl _⟩, by repeat (first | exact A09.refl _ | apply A09.step)⟩
  ·rw [if_neg c5] at H; have ah := decide_eq_false c5; clear c5
   (first | rw [ah] | (simp only [A2b, A25]; rw [ah]) | skip)
   by_cases c6 : a2 > 64
   ·rw [if_pos c6] at H; have ax : decide (64 < a2) = true := decide_eq_true c6; clear c6; have H' := ak H; clear H
    go_wp2
    go_meet
    case rel => exact ⟨_, (true), kE, H', ⟨by first | omega | exact Nat.le_refl _⟩, by repeat (first | exact A09.refl _ | apply A09.step)⟩
   ·rw [if_neg c6] at H; have ax : decide (64 < a2) = false := decide_eq_false c6; clear c6
    by_cases c7 : a1 < 0
    ·rw [if_pos c7] at H; have ay := decide_eq_true c7; clear c7; have H' := ak H; clear H
     go_wp2
     go_meet
     case rel => exact ⟨_, (true), kE, H', ⟨by first | omega | exact Nat.le_refl _⟩, by repeat (first | exact A09.refl _ | apply A09.step)⟩
    ·rw [if_neg c7] at H; have ay := decide_eq_false c7; clear c7
     by_cases c8 : a1 > (wrap64 (8 * (l0.length : Int)))
     ·rw [if_pos c8] at H; have az : decide ((wrap64 (8 * (l0.length : Int))) < a1) = true := decide_eq_true c8; clear c8; have H' := ak H; clear H
      go_wp2
      go_meet
      case rel => exact ⟨_, (true), kE, H', ⟨by first | omega | exact Nat.le_refl _⟩, by repeat (first | exact A09.refl _ | apply A09.step)⟩
     ·rw [if_neg c8] at H; have az : decide ((wrap64 (8 * (l0.length : Int))) < a1) = false := decide_eq_false c8; clear c8; have H' := ak H; clear H
      go_wp2
      go_meet
      case rel => exact ⟨_, (decide (a2 > (wrap64 ((wrap64 (8 * (l0.length : Int))) - a1)))), kE, H', ⟨by first | omega | exact Nat.le_refl _⟩, by repeat (first | exact A09.refl _ | apply A09.step)⟩
 case rest =>
  clear aw; obtain ⟨kq, ag, rfl, HA, a8, ⟨mc3, rfl⟩⟩ := hcut
  cases kq with
  | zero => exact absurd HA.out (by simp [A02.j0])
  | succ a9 =>
   have H := HA.out; clear HA; simp only [A02.j0] at H
   by_cases c9 : ag = true
   ·subst c9
    rw [if_pos rfl] at H; simp only [Option.some.injEq, Prod.mk.injEq] at H; obtain ⟨rfl, rfl⟩ := H
    go_wp2
    go_ret2
    exact ⟨by first | rfl | (simp; done) | (simp [*]; done), by repeat (first | exact A09.refl _ | apply A09.step)⟩
   ·replace c9 := Bool.eq_false_iff.mpr c9; subst c9
    rw [if_neg (show ¬ (false = true) by decide)] at H; have H' := ak H; clear H
    go_wp2
    go_loopg [8, 9] a9 (fun kq v8 v9 w' => ∃ (af : Int) (aa : Int), v8 = .int .u64 af ∧ v9 = .int .i64 aa ∧ A0g (A02.l0 kq l0 a1 a2 af aa = some (r1, r2)) ∧ A0g (kq ≤ a9) ∧ A09 w w')
    case atStart => exact ⟨(0), (a1), kE, kE, H', ⟨Nat.le_refl _⟩, by repeat (first | exact A09.refl _ | apply A09.step)⟩
    case round =>
     clear H'; obtain ⟨af, aa, rfl, rfl, HA, aA, ⟨m2, rfl⟩⟩ := hrel
     cases gk with
     | zero => exact absurd HA.out (by simp [A02.l0])
     | succ k2 =>
      have H := HA.out; clear HA; simp only [A02.l0] at H
      by_cases c10 : aa < (wrap64 (a1 + a2))
      ·rw [if_pos c10] at H; have ap := decide_eq_true c10; clear c10; obtain ⟨ac, ai⟩ : ∃ j_ : Int, (wrap64 (Int.tdiv aa 8)) = j_ := ⟨_, rfl⟩
       replace H : (if 0 ≤ (ac) then (if (ac) < (l0.length : Int) then (if 0 ≤ (wrap64 (7 - (Int.tmod aa 8))) then (A02.l0 k2 l0 a1 a2 (Go.bits .or .u64 (IntKind.u64.wrap (af * 2)) (IntKind.u64.wrap (Go.bits .and .u8 (shr .u8 (rd l0 (ac)) (wrap64 (7 - (Int.tmod aa 8)))) 1))) (wrap64 (aa + 1))) else (none)) else (none)) else (none)) = some (r1, r2) := by first | (rw [ai] at H; exact H) | (simp only [ai] at H ⊢; exact H)
       have a3 : (IntKind.i64.wrap (Int.tdiv aa 8)) = ac := (A2b _).trans ai
       by_cases ar : 0 ≤ (ac)
       ·rw [if_pos ar] at H; have aB := decide_eq_true ar; clear ar
        by_cases au : (ac) < (l0.length : Int)
        ·rw [if_pos au] at H; have aC : decide ((ac) < (l0.length : Int)) = true := decide_eq_true au; clear au; obtain ⟨ad, aj⟩ : ∃ j_ : Int, (wrap64 (7 - (Int.tmod aa 8))) = j_ := ⟨_, rfl⟩
         replace H : (if 0 ≤ (ad) then (A02.l0 k2 l0 a1 a2 (Go.bits .or .u64 (IntKind.u64.wrap (af * 2)) (IntKind.u64.wrap (Go.bits .and .u8 (shr .u8 (rd l0 (ac)) (ad)) 1))) (wrap64 (aa + 1))) else (none)) = some (r1, r2) := by first | (rw [aj] at H; exact H) | (simp only [aj] at H ⊢; exact H)
         have a4 : (IntKind.i64.wrap (7 - (Int.tmod aa 8))) = ad := (A2b _).trans aj
         by_cases aq : 0 ≤ (ad)
         ·rw [if_pos aq] at H; have aD := eq_true aq; have aE := decide_eq_true aq; clear aq; obtain ⟨am, ae⟩ : ∃ j_ : Int, (shr .u8 (rd l0 (ac)) (ad)) = j_ := ⟨_, rfl⟩
          replace H : (A02.l0 k2 l0 a1 a2 (Go.bits .or .u64 (IntKind.u64.wrap (af * 2)) (IntKind.u64.wrap (Go.bits .and .u8 (am) 1))) (wrap64 (aa + 1))) = some (r1, r2) := by first | (rw [ae] at H; exact H) | (simp only [ae] at H ⊢; exact H)
          have a5 : ((rd l0 (ac)) / 2 ^ min (ad).toNat 8) = am := ae; have a6 : (ad) ≤ 8 → ((rd l0 (ac)) / 2 ^ (ad).toNat) = am := shr_small ae; have H' := ak H; clear H; have ao : 0 ≤ ((ac) : Int) := kD; have an : (ac) < (l0.length : Int) := kD; obtain ⟨aF, a7, av⟩ := Kd.at_int aG.out (ac) ao an
          cases a7
          replace ao := eq_true ao
          (try (have al := an; simp only [List.length_drop, List.length_take] at al; replace al := eq_true al)); replace an := eq_true an
          go_wp2
          go_roundg k2
          case measure => have := a8.out; have := aA.out; omega
          case rel => exact ⟨(Go.bits .or .u64 (IntKind.u64.wrap (af * 2)) (IntKind.u64.wrap (Go.bits .and .u8 (am) 1))), (wrap64 (aa + 1)), (by first | rfl | (simp; done) | (simp only [← ae] <;> (first | rfl | simp)) | (simp [*]; done)), kE, H', ⟨by have := a8.out; have := aA.out; omega⟩, by repeat (first | exact A09.refl _ | apply A09.step)⟩
         ·rw [if_neg aq] at H
          exact absurd H (by simp)
        ·rw [if_neg au] at H
         exact absurd H (by simp)
       ·rw [if_neg ar] at H
        exact absurd H (by simp)
      ·rw [if_neg c10] at H; have ap := decide_eq_false c10; clear c10; simp only [Option.some.injEq, Prod.mk.injEq] at H; obtain ⟨rfl, rfl⟩ := H
       go_wp2
       go_ret2
       exact ⟨by first | rfl | (simp; done) | (simp [*]; done), by repeat (first | exact A09.refl _ | apply A09.step)⟩
end Go.Proofs.YtodocfjbpkicgaaDoor.All
end
section
namespace Go.Proofs.YtodocfjbpkicgaaDoor.All
open Go.RowKit Go.Proofs.YtodocfjbpkicgaaDoorW.PrintWords Go.Proofs.YtodocfjbpkicgaaDoorW.PrintLast Go.Proofs.YtodocfjbpkicgaaDoorW.PrintMore
attribute [local go_sem] A17 A18 A2o A2p A1y A1z A19 A2a
set_option linter.unusedVariables false
set_option linter.unusedSimpArgs false
theorem eqA33 (d : Nat) (w : World) (x0 y0 : Int) (x1 y1 : Int) (x2 y2 : Int) :
  (Op.equalIn (d + 2) 33 (.agg #[.int .u64 x0, .int .i64 x1, .int .i64 x2]) (.agg #[.int .u64 y0, .int .i64 y1, .int .i64 y2])).run Tryd.prog w = .ok (x0 == y0 && (x1 == y1 && (x2 == y2))) w := by
 refine eqA_of Tryd.underlying33 (by kernel_rfl) ?_
 refine A28 (by rfl) (by go_simp; rfl) (by go_simp; rfl) (by go_simp) ?_
 refine A28 (by rfl) (by go_simp; rfl) (by go_simp; rfl) (by go_simp) ?_
 exact eqf_last (by rfl) (by go_simp; rfl) (by go_simp; rfl) (by go_simp)
theorem eqA35 (d : Nat) (w : World) (x0 y0 : Int) (x1 y1 : Int) (x2 y2 : Int) (x3 y3 : Int) (x4 y4 : Int) (x5 y5 : Int) (x6 y6 : Int) (x7 y7 : Int) :
  (Op.equalIn (d + 3) 35 (.agg #[.int .i64 x0, .int .i64 x1, .int .i64 x2, .int .u64 x3, .int .u64 x4, .int .u64 x5, .int .i64 x6, .int .i64 x7]) (.agg #[.int .i64 y0, .int .i64 y1, .int .i64 y2, .int .u64 y3, .int .u64 y4, .int .u64 y5, .int .i64 y6, .int .i64 y7])).run Tryd.prog w = .ok (x0 == y0 && (x1 == y1 && (x2 == y2 && (x3 == y3 && (x4 == y4 && ((x5 == y5 && (x6 == y6 && (x7 == y7))))))))) w := by
 refine eqA_of Tryd.underlying35 (by kernel_rfl) ?_
 refine A28 (by rfl) (by go_simp; rfl) (by go_simp; rfl) (by go_simp) ?_
 refine A28 (by rfl) (by go_simp; rfl) (by go_simp; rfl) (by go_simp) ?_
 refine A28 (by rfl) (by go_simp; rfl) (by go_simp; rfl) (by go_simp) ?_
 refine A28 (by rfl) (by go_simp; rfl) (by go_simp; rfl) (by go_simp) ?_
 refine A28 (by rfl) (by go_simp; rfl) (by go_simp; rfl) (by go_simp) ?_
 exact eqf_last (by rfl) (by go_simp) (by go_simp) (eqA33 (d + 0) w _ _ _ _ _ _)
end Go.Proofs.YtodocfjbpkicgaaDoor.All
end
