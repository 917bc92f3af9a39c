-- copied by a program of the session
import Derived.Test.YtiahbcaoikoogabDoorKnAllx0
namespace Go.Proofs.YtiahbcaoikoogabDoor.All
open Go.RowKit Go.Proofs.YtiahbcaoikoogabDoorW.PrintWords Go.Proofs.YtiahbcaoikoogabDoorW.PrintLast Go.Proofs.YtiahbcaoikoogabDoorW.PrintMore
attribute [local go_sem] A2m A2n A25 A26 A2b A2c A2o A2p
set_option linter.unusedVariables false
set_option linter.unusedSimpArgs false
mutual
def A0x.j0 : Nat → Int → Int → Bool → List Int → Int → Option (List Int × Int)
 | 0, _, _, _, _, _ => none
 | k + 1, x1, x2, ad, aa, ac => if ad = true then (some (aa, ac)) else (A0x.l0 k x1 (wrap64 (x2 - 1)) aa ac)
def A0x.l0 : Nat → Int → Int → List Int → Int → Option (List Int × Int)
 | 0, _, _, _, _ => none
 | k + 1, x1, x7, ac, aa => if x7 ≥ 0 then (if (Int.tmod aa 8) = 0 then (if ac.length < 140737488355328 then ((some (ac ++ [0] : List Int)).bind fun ad => (if 0 ≤ (wrap64 (Int.tdiv aa 8)) then (if (wrap64 (Int.tdiv aa 8)) < (ad.length : Int) then (if 0 ≤ x7 then (if 0 ≤ (wrap64 (7 - (Int.tmod aa 8))) then (A0x.l0 k x1 (wrap64 (x7 - 1)) (ad.set ((wrap64 (Int.tdiv aa 8)) : Int).toNat (Go.bits .or .u8 (rd ad (wrap64 (Int.tdiv aa 8))) (shl .u8 ((Go.bits .and .u64 (shr .u64 x1 x7) 1) % 256) (wrap64 (7 - (Int.tmod aa 8)))))) (wrap64 (aa + 1))) else (none)) else (none)) else (none)) else (none))) else (none)) else (if 0 ≤ (wrap64 (Int.tdiv aa 8)) then (if (wrap64 (Int.tdiv aa 8)) < (ac.length : Int) then (if 0 ≤ x7 then (if 0 ≤ (wrap64 (7 - (Int.tmod aa 8))) then (A0x.l0 k x1 (wrap64 (x7 - 1)) (ac.set ((wrap64 (Int.tdiv aa 8)) : Int).toNat (Go.bits .or .u8 (rd ac (wrap64 (Int.tdiv aa 8))) (shl .u8 ((Go.bits .and .u64 (shr .u64 x1 x7) 1) % 256) (wrap64 (7 - (Int.tmod aa 8)))))) (wrap64 (aa + 1))) else (none)) else (none)) else (none)) else (none))) else (some (ac, aa))
end
def A0x.f (k : Nat) (ad : List Int) (aa : Int) (a1 : Int) (a2 : Int) : Option (List Int × Int) := (A10.f ad).bind fun ac => (if a2 < 0 then (A0x.j0 k a1 a2 true ac aa) else (A0x.j0 k a1 a2 (decide (a2 > 64)) ac aa))
theorem A0x.A3f : ∀ k, (∀ y0 y1 y2 y3 y4, LeO (A0x.j0 k y0 y1 y2 y3 y4) (A0x.j0 (k + 1) y0 y1 y2 y3 y4)) ∧ (∀ y0 y1 y2 y3, LeO (A0x.l0 k y0 y1 y2 y3) (A0x.l0 (k + 1) y0 y1 y2 y3))
 | 0 => ⟨fun _ _ _ _ _ r h => by simp [A0x.j0] at h, fun _ _ _ _ r h => by simp [A0x.l0] at h⟩
 | k + 1 => by
  obtain ⟨ih0, ih1⟩ := A0x.A3f k
  refine ⟨?_, ?_⟩ <;> intros <;> (first | unfold A0x.j0 | unfold A0x.l0) <;> (
   repeat' first
   | (with_reducible exact ih0 _ _ _ _ _)
   | (with_reducible exact ih1 _ _ _ _)
   | (with_reducible exact LeO.refl _)
   | (with_reducible exact LeO.none _)
   | (with_reducible refine LeO.ite ?_ ?_)
   | (with_reducible refine LeO.bind ?_ (fun _ => ?_))
   | exact ih0 _ _ _ _ _
   | exact ih1 _ _ _ _
   | exact LeO.none _
   | refine LeO.ite ?_ ?_
   | refine LeO.bind ?_ (fun _ => ?_))
theorem A0x.mono : ∀ a0 a1 a2 a3 k, LeO (A0x.f k a0 a1 a2 a3) (A0x.f (k + 1) a0 a1 a2 a3) := by
 intro a0 a1 a2 a3 k
 obtain ⟨ih0, ih1⟩ := A0x.A3f k
 unfold A0x.f
 repeat' first
   | (with_reducible exact ih0 _ _ _ _ _)
   | (with_reducible exact ih1 _ _ _ _)
   | (with_reducible exact LeO.refl _)
   | (with_reducible exact LeO.none _)
   | (with_reducible refine LeO.ite ?_ ?_)
   | (with_reducible refine LeO.bind ?_ (fun _ => ?_))
   | exact ih0 _ _ _ _ _
   | exact ih1 _ _ _ _
   | exact LeO.none _
   | refine LeO.ite ?_ ?_
   | refine LeO.bind ?_ (fun _ => ?_)
def A0x.T9 : Bool × List (List Nat × List Nat) := (true, [([], []), ([0], [0]), ([], []), ([2], [2]), ([3], [3]), ([1, 4], [1, 4]), ([5], [5]), ([], []), ([], []), ([7, 8], [7, 8]), ([9], [9]), ([10], [10]), ([], []), ([12], [12]), ([13], [13]), ([14], [14]), ([11, 15], [11, 15]), ([6, 16], [6, 16]), ([1, 4, 0, 1, 2, 3, 4, 5, 6, 7, 8, 9, 10, 11, 12, 13, 14, 15, 16, 17], [1, 4]), ([18, 17, 0, 1, 2, 3, 4, 5, 6, 7, 8, 9, 10, 11, 12, 13, 14, 15, 16, 17], [17, 18])])
def A0x.B9 : List Nat := [0, 1, 0, 4, 12, 31, 63, 0, 0, 384, 896, 1920, 0, 4096, 12288, 28672, 65408, 131071, 262143, 524287]
theorem A0x.tab9 : rtab .any (opsOf Tryd.f34 9) = A0x.T9 := by kernel_rfl
theorem A0x.bits9 : A3g A0x.T9.2 A0x.B9 = true := by kernel_rfl
set_option maxHeartbeats 8000000 in
set_option maxRecDepth 100000 in
theorem A0x.calls (k : Nat) (bn : Option Addr) (bo : Nat) (a3 : List Int) (ax : Int) (a1 : Int) (a2 : Int) (r1 : List Int) (r2 : Int) (w : World) (hr0_0 : Kd.C (Kd.int .u8) w bn a3.length a3) (hc0_0 : a3.length ≤ bo) (h : A0x.f k a3 ax a1 a2 = some (r1, r2)) :
  Calls Tryd.prog 34 #[.agg #[.slice bn a3.length bo, .int .i64 ax], .int .u64 a1, .int .i64 a2] w fun e w' => ∃ d0 : Value, e = .returned (.agg #[d0, .int .i64 r2]) ∧ Kd.R (Kd.int .u8) 5 w' w.heap.size (fun _ => True) d0 r1 ∧ Below w.heap.size w w' := by
 have hu56 := Tryd.underlying56; have bE := ak hr0_0; have bF := ak hc0_0; clear hr0_0 hc0_0; have HB := ak (Below.refl w.heap.size w); have H : ((A10.f a3).bind fun ap => (if a2 < 0 then (A0x.j0 k a1 a2 true ap ax) else (A0x.j0 k a1 a2 (decide (a2 > 64)) ap ax))) = some (r1, r2) := h; clear h; replace H := bkH H; obtain ⟨ap, A4, H⟩ := H; have dc := ak H; clear H
 go_enter Tryd.func34, Tryd.ntmps34
 go_upto_region 2 with (first | ((with_reducible refine A0p (N := 3) rfl ?_); refine bxe 3 #[.slice bn a3.length bo, .int .i64 ax] 56 (h := ?_); intro aj hg w6 hbox hb; have ad := ak (hbox); have d5 := kG hg HB; have aU := kG hg HB; replace HB := kH HB hb; clear hb hbox hg) | ((with_reducible refine A0p (N := 6) rfl ?_); refine bxe 6 #[.slice none 0 0, .int .i64 0] 56 (h := ?_); intro ao hg w7 hbox hb; have ae := ak (hbox); have d6 := kG hg HB; have aV := kG hg HB; replace HB := kH HB hb; obtain ⟨am, an⟩ := kN hg ad; replace ad := kB ad hb; clear hb hbox hg; have dU := am.out; have dV := an.out; obtain ⟨aW, aX⟩ := kc2 ad; obtain ⟨aY, aZ⟩ := kf2 ad) | ((with_reducible refine A0f (f := 38) rfl ?_); refine A03 (some 10) rfl rfl Tryd.func38 (by kernel_rfl) rfl #[.slice bn a3.length bo] rfl km ?_; (with_reducible refine (A10.calls _ _ a3 ap _ ?bG ?bH A4.out).mono ?_); (case bG => repeat (first | exact (Kd.A2g bE.out HB.out) | (with_reducible refine Kd.A1v ?_ _) | (with_reducible refine Kd.A1w ?_ _) | (with_reducible refine Kd.A2e ?_))); (case bH => exact bF.out); rintro e ef ⟨dW, rfl, ho0, hb⟩; refine ⟨_, rfl, ?_⟩; have ba := ak (Kd.A14 ho0 (A0y (kl HB))); replace ad := kB ad hb; replace ae := kB ae hb; replace HB := kH HB hb; (try clear hb); (try clear ho0); obtain ⟨aC, aD, dd⟩ := Kd.A1t ba.out; subst dd; obtain ⟨aE, aG⟩ := kc2 ad; obtain ⟨aH, aI⟩ := kf2 ad))
 (try simp only [Act.put, List.setIfInBounds_toArray, List.set_cons_zero, List.set_cons_succ])
 go_cut [17] (fun dX wc => ∃ (kq : Nat) (aJ : Bool), dX = .bool aJ ∧ A0e (A0x.j0 kq a1 a2 aJ ap ax = some (r1, r2)) ∧ A0e (kq ≤ k) ∧ A0e (Kd.R (Kd.int .u8) 5 wc w.heap.size (fun _ => True) (.slice aC ap.length aD) ap) ∧ A0e (wc.heap[aj]? = some (.cells #[(.slice aC ap.length aD), .int .i64 ax] 56 (0, 0))) ∧ A0e (wc.heap[ao]? = some (.cells #[(.slice none 0 0), .int .i64 0] 56 (0, 0))) ∧ A0e (Below w.heap.size w wc))
 case first =>
  have H := dc.out; clear dc
  by_cases bC : a2 < 0
  ·rw [if_pos bC] at H; have a6 := decide_eq_true bC; clear bC
   (first | rw [a6] | (simp only [A2w, A3k]; rw [a6]) | skip)
   have H' := ak H; clear H
   go_wp2
   go_meet
   case rel => exact ⟨_, (true), kE, H', ⟨by first | omega | exact Nat.le_refl _⟩, ⟨by (with_reducible repeat (first | apply Kd.A08 | apply Kd.A09 | apply Kd.A1b)); exact Kd.A1e (Kd.A0k (p := ⟨aj, 0, none⟩) (Kd.A00 ba.out ad.out (by decide)) (fun _ hk => hk.2) (.slice aC ap.length aD)) (fun _ hk => trivial)⟩, ⟨(kb ad)⟩, ⟨(kb ae)⟩, ⟨(kl HB)⟩⟩
  ·rw [if_neg bC] at H; have a6 := decide_eq_false bC; clear bC
   (first | rw [a6] | (simp only [A2w, A3k]; rw [a6]) | skip)
   have H' := ak H; clear H
   go_wp2
   go_meet
   case rel => exact ⟨_, (decide (a2 > 64)), kE, H', ⟨by first | omega | exact Nat.le_refl _⟩, ⟨by (with_reducible repeat (first | apply Kd.A08 | apply Kd.A09 | apply Kd.A1b)); exact Kd.A1e (Kd.A0k (p := ⟨aj, 0, none⟩) (Kd.A00 ba.out ad.out (by decide)) (fun _ hk => hk.2) (.slice aC ap.length aD)) (fun _ hk => trivial)⟩, ⟨(kb ad)⟩, ⟨(kb ae)⟩, ⟨(kl HB)⟩⟩
 case rest =>
  clear dc; (try clear aE); (try clear aG); (try clear aW); (try clear aX); (try clear aH); (try clear aI); (try clear aY); (try clear aZ); obtain ⟨kq, aJ, rfl, HA, cf, HO_116000, ad, ae, HB⟩ := hcut
  cases kq with
  | zero => exact absurd HA.out (by simp [A0x.j0])
  | succ d7 =>
   have H := HA.out; clear HA; simp only [A0x.j0] at H
   by_cases bI : aJ = true
   ·subst bI
    rw [if_pos rfl] at H; simp only [Option.some.injEq, Prod.mk.injEq] at H; obtain ⟨rfl, rfl⟩ := H; have d8 := am.out; have d9 := an.out; obtain ⟨cg, ch⟩ := kc2 ad; obtain ⟨ci, cj⟩ := kf2 ad; obtain ⟨ck, cm⟩ := kc2 ae; obtain ⟨co, cp⟩ := kf2 ae
    go_wp2
    refine bodyPost_ret (results_cell_row rfl _ _ ao 56 #[.slice aC ap.length aD, .int .i64 ax] (0, 0) _ rfl (kb ae) Tryd.underlying56 rfl (by kernel_rfl)) rfl ?_
    exact ⟨_, kF, by (with_reducible repeat (first | apply Kd.A08 | apply Kd.A09 | apply Kd.A1b)); exact Kd.A1e (Kd.A0k (p := ⟨ao, 1, none⟩) (Kd.A0k (p := ⟨ao, 0, none⟩) (Kd.A00 HO_116000.out ae.out (by decide)) (fun _ hk => hk.2) (.slice aC ap.length aD)) (fun _ hk => hk.2) (.int .i64 ax)) (fun _ hk => trivial), (kl HB)⟩
   ·replace bI := Bool.eq_false_iff.mpr bI; subst bI
    rw [if_neg (show ¬ (false = true) by decide)] at H; have H' := ak H; clear H
    go_wp2
    go_loopg [7] d7 (fun kq v7 w' => ∃ (af : Int) (ac : List Int) (aa : Int) (aq : Value), v7 = .int .i64 af ∧ A0e (A0x.l0 kq a1 af ac aa = some (r1, r2)) ∧ A0e (kq ≤ d7) ∧ A0e (Kd.R (Kd.int .u8) 5 w' w.heap.size (fun _ => True) aq ac) ∧ A0e (w'.heap[aj]? = some (.cells #[aq, .int .i64 aa] 56 (0, 0))) ∧ A0e (w'.heap[ao]? = some (.cells #[(.slice none 0 0), .int .i64 0] 56 (0, 0))) ∧ A0e (Below w.heap.size w w'))
    case atStart => exact ⟨(wrap64 (a2 - 1)), (ap), (ax), (.slice aC ap.length aD), kE, H', ⟨Nat.le_refl _⟩, ⟨kr HO_116000⟩, ⟨kb ad⟩, ⟨kb ae⟩, ⟨(kl HB)⟩⟩
    case round =>
     clear H'; (try clear bI); (try clear aE); (try clear aG); (try clear aW); (try clear aX); (try clear aH); (try clear aI); (try clear aY); (try clear aZ); obtain ⟨af, ac, aa, aq, rfl, HA, cq, HO_116000, ad, ae, HB⟩ := hrel
     cases gk with
     | zero => exact absurd HA.out (by simp [A0x.l0])
     | succ k2 =>
      have H := HA.out; clear HA; simp only [A0x.l0] at H
      by_cases bD : af ≥ 0
      ·rw [if_pos bD] at H; have bJ : decide (0 ≤ af) = true := decide_eq_true bD; clear bD
       by_cases bK : (Int.tmod aa 8) = 0
       ·rw [if_pos bK] at H; obtain ⟨bL, bM⟩ := kqT bK; clear bK
        by_cases cr : ac.length < 140737488355328
        ·rw [if_pos cr] at H; have LMc20 := ak cr; clear cr; obtain ⟨ag, a7⟩ : ∃ y_ : List Int, y_ = (ac ++ [0]) := ⟨_, rfl⟩
         replace H : (if 0 ≤ (wrap64 (Int.tdiv aa 8)) then (if (wrap64 (Int.tdiv aa 8)) < (ag.length : Int) then (if 0 ≤ af then (if 0 ≤ (wrap64 (7 - (Int.tmod aa 8))) then (A0x.l0 k2 a1 (wrap64 (af - 1)) (ag.set ((wrap64 (Int.tdiv aa 8)) : Int).toNat (Go.bits .or .u8 (rd ag (wrap64 (Int.tdiv aa 8))) (shl .u8 ((Go.bits .and .u64 (shr .u64 a1 af) 1) % 256) (wrap64 (7 - (Int.tmod aa 8)))))) (wrap64 (aa + 1))) else (none)) else (none)) else (none)) else (none)) = some (r1, r2) := by first | (rw [a7]; with_reducible exact H) | (have H2_ := (Option.bind_some _ _).symm.trans H; rw [a7]; with_reducible exact H2_) | (have H2_ := (Option.bind_some _ _).symm.trans H; with_reducible exact H2_) | with_reducible exact H | (rw [a7]; exact H) | exact H
         have bN := ak a7; clear a7; obtain ⟨ah, bb⟩ : ∃ j_ : Int, (wrap64 (Int.tdiv aa 8)) = j_ := ⟨_, rfl⟩
         replace H : (if 0 ≤ (ah) then (if (ah) < (ag.length : Int) then (if 0 ≤ af then (if 0 ≤ (wrap64 (7 - (Int.tmod aa 8))) then (A0x.l0 k2 a1 (wrap64 (af - 1)) (ag.set ((ah) : Int).toNat (Go.bits .or .u8 (rd ag (ah)) (shl .u8 ((Go.bits .and .u64 (shr .u64 a1 af) 1) % 256) (wrap64 (7 - (Int.tmod aa 8)))))) (wrap64 (aa + 1))) else (none)) else (none)) else (none)) else (none)) = some (r1, r2) := by first | (rw [bb] at H; exact H) | (simp only [bb] at H ⊢; exact H)
         have de : (IntKind.i64.wrap (Int.tdiv aa 8)) = ah := (A2w _).trans bb
         by_cases cs : 0 ≤ (ah)
         ·rw [if_pos cs] at H; have dA := decide_eq_true cs; clear cs
          by_cases ct : (ah) < (ag.length : Int)
          ·rw [if_pos ct] at H; have dB := decide_eq_true ct; clear ct
           by_cases bO : 0 ≤ af
           ·rw [if_pos bO] at H; have dC := eq_true bO; have dD := decide_eq_true bO; clear bO; obtain ⟨av, aK⟩ : ∃ j_ : Int, (shr .u64 a1 af) = j_ := ⟨_, rfl⟩
            replace H : (if 0 ≤ (wrap64 (7 - (Int.tmod aa 8))) then (A0x.l0 k2 a1 (wrap64 (af - 1)) (ag.set ((ah) : Int).toNat (Go.bits .or .u8 (rd ag (ah)) (shl .u8 ((Go.bits .and .u64 (av) 1) % 256) (wrap64 (7 - (Int.tmod aa 8)))))) (wrap64 (aa + 1))) else (none)) = some (r1, r2) := by first | (rw [aK] at H; exact H) | (simp only [aK] at H ⊢; exact H)
            have df : (a1 / 2 ^ min af.toNat 64) = av := aK; have dg : af ≤ 64 → (a1 / 2 ^ af.toNat) = av := shr_small aK; obtain ⟨ar, bc⟩ : ∃ j_ : Int, (wrap64 (7 - (Int.tmod aa 8))) = j_ := ⟨_, rfl⟩
            replace H : (if 0 ≤ (ar) then (A0x.l0 k2 a1 (wrap64 (af - 1)) (ag.set ((ah) : Int).toNat (Go.bits .or .u8 (rd ag (ah)) (shl .u8 ((Go.bits .and .u64 (av) 1) % 256) (ar)))) (wrap64 (aa + 1))) else (none)) = some (r1, r2) := by first | (rw [bc] at H; exact H) | (simp only [bc] at H ⊢; exact H)
            have dh : (IntKind.i64.wrap (7 - (Int.tmod aa 8))) = ar := (A2w _).trans bc
            by_cases bP : 0 ≤ (ar)
            ·rw [if_pos bP] at H; have dE := eq_true bP; have dF := decide_eq_true bP; clear bP; obtain ⟨ay, aM⟩ : ∃ j_ : Int, (shl .u8 ((Go.bits .and .u64 (av) 1) % 256) (ar)) = j_ := ⟨_, rfl⟩
             replace H : (A0x.l0 k2 a1 (wrap64 (af - 1)) (ag.set ((ah) : Int).toNat (Go.bits .or .u8 (rd ag (ah)) (ay))) (wrap64 (aa + 1))) = some (r1, r2) := by first | (rw [aM] at H; exact H) | (simp only [aM] at H ⊢; exact H)
             have bt : (IntKind.u8.wrap (((Go.bits .and .u64 (av) 1) % 256) * 2 ^ min (ar).toNat 8)) = ay := aM; have bu : (ar) ≤ 8 → (IntKind.u8.wrap (((Go.bits .and .u64 (av) 1) % 256) * 2 ^ (ar).toNat)) = ay := A3p aM; have bv : (((Go.bits .and .u64 (av) 1) % 256) * 2 ^ min (ar).toNat 8) % 256 = ay := (IntKind.wrap_u8 _).symm.trans bt
             have bw : (ar) ≤ 8 → (((Go.bits .and .u64 (av) 1) % 256) * 2 ^ (ar).toNat) % 256 = ay := fun h_ => (IntKind.wrap_u8 _).symm.trans (bu h_)
             have di : IntKind.u8.wrap (IntKind.u8.wrap (Go.bits .and .u64 (av) 1) * 2 ^ min (ar).toNat 8) = ay := by rw [IntKind.wrap_u8, IntKind.wrap_u8]; exact bv
             have dj : (ar) ≤ 8 → IntKind.u8.wrap (IntKind.u8.wrap (Go.bits .and .u64 (av) 1) * 2 ^ (ar).toNat) = ay := fun h_ => by rw [IntKind.wrap_u8, IntKind.wrap_u8]; exact bw h_
             obtain ⟨bx, a8⟩ : ∃ y_ : List Int, y_ = (ag.set ((ah) : Int).toNat (Go.bits .or .u8 (rd ag (ah)) (ay))) := ⟨_, rfl⟩
             replace H : (A0x.l0 k2 a1 (wrap64 (af - 1)) bx (wrap64 (aa + 1))) = some (r1, r2) := by first | (rw [a8]; with_reducible exact H) | (have H2_ := (Option.bind_some _ _).symm.trans H; rw [a8]; with_reducible exact H2_) | (have H2_ := (Option.bind_some _ _).symm.trans H; with_reducible exact H2_) | with_reducible exact H | (rw [a8]; exact H) | exact H
             have bQ := ak a8; clear a8; have H' := ak H; clear H; have dG := am.out; have dH := an.out; obtain ⟨cu, cv⟩ := kc2 ad; obtain ⟨cw, cx⟩ := kf2 ad
             try go_wp2_with (first | ((with_reducible refine A22 (b := .append) (xs := #[.tmp 30, .tmp 31]) rfl ?_); at_builtin; refine Kd.R_append (Kd.int .u8) (w0 := w) w.heap.size rfl (.tmp 30) (.tmp 31) 23 5 (.int .u8 0) 1 rfl Tryd.underlying23 info5 rfl (by decide) (by omega) aq ac 0 [.int .u8 0] (fun _ => True) (fun _ => False) rfl rfl ?aP (fun _ hk => hk.elim) ?aF ?aO ?aB ?aS ?aL ?_; (case aP => exact rfl); (case aB => exact (kl HB)); (case aF => exact (fun _ _ => trivial)); (case aO => exact (kr HO_116000)); (case aS => exact (A0y (kl HB))); (case aL => have := LMc20.out; omega); intro dY dZ ho hb hg hat; rw [← bN.out] at ho; have be := ak (A28 (g := aj) (o := .cells #[aq, .int .i64 aa] 56 (0, 0)) (kb ad) hg (Kd.R_ne HO_116000.out ad.out (by decide))); have bf := ak (A28 (g := ao) (o := .cells #[.slice none 0 0, .int .i64 0] 56 (0, 0)) (kb ae) hg (Kd.R_ne HO_116000.out ae.out (by decide))); have bg := ak (hb); have bh := ak (ho); clear ad; clear ae; clear HB; clear HO_116000; have ad := be; have ae := bf; have HB := bg; have al := bh; clear be bf bg bh; clear ho hb hg hat; obtain ⟨bp, a9, dk⟩ := Kd.A1t al.out; subst dk; obtain ⟨cy, cz⟩ := kc2 ad; obtain ⟨cA, cB⟩ := kf2 ad))
             generalize hw_ : (dZ.setCell ⟨aj, 0, none⟩ (.slice bp ag.length a9)) = bR; have be : A0e (Kd.R (Kd.int .u8) 5 bR w.heap.size (fun _ => True) (.slice bp ag.length a9) ag) := ⟨by rw [← hw_]; (with_reducible repeat (first | apply Kd.A08 | apply Kd.A09 | apply Kd.A1b)); exact Kd.A1e (Kd.A0k (p := ⟨aj, 0, none⟩) (Kd.A00 al.out ad.out (by decide)) (fun _ hk => hk.2) (.slice bp ag.length a9)) (fun _ hk => trivial)⟩; have bf : A0e (bR.heap[aj]? = some (.cells #[.slice bp ag.length a9, .int .i64 aa] 56 (0, 0))) := ⟨by rw [← hw_]; exact kb ad⟩; have bg : A0e (bR.heap[ao]? = some (.cells #[.slice none 0 0, .int .i64 0] 56 (0, 0))) := ⟨by rw [← hw_]; exact kb ae⟩; have bh : A0e (Below w.heap.size w bR) := ⟨by rw [← hw_]; repeat (first | (with_reducible first | exact HB.out | apply A0o | apply A0h | apply A0g | refine A0c ?_ aU.out | refine A0c ?_ aV.out) | exact HB.out)⟩; (try clear al); (try clear ad); (try clear ae); (try clear HB); clear hw_; have al := be; have ad := bf; have ae := bg; have HB := bh; clear be bf bg bh; replace al := ak (Kd.A1b al.out); replace ad := ak (A0i ad.out); replace ae := ak (A0i ae.out); replace HB := ak (A0g HB.out); have bz : 0 ≤ ((ah) : Int) := kD; have bq : (ah) < (ag.length : Int) := kD; obtain ⟨dI, dl, a4⟩ := Kd.at_int (Kd.A07 al.out).2.2 (ah) bz bq
             cases dl
             replace bz := eq_true bz
             (try (have bi := bq; simp only [List.length_drop, List.length_take] at bi; replace bi := eq_true bi)); replace bq := eq_true bq
             have p29 : 0 ≤ ((ah) : Int) := kD; have cC : ((ah) : Int) < ((ag.length : Int) : Int) := kD; obtain ⟨aR, ea, bS, bT, gl29, cl29, HG29⟩ := Kd.R_form al.out (by omega)
             (first | cases bS | (injection bS with ea_ en_ ec_; (first | subst ea_ | (injection ea_ with ea_; subst ea_)); subst ec_; clear en_))
             have GB29 := ak bT; have GG29 := ak HG29; clear bT gl29 HG29
             (first | simp only [add_plain] at a4 | skip)
             obtain ⟨b0, b1⟩ := Kd.R_celln 0 al.out ((ah) : Int) p29 cC; replace p29 := eq_true p29
             (try (have b2 := cC; simp only [List.length_drop, List.length_take] at b2; replace b2 := eq_true b2)); replace cC := eq_true cC
             have HP37 := Kd.R_putn al.out ((ah) : Int) (Go.bits .or .u8 (rd ag (ah)) (ay)); rw [← bQ.out] at HP37; have bU := ak HP37; clear HP37
             refine A2h (n := 20) (S := fun w' => w'.cell? ⟨aj, 0, none⟩ = some (.slice (some ⟨aR, 0, none⟩) ag.length a9) ∧ w'.cell? ⟨aj, 1, none⟩ = some (.int .i64 aa) ∧ w'.cell? ⟨aR, ((ah)).toNat, none⟩ = some (.int .u8 (rd ag (ah)))) (ds := [19]) (bl 20 0) (by kernel_rfl) rfl rfl ⟨(A2l ad.out 0).trans rfl, (A2l ad.out 1).trans rfl, a4⟩ (fun hHeld => ?_); refine A2d A0x.tab9 A0x.bits9 (fun HT_ HW_ => ?_)
             generalize bR.drew = eb at al ad ae HB GG29 bU b1 a4 b0 hHeld ⊢; refine pu 0 (some 34) (bl 20 1) (h := ?_); refine pu 2 (some 36) (bl 20 5) (h := ?_); refine pu 7 (some 41) (bl 20 133) (h := ?_); refine pu 8 (some 42) (bl 20 389) (h := ?_); refine pu 9 (some 43) (bl 20 901) (h := ?_); refine pu 10 (some 44) (bl 20 1925) (h := ?_); refine pu 11 (some 45) (bl 20 3973) (h := ?_); refine pu 12 (some 46) (bl 20 8069) (h := ?_); refine ta 1 (some 35) (bl 20 8071) (h := ?_); refine ta 3 (some 37) (bl 20 8079) (h := ?_); refine pu 4 (some 38) (bl 20 8095) (h := ?_); refine pu 5 (some 39) (bl 20 8127) (h := ?_); refine ta 6 (some 40) (bl 20 8191) (h := ?_); refine ta 13 (some 47) (bl 20 16383) (h := ?_); refine pu 14 (some 48) (bl 20 32767) (h := ?_); refine pu 15 (some 49) (bl 20 65535) (h := ?_); refine pu 16 (some 50) (bl 20 131071) (h := ?_); refine pu 17 (some 51) (bl 20 262143) (h := ?_); refine pu 18 (some 52) (bl 20 524287) (h := ?_); refine last_ (i := 19) (N := none) (bl 20 1048575) rfl rfl (A18 HT_.out (by kernel_rfl)) (by decide) (fun K hK => ?_); refine A20 (w1 := ?_) (by rfl) rfl ?_ ?_
             rotate_left
             ·go_simp
              rfl
             refine hK.out _ _ ?_; clear hK K; refine A3b (A27 HT_.out (by kernel_rfl)) ?_; generalize hw_ : (eb.setCell ⟨aR, ((ah) : Int).toNat, none⟩ (.int .u8 (Go.bits .or .u8 (rd ag (ah)) (ay)))) = cD; have be : A0e (Kd.R (Kd.int .u8) 5 cD w.heap.size (fun _ => True) (.slice (some ⟨aR, 0, none⟩) ag.length a9) bx) := ⟨by rw [← hw_]; (with_reducible repeat (first | apply Kd.A08 | apply Kd.A09 | apply Kd.A1b)); exact bU.out⟩; have bf : A0e (cD.heap[aj]? = some (.cells #[.slice (some ⟨aR, 0, none⟩) ag.length a9, .int .i64 aa] 56 (0, 0))) := ⟨by rw [← hw_]; (with_reducible repeat (first | refine A2v ?_ _ | refine A0i ?_ | refine A2q ?_ _)); refine blk_far ?_ (by have h_ := Kd.R_ne al.out ad.out (by decide); intro e_; exact h_ (by rw [e_]; rfl)) _; (with_reducible repeat (first | refine A2v ?_ _ | refine A0i ?_ | refine A2q ?_ _)); exact ad.out⟩; have bg : A0e (cD.heap[ao]? = some (.cells #[.slice none 0 0, .int .i64 0] 56 (0, 0))) := ⟨by rw [← hw_]; (with_reducible repeat (first | refine A2v ?_ _ | refine A0i ?_ | refine A2q ?_ _)); refine blk_far ?_ (by have h_ := Kd.R_ne al.out ae.out (by decide); intro e_; exact h_ (by rw [e_]; rfl)) _; (with_reducible repeat (first | refine A2v ?_ _ | refine A0i ?_ | refine A2q ?_ _)); exact ae.out⟩; have bh : A0e (Below w.heap.size w cD) := ⟨by rw [← hw_]; repeat (first | (with_reducible first | exact HB.out | apply A0o | apply A0h | apply A0g | refine A0c ?_ GB29.out | refine A0c ?_ aU.out | refine A0c ?_ aV.out) | exact HB.out)⟩; (try clear al); (try clear ad); (try clear ae); (try clear HB); clear hw_; have al := be; have ad := bf; have ae := bg; have HB := bh; clear be bf bg bh; obtain ⟨cE, cF⟩ := kc2 ad; obtain ⟨cG, cH⟩ := kf2 ad
             try go_wp2
             go_roundg k2
             case measure => have := cf.out; have := cq.out; omega
             case rel => exact ⟨(wrap64 (af - 1)), (bx), (wrap64 (aa + 1)), (.slice (some ⟨aR, 0, none⟩) ag.length a9), kE, H', ⟨by have := cf.out; have := cq.out; omega⟩, ⟨by (with_reducible repeat (first | apply Kd.A08 | apply Kd.A09 | apply Kd.A1b)); exact Kd.A1e (Kd.A0k (p := ⟨aj, 1, none⟩) (Kd.A00 al.out ad.out (by decide)) (fun _ hk => hk.2) (.int .i64 (wrap64 (aa + 1)))) (fun _ hk => trivial)⟩, ⟨(kb ad)⟩, ⟨(kb ae)⟩, ⟨(kl HB)⟩⟩
            ·rw [if_neg bP] at H
             exact absurd H (by simp)
           ·rw [if_neg bO] at H
            exact absurd H (by simp)
          ·rw [if_neg ct] at H
           exact absurd H (by simp)
         ·rw [if_neg cs] at H
          exact absurd H (by simp)
        ·rw [if_neg cr] at H
         exact absurd H (by simp)
       ·rw [if_neg bK] at H; obtain ⟨bL, bM⟩ := kqF bK; obtain ⟨ai, bj⟩ : ∃ j_ : Int, (wrap64 (Int.tdiv aa 8)) = j_ := ⟨_, rfl⟩
        replace H : (if 0 ≤ (ai) then (if (ai) < (ac.length : Int) then (if 0 ≤ af then (if 0 ≤ (wrap64 (7 - (Int.tmod aa 8))) then (A0x.l0 k2 a1 (wrap64 (af - 1)) (ac.set ((ai) : Int).toNat (Go.bits .or .u8 (rd ac (ai)) (shl .u8 ((Go.bits .and .u64 (shr .u64 a1 af) 1) % 256) (wrap64 (7 - (Int.tmod aa 8)))))) (wrap64 (aa + 1))) else (none)) else (none)) else (none)) else (none)) = some (r1, r2) := by first | (rw [bj] at H; exact H) | (simp only [bj] at H ⊢; exact H)
        have dm : (IntKind.i64.wrap (Int.tdiv aa 8)) = ai := (A2w _).trans bj
        by_cases cI : 0 ≤ (ai)
        ·rw [if_pos cI] at H; have dJ := decide_eq_true cI; clear cI
         by_cases cJ : (ai) < (ac.length : Int)
         ·rw [if_pos cJ] at H; have dK := decide_eq_true cJ; clear cJ
          by_cases bV : 0 ≤ af
          ·rw [if_pos bV] at H; have dL := eq_true bV; have dM := decide_eq_true bV; clear bV; obtain ⟨aw, aN⟩ : ∃ j_ : Int, (shr .u64 a1 af) = j_ := ⟨_, rfl⟩
           replace H : (if 0 ≤ (wrap64 (7 - (Int.tmod aa 8))) then (A0x.l0 k2 a1 (wrap64 (af - 1)) (ac.set ((ai) : Int).toNat (Go.bits .or .u8 (rd ac (ai)) (shl .u8 ((Go.bits .and .u64 (aw) 1) % 256) (wrap64 (7 - (Int.tmod aa 8)))))) (wrap64 (aa + 1))) else (none)) = some (r1, r2) := by first | (rw [aN] at H; exact H) | (simp only [aN] at H ⊢; exact H)
           have dn : (a1 / 2 ^ min af.toNat 64) = aw := aN; have dp : af ≤ 64 → (a1 / 2 ^ af.toNat) = aw := shr_small aN; obtain ⟨au, bk⟩ : ∃ j_ : Int, (wrap64 (7 - (Int.tmod aa 8))) = j_ := ⟨_, rfl⟩
           replace H : (if 0 ≤ (au) then (A0x.l0 k2 a1 (wrap64 (af - 1)) (ac.set ((ai) : Int).toNat (Go.bits .or .u8 (rd ac (ai)) (shl .u8 ((Go.bits .and .u64 (aw) 1) % 256) (au)))) (wrap64 (aa + 1))) else (none)) = some (r1, r2) := by first | (rw [bk] at H; exact H) | (simp only [bk] at H ⊢; exact H)
           have dq : (IntKind.i64.wrap (7 - (Int.tmod aa 8))) = au := (A2w _).trans bk
           by_cases bW : 0 ≤ (au)
           ·rw [if_pos bW] at H; have dN := eq_true bW; have dO := decide_eq_true bW; clear bW; obtain ⟨az, aQ⟩ : ∃ j_ : Int, (shl .u8 ((Go.bits .and .u64 (aw) 1) % 256) (au)) = j_ := ⟨_, rfl⟩
            replace H : (A0x.l0 k2 a1 (wrap64 (af - 1)) (ac.set ((ai) : Int).toNat (Go.bits .or .u8 (rd ac (ai)) (az))) (wrap64 (aa + 1))) = some (r1, r2) := by first | (rw [aQ] at H; exact H) | (simp only [aQ] at H ⊢; exact H)
            have b3 : (IntKind.u8.wrap (((Go.bits .and .u64 (aw) 1) % 256) * 2 ^ min (au).toNat 8)) = az := aQ; have b4 : (au) ≤ 8 → (IntKind.u8.wrap (((Go.bits .and .u64 (aw) 1) % 256) * 2 ^ (au).toNat)) = az := A3p aQ; have b5 : (((Go.bits .and .u64 (aw) 1) % 256) * 2 ^ min (au).toNat 8) % 256 = az := (IntKind.wrap_u8 _).symm.trans b3
            have b6 : (au) ≤ 8 → (((Go.bits .and .u64 (aw) 1) % 256) * 2 ^ (au).toNat) % 256 = az := fun h_ => (IntKind.wrap_u8 _).symm.trans (b4 h_)
            have dr : IntKind.u8.wrap (IntKind.u8.wrap (Go.bits .and .u64 (aw) 1) * 2 ^ min (au).toNat 8) = az := by rw [IntKind.wrap_u8, IntKind.wrap_u8]; exact b5
            have du : (au) ≤ 8 → IntKind.u8.wrap (IntKind.u8.wrap (Go.bits .and .u64 (aw) 1) * 2 ^ (au).toNat) = az := fun h_ => by rw [IntKind.wrap_u8, IntKind.wrap_u8]; exact b6 h_
            obtain ⟨b7, aA⟩ : ∃ y_ : List Int, y_ = (ac.set ((ai) : Int).toNat (Go.bits .or .u8 (rd ac (ai)) (az))) := ⟨_, rfl⟩
            replace H : (A0x.l0 k2 a1 (wrap64 (af - 1)) b7 (wrap64 (aa + 1))) = some (r1, r2) := by first | (rw [aA]; with_reducible exact H) | (have H2_ := (Option.bind_some _ _).symm.trans H; rw [aA]; with_reducible exact H2_) | (have H2_ := (Option.bind_some _ _).symm.trans H; with_reducible exact H2_) | with_reducible exact H | (rw [aA]; exact H) | exact H
            have bX := ak aA; clear aA; have H' := ak H; clear H; have dP := am.out; have dQ := an.out; obtain ⟨cK, cL⟩ := kc2 ad; obtain ⟨cM, cN⟩ := kf2 ad
            try go_wp2
            replace HO_116000 := ak (Kd.A1b HO_116000.out); replace ad := ak (A0i ad.out); replace ae := ak (A0i ae.out); replace HB := ak (A0g HB.out); obtain ⟨ec, br, bY⟩ := Kd.A1t HO_116000.out
            (first | subst bY | (injection bY with f1_ f2_ f3_; have f4_ := f1_.symm; have f5_ := f3_.symm; clear f1_ f2_ f3_; subst f4_; subst f5_))
            have b8 : 0 ≤ ((ai) : Int) := kD; have bs : (ai) < (ac.length : Int) := kD; obtain ⟨dR, dw, a5⟩ := Kd.at_int (Kd.A07 HO_116000.out).2.2 (ai) b8 bs
            cases dw
            replace b8 := eq_true b8
            (try (have bm := bs; simp only [List.length_drop, List.length_take] at bm; replace bm := eq_true bm)); replace bs := eq_true bs
            have p48 : 0 ≤ ((ai) : Int) := kD; have cO : ((ai) : Int) < ((ac.length : Int) : Int) := kD; obtain ⟨aT, ed, bZ, ca, gl48, cl48, HG48⟩ := Kd.R_form HO_116000.out (by omega)
            (first | cases bZ | (injection bZ with ea_ en_ ec_; (first | subst ea_ | (injection ea_ with ea_; subst ea_)); subst ec_; clear en_))
            have GB48 := ak ca; have GG48 := ak HG48; clear ca gl48 HG48
            (first | simp only [add_plain] at a5 | skip)
            obtain ⟨b9, bA⟩ := Kd.R_celln 0 HO_116000.out ((ai) : Int) p48 cO; replace p48 := eq_true p48
            (try (have bB := cO; simp only [List.length_drop, List.length_take] at bB; replace bB := eq_true bB)); replace cO := eq_true cO
            have HP53 := Kd.R_putn HO_116000.out ((ai) : Int) (Go.bits .or .u8 (rd ac (ai)) (az)); rw [← bX.out] at HP53; have cc := ak HP53; clear HP53
            refine A2h (n := 20) (S := fun w' => w'.cell? ⟨aj, 0, none⟩ = some (.slice (some ⟨aT, 0, none⟩) ac.length br) ∧ w'.cell? ⟨aj, 1, none⟩ = some (.int .i64 aa) ∧ w'.cell? ⟨aT, ((ai)).toNat, none⟩ = some (.int .u8 (rd ac (ai)))) (ds := [19]) (bl 20 0) (by kernel_rfl) rfl rfl ⟨(A2l ad.out 0).trans rfl, (A2l ad.out 1).trans rfl, a5⟩ (fun hHeld => ?_); refine A2d A0x.tab9 A0x.bits9 (fun HT_ HW_ => ?_)
            generalize wr.drew = ee at HO_116000 ad ae HB GG48 cc bA a5 b9 hHeld ⊢; refine pu 0 (some 34) (bl 20 1) (h := ?_); refine pu 2 (some 36) (bl 20 5) (h := ?_); refine pu 7 (some 41) (bl 20 133) (h := ?_); refine pu 8 (some 42) (bl 20 389) (h := ?_); refine pu 9 (some 43) (bl 20 901) (h := ?_); refine pu 10 (some 44) (bl 20 1925) (h := ?_); refine pu 11 (some 45) (bl 20 3973) (h := ?_); refine pu 12 (some 46) (bl 20 8069) (h := ?_); refine ta 1 (some 35) (bl 20 8071) (h := ?_); refine ta 3 (some 37) (bl 20 8079) (h := ?_); refine pu 4 (some 38) (bl 20 8095) (h := ?_); refine pu 5 (some 39) (bl 20 8127) (h := ?_); refine ta 6 (some 40) (bl 20 8191) (h := ?_); refine ta 13 (some 47) (bl 20 16383) (h := ?_); refine pu 14 (some 48) (bl 20 32767) (h := ?_); refine pu 15 (some 49) (bl 20 65535) (h := ?_); refine pu 16 (some 50) (bl 20 131071) (h := ?_); refine pu 17 (some 51) (bl 20 262143) (h := ?_); refine pu 18 (some 52) (bl 20 524287) (h := ?_); refine last_ (i := 19) (N := none) (bl 20 1048575) rfl rfl (A18 HT_.out (by kernel_rfl)) (by decide) (fun K hK => ?_); refine A20 (w1 := ?_) (by rfl) rfl ?_ ?_
            rotate_left
            ·go_simp
             rfl
            refine hK.out _ _ ?_; clear hK K; refine A3b (A27 HT_.out (by kernel_rfl)) ?_; generalize hw_ : (ee.setCell ⟨aT, ((ai) : Int).toNat, none⟩ (.int .u8 (Go.bits .or .u8 (rd ac (ai)) (az)))) = cP; have be : A0e (Kd.R (Kd.int .u8) 5 cP w.heap.size (fun _ => True) (.slice (some ⟨aT, 0, none⟩) ac.length br) b7) := ⟨by rw [← hw_]; (with_reducible repeat (first | apply Kd.A08 | apply Kd.A09 | apply Kd.A1b)); exact cc.out⟩; have bf : A0e (cP.heap[aj]? = some (.cells #[.slice (some ⟨aT, 0, none⟩) ac.length br, .int .i64 aa] 56 (0, 0))) := ⟨by rw [← hw_]; (with_reducible repeat (first | refine A2v ?_ _ | refine A0i ?_ | refine A2q ?_ _)); refine blk_far ?_ (by have h_ := Kd.R_ne HO_116000.out ad.out (by decide); intro e_; exact h_ (by rw [e_]; rfl)) _; (with_reducible repeat (first | refine A2v ?_ _ | refine A0i ?_ | refine A2q ?_ _)); exact ad.out⟩; have bg : A0e (cP.heap[ao]? = some (.cells #[.slice none 0 0, .int .i64 0] 56 (0, 0))) := ⟨by rw [← hw_]; (with_reducible repeat (first | refine A2v ?_ _ | refine A0i ?_ | refine A2q ?_ _)); refine blk_far ?_ (by have h_ := Kd.R_ne HO_116000.out ae.out (by decide); intro e_; exact h_ (by rw [e_]; rfl)) _; (with_reducible repeat (first | refine A2v ?_ _ | refine A0i ?_ | refine A2q ?_ _)); exact ae.out⟩; have bh : A0e (Below w.heap.size w cP) := ⟨by rw [← hw_]; repeat (first | (with_reducible first | exact HB.out | apply A0o | apply A0h | apply A0g | refine A0c ?_ GB48.out | refine A0c ?_ aU.out | refine A0c ?_ aV.out) | exact HB.out)⟩; (try clear HO_116000); (try clear ad); (try clear ae); (try clear HB); clear hw_; have HO_116000 := be; have ad := bf; have ae := bg; have HB := bh; clear be bf bg bh; obtain ⟨cQ, cR⟩ := kc2 ad; obtain ⟨cS, cT⟩ := kf2 ad
            try go_wp2
            go_roundg k2
            case measure => have := cf.out; have := cq.out; omega
            case rel => exact ⟨(wrap64 (af - 1)), (b7), (wrap64 (aa + 1)), (.slice (some ⟨aT, 0, none⟩) ac.length br), kE, H', ⟨by have := cf.out; have := cq.out; omega⟩, ⟨by (with_reducible repeat (first | apply Kd.A08 | apply Kd.A09 | apply Kd.A1b)); exact Kd.A1e (Kd.A0k (p := ⟨aj, 1, none⟩) (Kd.A00 HO_116000.out ad.out (by decide)) (fun _ hk => hk.2) (.int .i64 (wrap64 (aa + 1)))) (fun _ hk => trivial)⟩, ⟨(kb ad)⟩, ⟨(kb ae)⟩, ⟨(kl HB)⟩⟩
           ·rw [if_neg bW] at H
            exact absurd H (by simp)
          ·rw [if_neg bV] at H
           exact absurd H (by simp)
         ·rw [if_neg cJ] at H
          exact absurd H (by simp)
        ·rw [if_neg cI] at H
         exact absurd H (by simp)
      ·rw [if_neg bD] at H; have bJ : decide (0 ≤ af) = false := decide_eq_false bD; clear bD; simp only [Option.some.injEq, Prod.mk.injEq] at H; obtain ⟨rfl, rfl⟩ := H; have dS := am.out; have dT := an.out; obtain ⟨cU, cV⟩ := kc2 ad; obtain ⟨cW, cX⟩ := kf2 ad; obtain ⟨cd, ce, dz⟩ := Kd.A1t HO_116000.out; subst dz; obtain ⟨cY, cZ⟩ := kc2 ae; obtain ⟨da, db⟩ := kf2 ae
       go_wp2
       refine bodyPost_ret (results_cell_row rfl _ _ ao 56 #[.slice cd ac.length ce, .int .i64 aa] (0, 0) _ rfl (kb ae) Tryd.underlying56 rfl (by kernel_rfl)) rfl ?_
       exact ⟨_, kF, by (with_reducible repeat (first | apply Kd.A08 | apply Kd.A09 | apply Kd.A1b)); exact Kd.A1e (Kd.A0k (p := ⟨ao, 1, none⟩) (Kd.A0k (p := ⟨ao, 0, none⟩) (Kd.A00 HO_116000.out ae.out (by decide)) (fun _ hk => hk.2) (.slice cd ac.length ce)) (fun _ hk => hk.2) (.int .i64 aa)) (fun _ hk => trivial), (kl HB)⟩
end Go.Proofs.YtiahbcaoikoogabDoor.All
