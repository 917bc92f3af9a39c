-- copied by a program of the session
import Derived.Test.YtodocfjbpkicgaaDoorKuAllx0
import Derived.Test.YtodocfjbpkicgaaDoorKuXw
section
namespace Go.Proofs.YtodocfjbpkicgaaDoor.All
open Go.RowKit Go.Proofs.YtodocfjbpkicgaaDoorW.PrintWords Go.Proofs.YtodocfjbpkicgaaDoorW.PrintLast Go.Proofs.YtodocfjbpkicgaaDoorW.PrintMore
attribute [local go_sem] A2g A2h A2v A2w A15 A16 A2i A2j
set_option linter.unusedVariables false
set_option linter.unusedSimpArgs false
mutual
def A0u.j0 : Nat → Int → Int → Bool → List Int → Int → Option (List Int × Int)
 | 0, _, _, _, _, _ => none
 | k + 1, x1, x2, ad, aa, ac => if ad = true then (some (aa, ac)) else (A0u.l0 k x1 (wrap64 (x2 - 1)) aa ac)
def A0u.l0 : Nat → Int → Int → List Int → Int → Option (List Int × Int)
 | 0, _, _, _, _ => none
 | k + 1, x1, x7, ac, aa => if x7 ≥ 0 then (if (Int.tmod aa 8) = 0 then (if ac.length < 140737488355328 then ((some (ac ++ [0] : List Int)).bind fun ad => (if 0 ≤ (wrap64 (Int.tdiv aa 8)) then (if (wrap64 (Int.tdiv aa 8)) < (ad.length : Int) then (if 0 ≤ x7 then (if 0 ≤ (wrap64 (7 - (Int.tmod aa 8))) then (A0u.l0 k x1 (wrap64 (x7 - 1)) (ad.set ((wrap64 (Int.tdiv aa 8)) : Int).toNat (Go.bits .or .u8 (rd ad (wrap64 (Int.tdiv aa 8))) (shl .u8 ((Go.bits .and .u64 (shr .u64 x1 x7) 1) % 256) (wrap64 (7 - (Int.tmod aa 8)))))) (wrap64 (aa + 1))) else (none)) else (none)) else (none)) else (none))) else (none)) else (if 0 ≤ (wrap64 (Int.tdiv aa 8)) then (if (wrap64 (Int.tdiv aa 8)) < (ac.length : Int) then (if 0 ≤ x7 then (if 0 ≤ (wrap64 (7 - (Int.tmod aa 8))) then (A0u.l0 k x1 (wrap64 (x7 - 1)) (ac.set ((wrap64 (Int.tdiv aa 8)) : Int).toNat (Go.bits .or .u8 (rd ac (wrap64 (Int.tdiv aa 8))) (shl .u8 ((Go.bits .and .u64 (shr .u64 x1 x7) 1) % 256) (wrap64 (7 - (Int.tmod aa 8)))))) (wrap64 (aa + 1))) else (none)) else (none)) else (none)) else (none))) else (some (ac, aa))
end
def A0u.f (k : Nat) (ac : List Int) (a0_1 : Int) (a1 : Int) (a2 : Int) : Option (List Int × Int) := (A18.f ac).bind fun aa => (if a2 < 0 then (A0u.j0 k a1 a2 true aa a0_1) else (A0u.j0 k a1 a2 (decide (a2 > 64)) aa a0_1))
theorem A0u.A3j : ∀ k, (∀ y0 y1 y2 y3 y4, LeO (A0u.j0 k y0 y1 y2 y3 y4) (A0u.j0 (k + 1) y0 y1 y2 y3 y4)) ∧ (∀ y0 y1 y2 y3, LeO (A0u.l0 k y0 y1 y2 y3) (A0u.l0 (k + 1) y0 y1 y2 y3))
 | 0 => ⟨fun _ _ _ _ _ r h => by simp [A0u.j0] at h, fun _ _ _ _ r h => by simp [A0u.l0] at h⟩
 | k + 1 => by
  obtain ⟨ih0, ih1⟩ := A0u.A3j k
  refine ⟨?_, ?_⟩ <;> intros <;> (first | unfold A0u.j0 | unfold A0u.l0) <;> (
   repeat' first
   | (with_reducible exact ih0 _ _ _ _ _)
   | (with_reducible exact ih1 _ _ _ _)
   | (with_reducible exact LeO.refl _)
   | (with_reducible exact LeO.none _)
   | (with_reducible refine LeO.ite ?_ ?_)
   | (with_reducible refine LeO.bind ?_ (fun _ => ?_))
   | exact ih0 _ _ _ _ _
   | exact ih1 _ _ _ _
   | exact LeO.none _
   | refine LeO.ite ?_ ?_
   | refine LeO.bind ?_ (fun _ => ?_))
theorem A0u.mono : ∀ a0 a1 a2 a3 k, LeO (A0u.f k a0 a1 a2 a3) (A0u.f (k + 1) a0 a1 a2 a3) := by
 intro a0 a1 a2 a3 k
 obtain ⟨ih0, ih1⟩ := A0u.A3j k
 unfold A0u.f
 repeat' first
   | (with_reducible exact ih0 _ _ _ _ _)
   | (with_reducible exact ih1 _ _ _ _)
   | (with_reducible exact LeO.refl _)
   | (with_reducible exact LeO.none _)
   | (with_reducible refine LeO.ite ?_ ?_)
   | (with_reducible refine LeO.bind ?_ (fun _ => ?_))
   | exact ih0 _ _ _ _ _
   | exact ih1 _ _ _ _
   | exact LeO.none _
   | refine LeO.ite ?_ ?_
   | refine LeO.bind ?_ (fun _ => ?_)
def A0u.T9 : Bool × List (List Nat × List Nat) := (true, [([], []), ([0], [0]), ([], []), ([2], [2]), ([3], [3]), ([1, 4], [1, 4]), ([5], [5]), ([], []), ([], []), ([7, 8], [7, 8]), ([9], [9]), ([10], [10]), ([], []), ([12], [12]), ([13], [13]), ([14], [14]), ([11, 15], [11, 15]), ([6, 16], [6, 16]), ([1, 4, 0, 1, 2, 3, 4, 5, 6, 7, 8, 9, 10, 11, 12, 13, 14, 15, 16, 17], [1, 4]), ([18, 17, 0, 1, 2, 3, 4, 5, 6, 7, 8, 9, 10, 11, 12, 13, 14, 15, 16, 17], [17, 18])])
def A0u.B9 : List Nat := [0, 1, 0, 4, 12, 31, 63, 0, 0, 384, 896, 1920, 0, 4096, 12288, 28672, 65408, 131071, 262143, 524287]
theorem A0u.tab9 : rtab .any (opsOf Tryd.f111 9) = A0u.T9 := by kernel_rfl
theorem A0u.bits9 : A3f A0u.T9.2 A0u.B9 = true := by kernel_rfl
set_option maxHeartbeats 8000000 in
set_option maxRecDepth 100000 in
theorem A0u.calls (k : Nat) (bc : Option Addr) (be : Nat) (az : List Int) (a0_1 : Int) (a1 : Int) (a2 : Int) (r1 : List Int) (r2 : Int) (w : World) (hr0_0 : Kd.C (Kd.int .u8) w bc az.length az) (hc0_0 : az.length ≤ be) (h : A0u.f k az a0_1 a1 a2 = some (r1, r2)) :
  Calls Tryd.prog 111 #[.agg #[.slice bc az.length be, .int .i64 a0_1], .int .u64 a1, .int .i64 a2] w fun e w' => ∃ dz : Value, e = .returned (.agg #[dz, .int .i64 r2]) ∧ Kd.R (Kd.int .u8) 5 w' w.heap.size (fun _ => True) dz r1 ∧ Below w.heap.size w w' := by
 have hu161 := Tryd.underlying161; have b5 := ak hr0_0; have b6 := ak hc0_0; clear hr0_0 hc0_0; have HB := ak (Below.refl w.heap.size w); have H : ((A18.f az).bind fun ap => (if a2 < 0 then (A0u.j0 k a1 a2 true ap a0_1) else (A0u.j0 k a1 a2 (decide (a2 > 64)) ap a0_1))) = some (r1, r2) := h; clear h; replace H := bkH H; obtain ⟨ap, A4, H⟩ := H; have cX := ak H; clear H
 go_enter Tryd.func111, Tryd.ntmps111
 go_upto_region 2 with (first | ((with_reducible refine A0v (N := 3) rfl ?_); refine bxe 3 #[.slice bc az.length be, .int .i64 a0_1] 161 (h := ?_); intro aj hg w6 hbox hb; have ad := ak (hbox); have d0 := kG hg HB; have aM := kG hg HB; replace HB := kH HB hb; clear hb hbox hg) | ((with_reducible refine A0v (N := 6) rfl ?_); refine bxe 6 #[.slice none 0 0, .int .i64 0] 161 (h := ?_); intro ao hg w7 hbox hb; have ae := ak (hbox); have d5 := kG hg HB; have aN := kG hg HB; replace HB := kH HB hb; obtain ⟨am, an⟩ := kN hg ad; replace ad := kB ad hb; clear hb hbox hg; have dT := am.out; have dU := an.out; obtain ⟨cY, cZ⟩ := kc2 ad; obtain ⟨da, db⟩ := kf2 ad) | ((with_reducible refine A0j (f := 113) rfl ?_); refine A1f (some 10) rfl rfl Tryd.func113 (by kernel_rfl) rfl #[.slice bc az.length be] rfl km ?_; (with_reducible refine (A18.calls _ _ az ap _ ?b7 ?b8 A4.out).mono ?_); (case b7 => repeat (first | exact (Kd.A2e b5.out HB.out) | (with_reducible refine Kd.A1s ?_ _) | (with_reducible refine Kd.A1q ?_ _) | (with_reducible refine Kd.A17 ?_))); (case b8 => exact b6.out); rintro e ee ⟨dV, rfl, ho0, hb⟩; refine ⟨_, rfl, ?_⟩; have aQ := ak (Kd.A14 ho0 (A0q (kl HB))); replace ad := kB ad hb; replace ae := kB ae hb; replace HB := kH HB hb; obtain ⟨aA, aC, dc⟩ := Kd.A12 aQ.out; subst dc; obtain ⟨bU, bV⟩ := kc2 ad; obtain ⟨bW, bX⟩ := kf2 ad))
 (try simp only [Act.put, List.setIfInBounds_toArray, List.set_cons_zero, List.set_cons_succ])
 go_cut [17] (fun dW wc => ∃ (kq : Nat) (aD : Bool), dW = .bool aD ∧ A0d (A0u.j0 kq a1 a2 aD ap a0_1 = some (r1, r2)) ∧ A0d (kq ≤ k) ∧ A0d (Kd.R (Kd.int .u8) 5 wc w.heap.size (fun _ => True) (.slice aA ap.length aC) ap) ∧ A0d (wc.heap[aj]? = some (.cells #[(.slice aA ap.length aC), .int .i64 a0_1] 161 (0, 0))) ∧ A0d (wc.heap[ao]? = some (.cells #[(.slice none 0 0), .int .i64 0] 161 (0, 0))) ∧ A0d (Below w.heap.size w wc))
 case first =>
  have H := cX.out; clear cX
  by_cases b3 : a2 < 0
  ·rw [if_pos b3] at H; have a5 := decide_eq_true b3; clear b3
   (first | rw [a5] | (simp only [A23, A3x]; rw [a5]) | skip)
   have H' := ak H; clear H
   go_wp2
   go_meet
   case rel => exact ⟨_, (true), kE, H', ⟨by first | omega | exact Nat.le_refl _⟩, ⟨by (with_reducible repeat (first | apply Kd.A1c | apply Kd.A1d | apply Kd.A06)); exact Kd.A1h (Kd.A0s (p := ⟨aj, 0, none⟩) (Kd.A1n aQ.out ad.out (by decide)) (fun _ hk => hk.2) (.slice aA ap.length aC)) (fun _ hk => trivial)⟩, ⟨(kb ad)⟩, ⟨(kb ae)⟩, ⟨(kl HB)⟩⟩
  ·rw [if_neg b3] at H; have a5 := decide_eq_false b3; clear b3
   (first | rw [a5] | (simp only [A23, A3x]; rw [a5]) | skip)
   have H' := ak H; clear H
   go_wp2
   go_meet
   case rel => exact ⟨_, (decide (a2 > 64)), kE, H', ⟨by first | omega | exact Nat.le_refl _⟩, ⟨by (with_reducible repeat (first | apply Kd.A1c | apply Kd.A1d | apply Kd.A06)); exact Kd.A1h (Kd.A0s (p := ⟨aj, 0, none⟩) (Kd.A1n aQ.out ad.out (by decide)) (fun _ hk => hk.2) (.slice aA ap.length aC)) (fun _ hk => trivial)⟩, ⟨(kb ad)⟩, ⟨(kb ae)⟩, ⟨(kl HB)⟩⟩
 case rest =>
  clear cX; obtain ⟨kq, aD, rfl, HA, bY, HO_168000, ad, ae, HB⟩ := hcut
  cases kq with
  | zero => exact absurd HA.out (by simp [A0u.j0])
  | succ d6 =>
   have H := HA.out; clear HA; simp only [A0u.j0] at H
   by_cases bZ : aD = true
   ·subst bZ
    rw [if_pos rfl] at H; simp only [Option.some.injEq, Prod.mk.injEq] at H; obtain ⟨rfl, rfl⟩ := H; have d7 := am.out; have d8 := an.out; obtain ⟨ca, cc⟩ := kc2 ad; obtain ⟨cd, ce⟩ := kf2 ad; obtain ⟨cf, cg⟩ := kc2 ae; obtain ⟨ch, ci⟩ := kf2 ae
    go_wp2
    refine bodyPost_ret (results_cell_row rfl _ _ ao 161 #[.slice aA ap.length aC, .int .i64 a0_1] (0, 0) _ rfl (kb ae) Tryd.underlying161 rfl (by kernel_rfl)) rfl ?_
    exact ⟨_, kF, by (with_reducible repeat (first | apply Kd.A1c | apply Kd.A1d | apply Kd.A06)); exact Kd.A1h (Kd.A0s (p := ⟨ao, 1, none⟩) (Kd.A0s (p := ⟨ao, 0, none⟩) (Kd.A1n HO_168000.out ae.out (by decide)) (fun _ hk => hk.2) (.slice aA ap.length aC)) (fun _ hk => hk.2) (.int .i64 a0_1)) (fun _ hk => trivial), (kl HB)⟩
   ·replace bZ := Bool.eq_false_iff.mpr bZ; subst bZ
    rw [if_neg (show ¬ (false = true) by decide)] at H; have H' := ak H; clear H
    go_wp2
    go_loopg [7] d6 (fun kq v7 w' => ∃ (af : Int) (ac : List Int) (aa : Int) (aq : Value), v7 = .int .i64 af ∧ A0d (A0u.l0 kq a1 af ac aa = some (r1, r2)) ∧ A0d (kq ≤ d6) ∧ A0d (Kd.R (Kd.int .u8) 5 w' w.heap.size (fun _ => True) aq ac) ∧ A0d (w'.heap[aj]? = some (.cells #[aq, .int .i64 aa] 161 (0, 0))) ∧ A0d (w'.heap[ao]? = some (.cells #[(.slice none 0 0), .int .i64 0] 161 (0, 0))) ∧ A0d (Below w.heap.size w w'))
    case atStart => exact ⟨(wrap64 (a2 - 1)), (ap), (a0_1), (.slice aA ap.length aC), kE, H', ⟨Nat.le_refl _⟩, ⟨kr HO_168000⟩, ⟨kb ad⟩, ⟨kb ae⟩, ⟨(kl HB)⟩⟩
    case round =>
     clear H'; obtain ⟨af, ac, aa, aq, rfl, HA, cj, HO_168000, ad, ae, HB⟩ := hrel
     cases gk with
     | zero => exact absurd HA.out (by simp [A0u.l0])
     | succ k2 =>
      have H := HA.out; clear HA; simp only [A0u.l0] at H
      by_cases b4 : af ≥ 0
      ·rw [if_pos b4] at H; have b9 : decide (0 ≤ af) = true := decide_eq_true b4; clear b4
       by_cases bA : (Int.tmod aa 8) = 0
       ·rw [if_pos bA] at H; obtain ⟨bB, bC⟩ := kqT bA; clear bA
        by_cases ck : ac.length < 140737488355328
        ·rw [if_pos ck] at H; have LMc20 := ak ck; clear ck; obtain ⟨ag, a6⟩ : ∃ y_ : List Int, y_ = (ac ++ [0]) := ⟨_, rfl⟩
         replace H : (if 0 ≤ (wrap64 (Int.tdiv aa 8)) then (if (wrap64 (Int.tdiv aa 8)) < (ag.length : Int) then (if 0 ≤ af then (if 0 ≤ (wrap64 (7 - (Int.tmod aa 8))) then (A0u.l0 k2 a1 (wrap64 (af - 1)) (ag.set ((wrap64 (Int.tdiv aa 8)) : Int).toNat (Go.bits .or .u8 (rd ag (wrap64 (Int.tdiv aa 8))) (shl .u8 ((Go.bits .and .u64 (shr .u64 a1 af) 1) % 256) (wrap64 (7 - (Int.tmod aa 8)))))) (wrap64 (aa + 1))) else (none)) else (none)) else (none)) else (none)) = some (r1, r2) := by first | (rw [a6]; with_reducible exact H) | (have H2_ := (Option.bind_some _ _).symm.trans H; rw [a6]; with_reducible exact H2_) | (have H2_ := (Option.bind_some _ _).symm.trans H; with_reducible exact H2_) | with_reducible exact H | (rw [a6]; exact H) | exact H
         have bD := ak a6; clear a6; obtain ⟨ah, aR⟩ : ∃ j_ : Int, (wrap64 (Int.tdiv aa 8)) = j_ := ⟨_, rfl⟩
         replace H : (if 0 ≤ (ah) then (if (ah) < (ag.length : Int) then (if 0 ≤ af then (if 0 ≤ (wrap64 (7 - (Int.tmod aa 8))) then (A0u.l0 k2 a1 (wrap64 (af - 1)) (ag.set ((ah) : Int).toNat (Go.bits .or .u8 (rd ag (ah)) (shl .u8 ((Go.bits .and .u64 (shr .u64 a1 af) 1) % 256) (wrap64 (7 - (Int.tmod aa 8)))))) (wrap64 (aa + 1))) else (none)) else (none)) else (none)) else (none)) = some (r1, r2) := by first | (rw [aR] at H; exact H) | (simp only [aR] at H ⊢; exact H)
         have dd : (IntKind.i64.wrap (Int.tdiv aa 8)) = ah := (A23 _).trans aR
         by_cases cm : 0 ≤ (ah)
         ·rw [if_pos cm] at H; have d9 := decide_eq_true cm; clear cm
          by_cases co : (ah) < (ag.length : Int)
          ·rw [if_pos co] at H; have dA := decide_eq_true co; clear co
           by_cases bE : 0 ≤ af
           ·rw [if_pos bE] at H; have dB := eq_true bE; have dC := decide_eq_true bE; clear bE; obtain ⟨av, aE⟩ : ∃ j_ : Int, (shr .u64 a1 af) = j_ := ⟨_, rfl⟩
            replace H : (if 0 ≤ (wrap64 (7 - (Int.tmod aa 8))) then (A0u.l0 k2 a1 (wrap64 (af - 1)) (ag.set ((ah) : Int).toNat (Go.bits .or .u8 (rd ag (ah)) (shl .u8 ((Go.bits .and .u64 (av) 1) % 256) (wrap64 (7 - (Int.tmod aa 8)))))) (wrap64 (aa + 1))) else (none)) = some (r1, r2) := by first | (rw [aE] at H; exact H) | (simp only [aE] at H ⊢; exact H)
            have de : (a1 / 2 ^ min af.toNat 64) = av := aE; have df : af ≤ 64 → (a1 / 2 ^ af.toNat) = av := shr_small aE; obtain ⟨ar, aT⟩ : ∃ j_ : Int, (wrap64 (7 - (Int.tmod aa 8))) = j_ := ⟨_, rfl⟩
            replace H : (if 0 ≤ (ar) then (A0u.l0 k2 a1 (wrap64 (af - 1)) (ag.set ((ah) : Int).toNat (Go.bits .or .u8 (rd ag (ah)) (shl .u8 ((Go.bits .and .u64 (av) 1) % 256) (ar)))) (wrap64 (aa + 1))) else (none)) = some (r1, r2) := by first | (rw [aT] at H; exact H) | (simp only [aT] at H ⊢; exact H)
            have dg : (IntKind.i64.wrap (7 - (Int.tmod aa 8))) = ar := (A23 _).trans aT
            by_cases bF : 0 ≤ (ar)
            ·rw [if_pos bF] at H; have dD := eq_true bF; have dE := decide_eq_true bF; clear bF; obtain ⟨ax, aG⟩ : ∃ j_ : Int, (shl .u8 ((Go.bits .and .u64 (av) 1) % 256) (ar)) = j_ := ⟨_, rfl⟩
             replace H : (A0u.l0 k2 a1 (wrap64 (af - 1)) (ag.set ((ah) : Int).toNat (Go.bits .or .u8 (rd ag (ah)) (ax))) (wrap64 (aa + 1))) = some (r1, r2) := by first | (rw [aG] at H; exact H) | (simp only [aG] at H ⊢; exact H)
             have bj : (IntKind.u8.wrap (((Go.bits .and .u64 (av) 1) % 256) * 2 ^ min (ar).toNat 8)) = ax := aG; have bk : (ar) ≤ 8 → (IntKind.u8.wrap (((Go.bits .and .u64 (av) 1) % 256) * 2 ^ (ar).toNat)) = ax := shl_small aG; have bm : (((Go.bits .and .u64 (av) 1) % 256) * 2 ^ min (ar).toNat 8) % 256 = ax := (IntKind.wrap_u8 _).symm.trans bj
             have bn : (ar) ≤ 8 → (((Go.bits .and .u64 (av) 1) % 256) * 2 ^ (ar).toNat) % 256 = ax := fun h_ => (IntKind.wrap_u8 _).symm.trans (bk h_)
             have dh : IntKind.u8.wrap (IntKind.u8.wrap (Go.bits .and .u64 (av) 1) * 2 ^ min (ar).toNat 8) = ax := by rw [IntKind.wrap_u8, IntKind.wrap_u8]; exact bm
             have di : (ar) ≤ 8 → IntKind.u8.wrap (IntKind.u8.wrap (Go.bits .and .u64 (av) 1) * 2 ^ (ar).toNat) = ax := fun h_ => by rw [IntKind.wrap_u8, IntKind.wrap_u8]; exact bn h_
             obtain ⟨bo, a7⟩ : ∃ y_ : List Int, y_ = (ag.set ((ah) : Int).toNat (Go.bits .or .u8 (rd ag (ah)) (ax))) := ⟨_, rfl⟩
             replace H : (A0u.l0 k2 a1 (wrap64 (af - 1)) bo (wrap64 (aa + 1))) = some (r1, r2) := by first | (rw [a7]; with_reducible exact H) | (have H2_ := (Option.bind_some _ _).symm.trans H; rw [a7]; with_reducible exact H2_) | (have H2_ := (Option.bind_some _ _).symm.trans H; with_reducible exact H2_) | with_reducible exact H | (rw [a7]; exact H) | exact H
             have bG := ak a7; clear a7; have H' := ak H; clear H; have dF := am.out; have dG := an.out; obtain ⟨cp, cq⟩ := kc2 ad; obtain ⟨cr, cs⟩ := kf2 ad
             try go_wp2_with (first | ((with_reducible refine A22 (b := .append) (xs := #[.tmp 30, .tmp 31]) rfl ?_); at_builtin; refine Kd.R_append (Kd.int .u8) (w0 := w) w.heap.size rfl (.tmp 30) (.tmp 31) 22 5 (.int .u8 0) 1 rfl Tryd.underlying22 info5 rfl (by decide) (by omega) aq ac 0 [.int .u8 0] (fun _ => True) (fun _ => False) rfl rfl ?aP (fun _ hk => hk.elim) ?aF ?aO ?aB ?aS ?aL ?_; (case aP => exact rfl); (case aB => exact (kl HB)); (case aF => exact (fun _ _ => trivial)); (case aO => exact (kr HO_168000)); (case aS => exact (A0q (kl HB))); (case aL => have := LMc20.out; omega); intro dX dY ho hb hg hat; rw [← bD.out] at ho; have aU := ak (A1w (g := aj) (o := .cells #[aq, .int .i64 aa] 161 (0, 0)) (kb ad) hg (Kd.R_ne HO_168000.out ad.out (by decide))); have aV := ak (A1w (g := ao) (o := .cells #[.slice none 0 0, .int .i64 0] 161 (0, 0)) (kb ae) hg (Kd.R_ne HO_168000.out ae.out (by decide))); have aW := ak (hb); have aX := ak (ho); clear ad; clear ae; clear HB; clear HO_168000; have ad := aU; have ae := aV; have HB := aW; have al := aX; clear aU aV aW aX; clear ho hb hg hat; obtain ⟨bf, a8, dj⟩ := Kd.A12 al.out; subst dj; obtain ⟨ct, cu⟩ := kc2 ad; obtain ⟨cv, cw⟩ := kf2 ad))
             generalize hw_ : (dY.setCell ⟨aj, 0, none⟩ (.slice bf ag.length a8)) = bH; have aU : A0d (Kd.R (Kd.int .u8) 5 bH w.heap.size (fun _ => True) (.slice bf ag.length a8) ag) := ⟨by rw [← hw_]; (with_reducible repeat (first | apply Kd.A1c | apply Kd.A1d | apply Kd.A06)); exact Kd.A1h (Kd.A0s (p := ⟨aj, 0, none⟩) (Kd.A1n al.out ad.out (by decide)) (fun _ hk => hk.2) (.slice bf ag.length a8)) (fun _ hk => trivial)⟩; have aV : A0d (bH.heap[aj]? = some (.cells #[.slice bf ag.length a8, .int .i64 aa] 161 (0, 0))) := ⟨by rw [← hw_]; exact kb ad⟩; have aW : A0d (bH.heap[ao]? = some (.cells #[.slice none 0 0, .int .i64 0] 161 (0, 0))) := ⟨by rw [← hw_]; exact kb ae⟩; have aX : A0d (Below w.heap.size w bH) := ⟨by rw [← hw_]; repeat (first | (with_reducible first | exact HB.out | apply A1j | apply A1g | apply A0p | refine A09 ?_ aM.out | refine A09 ?_ aN.out) | exact HB.out)⟩; clear hw_; have al := aU; have ad := aV; have ae := aW; have HB := aX; clear aU aV aW aX; replace al := ak (Kd.A06 al.out); replace ad := ak (A0i ad.out); replace ae := ak (A0i ae.out); replace HB := ak (A0p HB.out); have bp : 0 ≤ ((ah) : Int) := kD; have bg : (ah) < (ag.length : Int) := kD; obtain ⟨dH, dk, a3⟩ := Kd.A30 (Kd.A1a al.out).2.2 (ah) bp bg
             cases dk
             replace bp := eq_true bp
             (try (have aY := bg; simp only [List.length_drop, List.length_take] at aY; replace aY := eq_true aY)); replace bg := eq_true bg
             have p29 : 0 ≤ ((ah) : Int) := kD; have cx : ((ah) : Int) < ((ag.length : Int) : Int) := kD; obtain ⟨aJ, dZ, bI, bJ, gl29, cl29, HG29⟩ := Kd.R_form al.out (by omega)
             (first | cases bI | (injection bI with ea_ en_ ec_; (first | subst ea_ | (injection ea_ with ea_; subst ea_)); subst ec_; clear en_))
             have GB29 := ak bJ; have GG29 := ak HG29; clear bJ gl29 HG29
             (first | simp only [add_plain] at a3 | skip)
             obtain ⟨bq, br⟩ := Kd.R_celln 0 al.out ((ah) : Int) p29 cx; replace p29 := eq_true p29
             (try (have bs := cx; simp only [List.length_drop, List.length_take] at bs; replace bs := eq_true bs)); replace cx := eq_true cx
             have HP37 := Kd.R_putn al.out ((ah) : Int) (Go.bits .or .u8 (rd ag (ah)) (ax)); rw [← bG.out] at HP37; have bK := ak HP37; clear HP37
             refine A2a (n := 20) (S := fun w' => w'.cell? ⟨aj, 0, none⟩ = some (.slice (some ⟨aJ, 0, none⟩) ag.length a8) ∧ w'.cell? ⟨aj, 1, none⟩ = some (.int .i64 aa) ∧ w'.cell? ⟨aJ, ((ah)).toNat, none⟩ = some (.int .u8 (rd ag (ah)))) (ds := [19]) (bl 20 0) (by kernel_rfl) rfl rfl ⟨(A05 ad.out 0).trans rfl, (A05 ad.out 1).trans rfl, a3⟩ (fun hHeld => ?_); refine A11 A0u.tab9 A0u.bits9 (fun HT_ HW_ => ?_)
             generalize bH.drew = ea at al ad ae HB GG29 bK br a3 bq hHeld ⊢; refine pu 0 (some 34) (bl 20 1) (h := ?_); refine pu 2 (some 36) (bl 20 5) (h := ?_); refine pu 7 (some 41) (bl 20 133) (h := ?_); refine pu 8 (some 42) (bl 20 389) (h := ?_); refine pu 9 (some 43) (bl 20 901) (h := ?_); refine pu 10 (some 44) (bl 20 1925) (h := ?_); refine pu 11 (some 45) (bl 20 3973) (h := ?_); refine pu 12 (some 46) (bl 20 8069) (h := ?_); refine ta 1 (some 35) (bl 20 8071) (h := ?_); refine ta 3 (some 37) (bl 20 8079) (h := ?_); refine pu 4 (some 38) (bl 20 8095) (h := ?_); refine pu 5 (some 39) (bl 20 8127) (h := ?_); refine ta 6 (some 40) (bl 20 8191) (h := ?_); refine ta 13 (some 47) (bl 20 16383) (h := ?_); refine pu 14 (some 48) (bl 20 32767) (h := ?_); refine pu 15 (some 49) (bl 20 65535) (h := ?_); refine pu 16 (some 50) (bl 20 131071) (h := ?_); refine pu 17 (some 51) (bl 20 262143) (h := ?_); refine pu 18 (some 52) (bl 20 524287) (h := ?_); refine last_ (i := 19) (N := none) (bl 20 1048575) rfl rfl (A1z HT_.out (by kernel_rfl)) (by decide) (fun K hK => ?_); refine A28 (w1 := ?_) (by rfl) rfl ?_ ?_
             rotate_left
             ·go_simp
              rfl
             refine hK.out _ _ ?_; clear hK K; refine A2z (A2r HT_.out (by kernel_rfl)) ?_; generalize hw_ : (ea.setCell ⟨aJ, ((ah) : Int).toNat, none⟩ (.int .u8 (Go.bits .or .u8 (rd ag (ah)) (ax)))) = cy; have aU : A0d (Kd.R (Kd.int .u8) 5 cy w.heap.size (fun _ => True) (.slice (some ⟨aJ, 0, none⟩) ag.length a8) bo) := ⟨by rw [← hw_]; (with_reducible repeat (first | apply Kd.A1c | apply Kd.A1d | apply Kd.A06)); exact bK.out⟩; have aV : A0d (cy.heap[aj]? = some (.cells #[.slice (some ⟨aJ, 0, none⟩) ag.length a8, .int .i64 aa] 161 (0, 0))) := ⟨by rw [← hw_]; (with_reducible repeat (first | refine A3i ?_ _ | refine A0i ?_ | refine A3h ?_ _)); refine blk_far ?_ (by have h_ := Kd.R_ne al.out ad.out (by decide); intro e_; exact h_ (by rw [e_]; rfl)) _; (with_reducible repeat (first | refine A3i ?_ _ | refine A0i ?_ | refine A3h ?_ _)); exact ad.out⟩; have aW : A0d (cy.heap[ao]? = some (.cells #[.slice none 0 0, .int .i64 0] 161 (0, 0))) := ⟨by rw [← hw_]; (with_reducible repeat (first | refine A3i ?_ _ | refine A0i ?_ | refine A3h ?_ _)); refine blk_far ?_ (by have h_ := Kd.R_ne al.out ae.out (by decide); intro e_; exact h_ (by rw [e_]; rfl)) _; (with_reducible repeat (first | refine A3i ?_ _ | refine A0i ?_ | refine A3h ?_ _)); exact ae.out⟩; have aX : A0d (Below w.heap.size w cy) := ⟨by rw [← hw_]; repeat (first | (with_reducible first | exact HB.out | apply A1j | apply A1g | apply A0p | refine A09 ?_ GB29.out | refine A09 ?_ aM.out | refine A09 ?_ aN.out) | exact HB.out)⟩; clear hw_; have al := aU; have ad := aV; have ae := aW; have HB := aX; clear aU aV aW aX; obtain ⟨cz, cA⟩ := kc2 ad; obtain ⟨cB, cC⟩ := kf2 ad
             try go_wp2
             go_roundg k2
             case measure => have := bY.out; have := cj.out; omega
             case rel => exact ⟨(wrap64 (af - 1)), (bo), (wrap64 (aa + 1)), (.slice (some ⟨aJ, 0, none⟩) ag.length a8), kE, H', ⟨by have := bY.out; have := cj.out; omega⟩, ⟨by (with_reducible repeat (first | apply Kd.A1c | apply Kd.A1d | apply Kd.A06)); exact Kd.A1h (Kd.A0s (p := ⟨aj, 1, none⟩) (Kd.A1n al.out ad.out (by decide)) (fun _ hk => hk.2) (.int .i64 (wrap64 (aa + 1)))) (fun _ hk => trivial)⟩, ⟨(kb ad)⟩, ⟨(kb ae)⟩, ⟨(kl HB)⟩⟩
            ·rw [if_neg bF] at H
             exact absurd H (by simp)
           ·rw [if_neg bE] at H
            exact absurd H (by simp)
          ·rw [if_neg co] at H
           exact absurd H (by simp)
         ·rw [if_neg cm] at H
          exact absurd H (by simp)
        ·rw [if_neg ck] at H
         exact absurd H (by simp)
       ·rw [if_neg bA] at H; obtain ⟨bB, bC⟩ := kqF bA; obtain ⟨ai, aZ⟩ : ∃ j_ : Int, (wrap64 (Int.tdiv aa 8)) = j_ := ⟨_, rfl⟩
        replace H : (if 0 ≤ (ai) then (if (ai) < (ac.length : Int) then (if 0 ≤ af then (if 0 ≤ (wrap64 (7 - (Int.tmod aa 8))) then (A0u.l0 k2 a1 (wrap64 (af - 1)) (ac.set ((ai) : Int).toNat (Go.bits .or .u8 (rd ac (ai)) (shl .u8 ((Go.bits .and .u64 (shr .u64 a1 af) 1) % 256) (wrap64 (7 - (Int.tmod aa 8)))))) (wrap64 (aa + 1))) else (none)) else (none)) else (none)) else (none)) = some (r1, r2) := by first | (rw [aZ] at H; exact H) | (simp only [aZ] at H ⊢; exact H)
        have dl : (IntKind.i64.wrap (Int.tdiv aa 8)) = ai := (A23 _).trans aZ
        by_cases cD : 0 ≤ (ai)
        ·rw [if_pos cD] at H; have dI := decide_eq_true cD; clear cD
         by_cases cE : (ai) < (ac.length : Int)
         ·rw [if_pos cE] at H; have dJ := decide_eq_true cE; clear cE
          by_cases bL : 0 ≤ af
          ·rw [if_pos bL] at H; have dK := eq_true bL; have dL := decide_eq_true bL; clear bL; obtain ⟨aw, aH⟩ : ∃ j_ : Int, (shr .u64 a1 af) = j_ := ⟨_, rfl⟩
           replace H : (if 0 ≤ (wrap64 (7 - (Int.tmod aa 8))) then (A0u.l0 k2 a1 (wrap64 (af - 1)) (ac.set ((ai) : Int).toNat (Go.bits .or .u8 (rd ac (ai)) (shl .u8 ((Go.bits .and .u64 (aw) 1) % 256) (wrap64 (7 - (Int.tmod aa 8)))))) (wrap64 (aa + 1))) else (none)) = some (r1, r2) := by first | (rw [aH] at H; exact H) | (simp only [aH] at H ⊢; exact H)
           have dm : (a1 / 2 ^ min af.toNat 64) = aw := aH; have dn : af ≤ 64 → (a1 / 2 ^ af.toNat) = aw := shr_small aH; obtain ⟨au, ba⟩ : ∃ j_ : Int, (wrap64 (7 - (Int.tmod aa 8))) = j_ := ⟨_, rfl⟩
           replace H : (if 0 ≤ (au) then (A0u.l0 k2 a1 (wrap64 (af - 1)) (ac.set ((ai) : Int).toNat (Go.bits .or .u8 (rd ac (ai)) (shl .u8 ((Go.bits .and .u64 (aw) 1) % 256) (au)))) (wrap64 (aa + 1))) else (none)) = some (r1, r2) := by first | (rw [ba] at H; exact H) | (simp only [ba] at H ⊢; exact H)
           have dp : (IntKind.i64.wrap (7 - (Int.tmod aa 8))) = au := (A23 _).trans ba
           by_cases bM : 0 ≤ (au)
           ·rw [if_pos bM] at H; have dM := eq_true bM; have dN := decide_eq_true bM; clear bM; obtain ⟨ay, aI⟩ : ∃ j_ : Int, (shl .u8 ((Go.bits .and .u64 (aw) 1) % 256) (au)) = j_ := ⟨_, rfl⟩
            replace H : (A0u.l0 k2 a1 (wrap64 (af - 1)) (ac.set ((ai) : Int).toNat (Go.bits .or .u8 (rd ac (ai)) (ay))) (wrap64 (aa + 1))) = some (r1, r2) := by first | (rw [aI] at H; exact H) | (simp only [aI] at H ⊢; exact H)
            have bt : (IntKind.u8.wrap (((Go.bits .and .u64 (aw) 1) % 256) * 2 ^ min (au).toNat 8)) = ay := aI; have bu : (au) ≤ 8 → (IntKind.u8.wrap (((Go.bits .and .u64 (aw) 1) % 256) * 2 ^ (au).toNat)) = ay := shl_small aI; have bv : (((Go.bits .and .u64 (aw) 1) % 256) * 2 ^ min (au).toNat 8) % 256 = ay := (IntKind.wrap_u8 _).symm.trans bt
            have bw : (au) ≤ 8 → (((Go.bits .and .u64 (aw) 1) % 256) * 2 ^ (au).toNat) % 256 = ay := fun h_ => (IntKind.wrap_u8 _).symm.trans (bu h_)
            have dq : IntKind.u8.wrap (IntKind.u8.wrap (Go.bits .and .u64 (aw) 1) * 2 ^ min (au).toNat 8) = ay := by rw [IntKind.wrap_u8, IntKind.wrap_u8]; exact bv
            have dr : (au) ≤ 8 → IntKind.u8.wrap (IntKind.u8.wrap (Go.bits .and .u64 (aw) 1) * 2 ^ (au).toNat) = ay := fun h_ => by rw [IntKind.wrap_u8, IntKind.wrap_u8]; exact bw h_
            obtain ⟨bx, a9⟩ : ∃ y_ : List Int, y_ = (ac.set ((ai) : Int).toNat (Go.bits .or .u8 (rd ac (ai)) (ay))) := ⟨_, rfl⟩
            replace H : (A0u.l0 k2 a1 (wrap64 (af - 1)) bx (wrap64 (aa + 1))) = some (r1, r2) := by first | (rw [a9]; with_reducible exact H) | (have H2_ := (Option.bind_some _ _).symm.trans H; rw [a9]; with_reducible exact H2_) | (have H2_ := (Option.bind_some _ _).symm.trans H; with_reducible exact H2_) | with_reducible exact H | (rw [a9]; exact H) | exact H
            have bN := ak a9; clear a9; have H' := ak H; clear H; have dO := am.out; have dP := an.out; obtain ⟨cF, cG⟩ := kc2 ad; obtain ⟨cH, cI⟩ := kf2 ad
            try go_wp2
            replace HO_168000 := ak (Kd.A06 HO_168000.out); replace ad := ak (A0i ad.out); replace ae := ak (A0i ae.out); replace HB := ak (A0p HB.out); obtain ⟨eb, bh, bO⟩ := Kd.A12 HO_168000.out
            (first | subst bO | (injection bO with f1_ f2_ f3_; have f4_ := f1_.symm; have f5_ := f3_.symm; clear f1_ f2_ f3_; subst f4_; subst f5_))
            have bz : 0 ≤ ((ai) : Int) := kD; have bi : (ai) < (ac.length : Int) := kD; obtain ⟨dQ, du, a4⟩ := Kd.A30 (Kd.A1a HO_168000.out).2.2 (ai) bz bi
            cases du
            replace bz := eq_true bz
            (try (have bb := bi; simp only [List.length_drop, List.length_take] at bb; replace bb := eq_true bb)); replace bi := eq_true bi
            have p48 : 0 ≤ ((ai) : Int) := kD; have cJ : ((ai) : Int) < ((ac.length : Int) : Int) := kD; obtain ⟨aK, ec, bP, bQ, gl48, cl48, HG48⟩ := Kd.R_form HO_168000.out (by omega)
            (first | cases bP | (injection bP with ea_ en_ ec_; (first | subst ea_ | (injection ea_ with ea_; subst ea_)); subst ec_; clear en_))
            have GB48 := ak bQ; have GG48 := ak HG48; clear bQ gl48 HG48
            (first | simp only [add_plain] at a4 | skip)
            obtain ⟨b0, b1⟩ := Kd.R_celln 0 HO_168000.out ((ai) : Int) p48 cJ; replace p48 := eq_true p48
            (try (have b2 := cJ; simp only [List.length_drop, List.length_take] at b2; replace b2 := eq_true b2)); replace cJ := eq_true cJ
            have HP53 := Kd.R_putn HO_168000.out ((ai) : Int) (Go.bits .or .u8 (rd ac (ai)) (ay)); rw [← bN.out] at HP53; have bR := ak HP53; clear HP53
            refine A2a (n := 20) (S := fun w' => w'.cell? ⟨aj, 0, none⟩ = some (.slice (some ⟨aK, 0, none⟩) ac.length bh) ∧ w'.cell? ⟨aj, 1, none⟩ = some (.int .i64 aa) ∧ w'.cell? ⟨aK, ((ai)).toNat, none⟩ = some (.int .u8 (rd ac (ai)))) (ds := [19]) (bl 20 0) (by kernel_rfl) rfl rfl ⟨(A05 ad.out 0).trans rfl, (A05 ad.out 1).trans rfl, a4⟩ (fun hHeld => ?_); refine A11 A0u.tab9 A0u.bits9 (fun HT_ HW_ => ?_)
            generalize wr.drew = ed at HO_168000 ad ae HB GG48 bR b1 a4 b0 hHeld ⊢; refine pu 0 (some 34) (bl 20 1) (h := ?_); refine pu 2 (some 36) (bl 20 5) (h := ?_); refine pu 7 (some 41) (bl 20 133) (h := ?_); refine pu 8 (some 42) (bl 20 389) (h := ?_); refine pu 9 (some 43) (bl 20 901) (h := ?_); refine pu 10 (some 44) (bl 20 1925) (h := ?_); refine pu 11 (some 45) (bl 20 3973) (h := ?_); refine pu 12 (some 46) (bl 20 8069) (h := ?_); refine ta 1 (some 35) (bl 20 8071) (h := ?_); refine ta 3 (some 37) (bl 20 8079) (h := ?_); refine pu 4 (some 38) (bl 20 8095) (h := ?_); refine pu 5 (some 39) (bl 20 8127) (h := ?_); refine ta 6 (some 40) (bl 20 8191) (h := ?_); refine ta 13 (some 47) (bl 20 16383) (h := ?_); refine pu 14 (some 48) (bl 20 32767) (h := ?_); refine pu 15 (some 49) (bl 20 65535) (h := ?_); refine pu 16 (some 50) (bl 20 131071) (h := ?_); refine pu 17 (some 51) (bl 20 262143) (h := ?_); refine pu 18 (some 52) (bl 20 524287) (h := ?_); refine last_ (i := 19) (N := none) (bl 20 1048575) rfl rfl (A1z HT_.out (by kernel_rfl)) (by decide) (fun K hK => ?_); refine A28 (w1 := ?_) (by rfl) rfl ?_ ?_
            rotate_left
            ·go_simp
             rfl
            refine hK.out _ _ ?_; clear hK K; refine A2z (A2r HT_.out (by kernel_rfl)) ?_; generalize hw_ : (ed.setCell ⟨aK, ((ai) : Int).toNat, none⟩ (.int .u8 (Go.bits .or .u8 (rd ac (ai)) (ay)))) = cK; have aU : A0d (Kd.R (Kd.int .u8) 5 cK w.heap.size (fun _ => True) (.slice (some ⟨aK, 0, none⟩) ac.length bh) bx) := ⟨by rw [← hw_]; (with_reducible repeat (first | apply Kd.A1c | apply Kd.A1d | apply Kd.A06)); exact bR.out⟩; have aV : A0d (cK.heap[aj]? = some (.cells #[.slice (some ⟨aK, 0, none⟩) ac.length bh, .int .i64 aa] 161 (0, 0))) := ⟨by rw [← hw_]; (with_reducible repeat (first | refine A3i ?_ _ | refine A0i ?_ | refine A3h ?_ _)); refine blk_far ?_ (by have h_ := Kd.R_ne HO_168000.out ad.out (by decide); intro e_; exact h_ (by rw [e_]; rfl)) _; (with_reducible repeat (first | refine A3i ?_ _ | refine A0i ?_ | refine A3h ?_ _)); exact ad.out⟩; have aW : A0d (cK.heap[ao]? = some (.cells #[.slice none 0 0, .int .i64 0] 161 (0, 0))) := ⟨by rw [← hw_]; (with_reducible repeat (first | refine A3i ?_ _ | refine A0i ?_ | refine A3h ?_ _)); refine blk_far ?_ (by have h_ := Kd.R_ne HO_168000.out ae.out (by decide); intro e_; exact h_ (by rw [e_]; rfl)) _; (with_reducible repeat (first | refine A3i ?_ _ | refine A0i ?_ | refine A3h ?_ _)); exact ae.out⟩; have aX : A0d (Below w.heap.size w cK) := ⟨by rw [← hw_]; repeat (first | (with_reducible first | exact HB.out | apply A1j | apply A1g | apply A0p | refine A09 ?_ GB48.out | refine A09 ?_ aM.out | refine A09 ?_ aN.out) | exact HB.out)⟩; clear hw_; have HO_168000 := aU; have ad := aV; have ae := aW; have HB := aX; clear aU aV aW aX; obtain ⟨cL, cM⟩ := kc2 ad; obtain ⟨cN, cO⟩ := kf2 ad
            try go_wp2
            go_roundg k2
            case measure => have := bY.out; have := cj.out; omega
            case rel => exact ⟨(wrap64 (af - 1)), (bx), (wrap64 (aa + 1)), (.slice (some ⟨aK, 0, none⟩) ac.length bh), kE, H', ⟨by have := bY.out; have := cj.out; omega⟩, ⟨by (with_reducible repeat (first | apply Kd.A1c | apply Kd.A1d | apply Kd.A06)); exact Kd.A1h (Kd.A0s (p := ⟨aj, 1, none⟩) (Kd.A1n HO_168000.out ad.out (by decide)) (fun _ hk => hk.2) (.int .i64 (wrap64 (aa + 1)))) (fun _ hk => trivial)⟩, ⟨(kb ad)⟩, ⟨(kb ae)⟩, ⟨(kl HB)⟩⟩
           ·rw [if_neg bM] at H
            exact absurd H (by simp)
          ·rw [if_neg bL] at H
           exact absurd H (by simp)
         ·rw [if_neg cE] at H
          exact absurd H (by simp)
        ·rw [if_neg cD] at H
         exact absurd H (by simp)
      ·rw [if_neg b4] at H; have b9 : decide (0 ≤ af) = false := decide_eq_false b4; clear b4; simp only [Option.some.injEq, Prod.mk.injEq] at H; obtain ⟨rfl, rfl⟩ := H; have dR := am.out; have dS := an.out; obtain ⟨cP, cQ⟩ := kc2 ad; obtain ⟨cR, cS⟩ := kf2 ad; obtain ⟨bS, bT, dw⟩ := Kd.A12 HO_168000.out; subst dw; obtain ⟨cT, cU⟩ := kc2 ae; obtain ⟨cV, cW⟩ := kf2 ae
       go_wp2
       refine bodyPost_ret (results_cell_row rfl _ _ ao 161 #[.slice bS ac.length bT, .int .i64 aa] (0, 0) _ rfl (kb ae) Tryd.underlying161 rfl (by kernel_rfl)) rfl ?_
       exact ⟨_, kF, by (with_reducible repeat (first | apply Kd.A1c | apply Kd.A1d | apply Kd.A06)); exact Kd.A1h (Kd.A0s (p := ⟨ao, 1, none⟩) (Kd.A0s (p := ⟨ao, 0, none⟩) (Kd.A1n HO_168000.out ae.out (by decide)) (fun _ hk => hk.2) (.slice bS ac.length bT)) (fun _ hk => hk.2) (.int .i64 aa)) (fun _ hk => trivial), (kl HB)⟩
end Go.Proofs.YtodocfjbpkicgaaDoor.All
end
section
namespace Go.Proofs.YtodocfjbpkicgaaDoor.All
open Go.RowKit Go.Proofs.YtodocfjbpkicgaaDoorW.PrintWords Go.Proofs.YtodocfjbpkicgaaDoorW.PrintLast Go.Proofs.YtodocfjbpkicgaaDoorW.PrintMore
attribute [local go_sem] A2g A2h A2v A2w A15 A16 A2i A2j
set_option linter.unusedVariables false
set_option linter.unusedSimpArgs false
def xor_window.f (a0 : Int) : Option (Int × Int) := (bits_LeadingZeros64.f a0).bind fun aa => ((bits_TrailingZeros64.f a0).bind fun ac => (some (aa, wrap64 ((wrap64 (64 - aa)) - ac))))
set_option maxHeartbeats 8000000 in
set_option maxRecDepth 100000 in
theorem xor_window.calls (a0 : Int) (r1 : Int) (r2 : Int) (w : World) (hT : TabOk w) (h : xor_window.f a0 = some (r1, r2)) :
  Calls Tryd.prog 118 #[.int .u64 a0] w fun e w' => e = .returned (.tuple #[.int .i64 r1, .int .i64 r2]) ∧ A1v w w' := by
 have HT := ak hT; clear hT; have H : ((bits_LeadingZeros64.f a0).bind fun aa => ((bits_TrailingZeros64.f a0).bind fun ac => (some (aa, wrap64 ((wrap64 (64 - aa)) - ac))))) = some (r1, r2) := h; clear h; replace H := bkH H; obtain ⟨aa, A2, H⟩ := H; replace H := bkH H; obtain ⟨ac, A3, H⟩ := H; simp only [Option.some.injEq, Prod.mk.injEq] at H; obtain ⟨rfl, rfl⟩ := H
 go_enter Tryd.func118, Tryd.ntmps118
 go_wp2_with (first | ((with_reducible refine A0j (f := 122) rfl ?_); refine A1f (some 6) rfl rfl Tryd.func122 (by kernel_rfl) rfl #[.int .u64 a0] rfl km ?_; (with_reducible refine (bits_LeadingZeros64.calls a0 aa _ A2.out).mono ?_); rintro e w' ⟨rfl, ⟨nd, rfl⟩⟩; refine ⟨_, rfl, ?_⟩) | ((with_reducible refine A0j (f := 123) rfl ?_); refine A1f (some 11) rfl rfl Tryd.func123 (by kernel_rfl) rfl #[.int .u64 a0] rfl km ?_; (with_reducible refine (bits_TrailingZeros64.calls a0 ac _ ?ad A3.out).mono ?_); (case ad => exact HT.out); rintro e w' ⟨rfl, ⟨nd, rfl⟩⟩; refine ⟨_, rfl, ?_⟩))
 go_ret2
 exact ⟨by first | rfl | (simp; done) | (simp [*]; done), by repeat (first | exact A1v.refl _ | apply A1v.step)⟩
theorem eqA42 (d : Nat) (w : World) (x0 y0 : Int) (x1 y1 : Int) :
    (Op.equalIn (d + 2) 42 (.agg #[.int .i64 x0, .int .u64 x1]) (.agg #[.int .i64 y0, .int .u64 y1])).run Tryd.prog w = .ok (x0 == y0 && (x1 == y1)) w := by
  refine eqA_of Tryd.underlying42 (by kernel_rfl) ?_
  refine eqf_cons (by rfl) (by go_simp; rfl) (by go_simp; rfl) (by go_simp) ?_
  exact eqf_last (by rfl) (by go_simp; rfl) (by go_simp; rfl) (by go_simp)
end Go.Proofs.YtodocfjbpkicgaaDoor.All
end
section
namespace Go.Proofs.YtodocfjbpkicgaaDoor.All
open Go.RowKit Go.Proofs.YtodocfjbpkicgaaDoorW.PrintWords Go.Proofs.YtodocfjbpkicgaaDoorW.PrintLast Go.Proofs.YtodocfjbpkicgaaDoorW.PrintMore
attribute [local go_sem] A2g A2h A2v A2w A15 A16 A2i A2j
set_option linter.unusedVariables false
set_option linter.unusedSimpArgs false
mutual
def A1e.l0 : Nat → List Int → List Int → Int → Option (List Int)
 | 0, _, _, _ => none
 | k + 1, x0, x3, x4 => if x4 < (x0.length : Int) then (if 0 ≤ x4 then (A1e.l1 k x0 x3 x4 (rd x0 x4) 0) else (none)) else (some x3)
def A1e.l1 : Nat → List Int → List Int → Int → Int → Int → Option (List Int)
 | 0, _, _, _, _, _ => none
 | k + 1, x0, x3, x4, x5, x6 => if x6 < 8 then (if x3.length < 140737488355328 then (A1e.l1 k x0 (x3 ++ [(Int.tdiv x5 128) % 256]) x4 ((x5 * 2) % 256) (wrap64 (x6 + 1))) else (none)) else (A1e.l0 k x0 x3 (wrap64 (x4 + 1)))
end
def A1e.f (k : Nat) (l0 : List Int) : Option (List Int) := A1e.l0 k l0 ([] : List Int) 0
set_option maxHeartbeats 8000000 in
set_option maxRecDepth 100000 in
theorem A1e.calls (k : Nat) (A0 : Option Addr) (c0 : Nat) (l0 : List Int) (r : List Int) (w : World) (hr0 : Kd.C (Kd.int .u8) w A0 l0.length l0) (hc0 : l0.length ≤ c0) (h : A1e.f k l0 = some r) :
  Calls Tryd.prog 13 #[.slice A0 l0.length c0] w fun e w' => ∃ av : Value, e = .returned (av) ∧ Kd.R (Kd.int .u8) 5 w' w.heap.size (fun _ => True) av r ∧ Below w.heap.size w w' := by
 have az := ak hr0; have a3 := ak hc0; clear hr0 hc0; have HB := ak (Below.refl w.heap.size w); have H : (A1e.l0 k l0 ([] : List Int) 0) = some r := h; clear h; have H' := ak H; clear H
 go_enter Tryd.func13, Tryd.ntmps13
 go_wp2
 go_loopg [3, 4] k (fun kq v3 v4 w' => ∃ (ah : List Int) (x4_1 : Int), v4 = .int .i64 x4_1 ∧ A0d (A1e.l0 kq l0 ah x4_1 = some r) ∧ A0d (kq ≤ k) ∧ A0d (Kd.R (Kd.int .u8) 5 w' w.heap.size (fun _ => True) v3 ah) ∧ A0d (Below w.heap.size w w'))
 case atStart => exact ⟨(([] : List Int)), (0), kE, H', ⟨Nat.le_refl _⟩, ⟨by first | exact Kd.R_nil _ _ _ _ _ | exact Kd.N_nil _ _ _ _ _ | exact Kd.V_nil _ _ _ _ _ | exact Kd.Q_nil _ _ _ _ _ | exact Kd.S_nil _ _ _ _ _⟩, ⟨(kl HB)⟩⟩
 case round =>
  clear H'; obtain ⟨ah, x4_1, rfl, HA, ao, HO_3, HB⟩ := hrel
  cases gk with
  | zero => exact absurd HA.out (by simp [A1e.l0])
  | succ k1 =>
   have H := HA.out; clear HA; simp only [A1e.l0] at H
   by_cases c2 : x4_1 < (l0.length : Int)
   ·rw [if_pos c2] at H; have aq := decide_eq_true c2; clear c2
    by_cases c3 : 0 ≤ x4_1
    ·rw [if_pos c3] at H; have a1 := decide_eq_true c3; clear c3; have H' := ak H; clear H; have aj : 0 ≤ (x4_1 : Int) := kD; have ai : x4_1 < (l0.length : Int) := kD; obtain ⟨aw, ar, aa⟩ := Kd.A30 az.out x4_1 aj ai
     cases ar
     replace aa := (HB.out.cell (World.block_lt_of_cell? w _ aa)).trans aa; replace aj := eq_true aj
     (try (have ag := ai; simp only [List.length_drop, List.length_take] at ag; replace ag := eq_true ag)); replace ai := eq_true ai
     go_wp2
     go_loopg [3, 5, 6] k1 (fun kq v3 v5 v6 w' => ∃ (ae : List Int) (ac : Int) (af : Int), v5 = .int .u8 ac ∧ v6 = .int .i64 af ∧ A0d (A1e.l1 kq l0 ae x4_1 ac af = some r) ∧ A0d (kq ≤ k1) ∧ A0d (Kd.R (Kd.int .u8) 5 w' w.heap.size (fun _ => True) v3 ae) ∧ A0d (Below w.heap.size w w'))
     case atStart => exact ⟨(ah), (rd l0 x4_1), (0), kE, kE, H', ⟨Nat.le_refl _⟩, ⟨kr HO_3⟩, ⟨(kl HB)⟩⟩
     case round =>
      clear H'; obtain ⟨ae, ac, af, rfl, rfl, HA, ap, HO_3, HB⟩ := hrel
      cases gk with
      | zero => exact absurd HA.out (by simp [A1e.l1])
      | succ k2 =>
       have H := HA.out; clear HA; simp only [A1e.l1] at H
       by_cases c4 : af < 8
       ·rw [if_pos c4] at H; have au := decide_eq_true c4; clear c4
        by_cases c5 : ae.length < 140737488355328
        ·rw [if_pos c5] at H; have LMc5 := ak c5; clear c5; obtain ⟨al, ad⟩ : ∃ y_ : List Int, y_ = (ae ++ [(Int.tdiv ac 128) % 256]) := ⟨_, rfl⟩
         replace H : (A1e.l1 k2 l0 al x4_1 ((ac * 2) % 256) (wrap64 (af + 1))) = some r := by first | (rw [ad]; with_reducible exact H) | (have H2_ := (Option.bind_some _ _).symm.trans H; rw [ad]; with_reducible exact H2_) | (have H2_ := (Option.bind_some _ _).symm.trans H; with_reducible exact H2_) | with_reducible exact H | (rw [ad]; exact H) | exact H
         have am := ak ad; clear ad; have H' := ak H; clear H
         go_wp2_with (first | ((with_reducible refine A22 (b := .append) (xs := #[.tmp 21, .tmp 24]) rfl ?_); at_builtin; refine Kd.R_append (Kd.int .u8) (w0 := w) w.heap.size rfl (.tmp 21) (.tmp 24) 22 5 (.int .u8 0) 1 rfl Tryd.underlying22 info5 rfl (by decide) (by omega) u3 ae ((Int.tdiv ac 128) % 256) [.int .u8 ((Int.tdiv ac 128) % 256)] (fun _ => True) (fun _ => False) rfl rfl ?aP (fun _ hk => hk.elim) ?aF ?aO ?aB ?aS ?aL ?_; (case aP => exact rfl); (case aB => exact (kl HB)); (case aF => exact (fun _ _ => trivial)); (case aO => exact (kr HO_3)); (case aS => exact (A0q (kl HB))); (case aL => have := LMc5.out; omega); intro a2 w6 ho hb hg hat; rw [← am.out] at ho; have ax := ak (hb); have ay := ak (ho); clear HB; clear HO_3; have HB := ax; have an := ay; clear ax ay; clear ho hb hg hat))
         go_roundg k2
         case measure => have := ao.out; have := ap.out; omega
         case rel => exact ⟨(al), ((ac * 2) % 256), (wrap64 (af + 1)), kE, kE, H', ⟨by have := ao.out; have := ap.out; omega⟩, ⟨kr an⟩, ⟨(kl HB)⟩⟩
        ·rw [if_neg c5] at H
         exact absurd H (by simp)
       ·rw [if_neg c4] at H; have au := decide_eq_false c4; clear c4; have H' := ak H; clear H
        go_wp2
        go_roundg k2
        case measure => have := ao.out; have := ap.out; omega
        case rel => exact ⟨(ae), (wrap64 (x4_1 + 1)), kE, H', ⟨by have := ao.out; have := ap.out; omega⟩, ⟨kr HO_3⟩, ⟨(kl HB)⟩⟩
    ·rw [if_neg c3] at H
     exact absurd H (by simp)
   ·rw [if_neg c2] at H; have aq := decide_eq_false c2; clear c2; obtain rfl := Option.some.inj H
    go_wp2
    go_ret
    exact ⟨_, kF, by (with_reducible repeat (first | apply Kd.A1c | apply Kd.A1d | apply Kd.A06)); exact HO_3.out, (kl HB)⟩
end Go.Proofs.YtodocfjbpkicgaaDoor.All
end
section
namespace Go.Proofs.YtodocfjbpkicgaaDoor.All
open Go.RowKit Go.Proofs.YtodocfjbpkicgaaDoorW.PrintWords Go.Proofs.YtodocfjbpkicgaaDoorW.PrintLast Go.Proofs.YtodocfjbpkicgaaDoorW.PrintMore
attribute [local go_sem] A2g A2h A2v A2w A15 A16 A2i A2j
set_option linter.unusedVariables false
set_option linter.unusedSimpArgs false
def A0o.l0 : Nat → List Int → Int → Int → Option (Int)
 | 0, _, _, _ => none
 | k + 1, x0, x3, x4 => if x4 < (x0.length : Int) then (if 0 ≤ x4 then (A0o.l0 k x0 (IntKind.u64.wrap ((IntKind.u64.wrap (2 * x3)) + (IntKind.u64.wrap (rd x0 x4)))) (wrap64 (x4 + 1))) else (none)) else (some x3)
def A0o.f (k : Nat) (l0 : List Int) : Option (Int) := A0o.l0 k l0 0 0
set_option maxHeartbeats 8000000 in
set_option maxRecDepth 100000 in
theorem A0o.calls (k : Nat) (A0 : Option Addr) (c0 : Nat) (l0 : List Int) (r : Int) (w : World) (hr0 : Kd.C (Kd.int .u8) w A0 l0.length l0) (hc0 : l0.length ≤ c0) (h : A0o.f k l0 = some r) :
  Calls Tryd.prog 45 #[.slice A0 l0.length c0] w fun e w' => e = .returned (.int .u64 r) ∧ A1v w w' := by
 have al := ak hr0; have an := ak hc0; clear hr0 hc0; have H : (A0o.l0 k l0 0 0) = some r := h; clear h; have H' := ak H; clear H
 go_enter Tryd.func45, Tryd.ntmps45
 go_wp2
 go_loopg [3, 4] k (fun kq v3 v4 w' => ∃ (ac : Int) (x4_1 : Int), v3 = .int .u64 ac ∧ v4 = .int .i64 x4_1 ∧ A0d (A0o.l0 kq l0 ac x4_1 = some r) ∧ A0d (kq ≤ k) ∧ A1v w w')
 case atStart => exact ⟨(0), (0), kE, kE, H', ⟨Nat.le_refl _⟩, by repeat (first | exact A1v.refl _ | apply A1v.step)⟩
 case round =>
  clear H'; obtain ⟨ac, x4_1, rfl, rfl, HA, ai, ⟨m1, rfl⟩⟩ := hrel
  cases gk with
  | zero => exact absurd HA.out (by simp [A0o.l0])
  | succ k1 =>
   have H := HA.out; clear HA; simp only [A0o.l0] at H
   by_cases c2 : x4_1 < (l0.length : Int)
   ·rw [if_pos c2] at H; have ag := decide_eq_true c2; clear c2
    by_cases c3 : 0 ≤ x4_1
    ·rw [if_pos c3] at H; have am := decide_eq_true c3; clear c3; have H' := ak H; clear H; have ae : 0 ≤ (x4_1 : Int) := kD; have ad : x4_1 < (l0.length : Int) := kD; obtain ⟨aj, ah, af⟩ := Kd.A30 al.out x4_1 ae ad
     cases ah
     replace ae := eq_true ae
     (try (have aa := ad; simp only [List.length_drop, List.length_take] at aa; replace aa := eq_true aa)); replace ad := eq_true ad
     go_wp2
     go_roundg k1
     case measure => have := ai.out; omega
     case rel => exact ⟨(IntKind.u64.wrap ((IntKind.u64.wrap (2 * ac)) + (IntKind.u64.wrap (rd l0 x4_1)))), (wrap64 (x4_1 + 1)), kE, kE, H', ⟨by have := ai.out; omega⟩, by repeat (first | exact A1v.refl _ | apply A1v.step)⟩
    ·rw [if_neg c3] at H
     exact absurd H (by simp)
   ·rw [if_neg c2] at H; have ag := decide_eq_false c2; clear c2; obtain rfl := Option.some.inj H
    go_wp2
    go_ret
    exact ⟨by first | rfl | (simp; done) | (simp [*]; done), by repeat (first | exact A1v.refl _ | apply A1v.step)⟩
end Go.Proofs.YtodocfjbpkicgaaDoor.All
end
