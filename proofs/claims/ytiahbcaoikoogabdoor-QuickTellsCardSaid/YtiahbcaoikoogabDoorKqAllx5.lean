-- copied by a program of the session
import Derived.Test.YtiahbcaoikoogabDoorKqAllx14
namespace Go.Proofs.YtiahbcaoikoogabDoor.All
open Go.RowKit Go.Proofs.YtiahbcaoikoogabDoorW.PrintWords Go.Proofs.YtiahbcaoikoogabDoorW.PrintLast Go.Proofs.YtiahbcaoikoogabDoorW.PrintMore
attribute [local go_sem] A2i A2j A2v A2w A14 A15 A2k A2l
set_option linter.unusedVariables false
set_option linter.unusedSimpArgs false
mutual
def A0z.j0 : Nat → Int → Int → Bool → List Int → Int → Option (List Int × Int)
 | 0, _, _, _, _, _ => none
 | k + 1, x1, x2, ad, aa, ac => if ad = true then (some (aa, ac)) else (A0z.l0 k x1 (wrap64 (x2 - 1)) aa ac)
def A0z.l0 : Nat → Int → Int → List Int → Int → Option (List Int × Int)
 | 0, _, _, _, _ => none
 | k + 1, x1, x7, ac, aa => if x7 ≥ 0 then (if (Int.tmod aa 8) = 0 then (if ac.length < 140737488355328 then ((some (ac ++ [0] : List Int)).bind fun ad => (if 0 ≤ (wrap64 (Int.tdiv aa 8)) then (if (wrap64 (Int.tdiv aa 8)) < (ad.length : Int) then (if 0 ≤ x7 then (if 0 ≤ (wrap64 (7 - (Int.tmod aa 8))) then (A0z.l0 k x1 (wrap64 (x7 - 1)) (ad.set ((wrap64 (Int.tdiv aa 8)) : Int).toNat (Go.bits .or .u8 (rd ad (wrap64 (Int.tdiv aa 8))) (shl .u8 ((Go.bits .and .u64 (shr .u64 x1 x7) 1) % 256) (wrap64 (7 - (Int.tmod aa 8)))))) (wrap64 (aa + 1))) else (none)) else (none)) else (none)) else (none))) else (none)) else (if 0 ≤ (wrap64 (Int.tdiv aa 8)) then (if (wrap64 (Int.tdiv aa 8)) < (ac.length : Int) then (if 0 ≤ x7 then (if 0 ≤ (wrap64 (7 - (Int.tmod aa 8))) then (A0z.l0 k x1 (wrap64 (x7 - 1)) (ac.set ((wrap64 (Int.tdiv aa 8)) : Int).toNat (Go.bits .or .u8 (rd ac (wrap64 (Int.tdiv aa 8))) (shl .u8 ((Go.bits .and .u64 (shr .u64 x1 x7) 1) % 256) (wrap64 (7 - (Int.tmod aa 8)))))) (wrap64 (aa + 1))) else (none)) else (none)) else (none)) else (none))) else (some (ac, aa))
end
def A0z.f (k : Nat) (ac : List Int) (a0_1 : Int) (a1 : Int) (a2 : Int) : Option (List Int × Int) := (A2a.f ac).bind fun aa => (if a2 < 0 then (A0z.j0 k a1 a2 true aa a0_1) else (A0z.j0 k a1 a2 (decide (a2 > 64)) aa a0_1))
theorem A0z.A3k : ∀ k, (∀ y0 y1 y2 y3 y4, LeO (A0z.j0 k y0 y1 y2 y3 y4) (A0z.j0 (k + 1) y0 y1 y2 y3 y4)) ∧ (∀ y0 y1 y2 y3, LeO (A0z.l0 k y0 y1 y2 y3) (A0z.l0 (k + 1) y0 y1 y2 y3))
 | 0 => ⟨fun _ _ _ _ _ r h => by simp [A0z.j0] at h, fun _ _ _ _ r h => by simp [A0z.l0] at h⟩
 | k + 1 => by
  obtain ⟨ih0, ih1⟩ := A0z.A3k k
  refine ⟨?_, ?_⟩ <;> intros <;> (first | unfold A0z.j0 | unfold A0z.l0) <;> (
   repeat' first
   | (with_reducible exact ih0 _ _ _ _ _)
   | (with_reducible exact ih1 _ _ _ _)
   | (with_reducible exact LeO.refl _)
   | (with_reducible exact LeO.none _)
   | (with_reducible refine LeO.ite ?_ ?_)
   | (with_reducible refine LeO.bind ?_ (fun _ => ?_))
   | exact ih0 _ _ _ _ _
   | exact ih1 _ _ _ _
   | exact LeO.none _
   | refine LeO.ite ?_ ?_
   | refine LeO.bind ?_ (fun _ => ?_))
theorem A0z.mono : ∀ a0 a1 a2 a3 k, LeO (A0z.f k a0 a1 a2 a3) (A0z.f (k + 1) a0 a1 a2 a3) := by
 intro a0 a1 a2 a3 k
 obtain ⟨ih0, ih1⟩ := A0z.A3k k
 unfold A0z.f
 repeat' first
   | (with_reducible exact ih0 _ _ _ _ _)
   | (with_reducible exact ih1 _ _ _ _)
   | (with_reducible exact LeO.refl _)
   | (with_reducible exact LeO.none _)
   | (with_reducible refine LeO.ite ?_ ?_)
   | (with_reducible refine LeO.bind ?_ (fun _ => ?_))
   | exact ih0 _ _ _ _ _
   | exact ih1 _ _ _ _
   | exact LeO.none _
   | refine LeO.ite ?_ ?_
   | refine LeO.bind ?_ (fun _ => ?_)
def A0z.T9 : Bool × List (List Nat × List Nat) := (true, [([], []), ([0], [0]), ([], []), ([2], [2]), ([3], [3]), ([1, 4], [1, 4]), ([5], [5]), ([], []), ([], []), ([7, 8], [7, 8]), ([9], [9]), ([10], [10]), ([], []), ([12], [12]), ([13], [13]), ([14], [14]), ([11, 15], [11, 15]), ([6, 16], [6, 16]), ([1, 4, 0, 1, 2, 3, 4, 5, 6, 7, 8, 9, 10, 11, 12, 13, 14, 15, 16, 17], [1, 4]), ([18, 17, 0, 1, 2, 3, 4, 5, 6, 7, 8, 9, 10, 11, 12, 13, 14, 15, 16, 17], [17, 18])])
def A0z.B9 : List Nat := [0, 1, 0, 4, 12, 31, 63, 0, 0, 384, 896, 1920, 0, 4096, 12288, 28672, 65408, 131071, 262143, 524287]
theorem A0z.tab9 : rtab .any (opsOf Tryd.f34 9) = A0z.T9 := by kernel_rfl
theorem A0z.bits9 : A3r A0z.T9.2 A0z.B9 = true := by kernel_rfl
set_option maxHeartbeats 8000000 in
set_option maxRecDepth 100000 in
theorem A0z.calls (k : Nat) (bm : Option Addr) (bn : Nat) (az : List Int) (a0_1 : Int) (a1 : Int) (a2 : Int) (r1 : List Int) (r2 : Int) (w : World) (hr0_0 : Kd.C (Kd.int .u8) w bm az.length az) (hc0_0 : az.length ≤ bn) (h : A0z.f k az a0_1 a1 a2 = some (r1, r2)) :
  Calls Tryd.prog 34 #[.agg #[.slice bm az.length bn, .int .i64 a0_1], .int .u64 a1, .int .i64 a2] w fun e w' => ∃ dz : Value, e = .returned (.agg #[dz, .int .i64 r2]) ∧ Kd.R (Kd.int .u8) 5 w' w.heap.size (fun _ => True) dz r1 ∧ Below w.heap.size w w' := by
 have hu56 := Tryd.underlying56; have bD := ak hr0_0; have bE := ak hc0_0; clear hr0_0 hc0_0; have HB := ak (Below.refl w.heap.size w); have H : ((A2a.f az).bind fun ap => (if a2 < 0 then (A0z.j0 k a1 a2 true ap a0_1) else (A0z.j0 k a1 a2 (decide (a2 > 64)) ap a0_1))) = some (r1, r2) := h; clear h; replace H := bkH H; obtain ⟨ap, A4, H⟩ := H; have db := ak H; clear H
 go_enter Tryd.func34, Tryd.ntmps34
 go_upto_region 2 with (first | ((with_reducible refine A0u (N := 3) rfl ?_); refine bxe 3 #[.slice bm az.length bn, .int .i64 a0_1] 56 (h := ?_); intro aj hg w6 hbox hb; have ad := ak (hbox); have d0 := kG hg HB; have aT := kG hg HB; replace HB := kH HB hb; clear hb hbox hg) | ((with_reducible refine A0u (N := 6) rfl ?_); refine bxe 6 #[.slice none 0 0, .int .i64 0] 56 (h := ?_); intro ao hg w7 hbox hb; have ae := ak (hbox); have d5 := kG hg HB; have aU := kG hg HB; replace HB := kH HB hb; obtain ⟨am, an⟩ := kN hg ad; replace ad := kB ad hb; clear hb hbox hg; have dT := am.out; have dU := an.out; obtain ⟨aV, aW⟩ := kc2 ad; obtain ⟨aX, aY⟩ := kf2 ad) | ((with_reducible refine A0i (f := 38) rfl ?_); refine A09 (some 10) rfl rfl Tryd.func38 (by kernel_rfl) rfl #[.slice bm az.length bn] rfl km ?_; (with_reducible refine (A2a.calls _ _ az ap _ ?bF ?bG A4.out).mono ?_); (case bF => repeat (first | exact (Kd.A2g bD.out HB.out) | (with_reducible refine Kd.A1u ?_ _) | (with_reducible refine Kd.A1s ?_ _) | (with_reducible refine Kd.A19 ?_))); (case bG => exact bE.out); rintro e ee ⟨dV, rfl, ho0, hb⟩; refine ⟨_, rfl, ?_⟩; have aZ := ak (Kd.A17 ho0 (A02 (kl HB))); replace ad := kB ad hb; replace ae := kB ae hb; replace HB := kH HB hb; (try clear hb); (try clear ho0); obtain ⟨aA, aC, dc⟩ := Kd.A12 aZ.out; subst dc; obtain ⟨aD, aE⟩ := kc2 ad; obtain ⟨aG, aH⟩ := kf2 ad))
 (try simp only [Act.put, List.setIfInBounds_toArray, List.set_cons_zero, List.set_cons_succ])
 go_cut [17] (fun dW wc => ∃ (kq : Nat) (aI : Bool), dW = .bool aI ∧ A0e (A0z.j0 kq a1 a2 aI ap a0_1 = some (r1, r2)) ∧ A0e (kq ≤ k) ∧ A0e (Kd.R (Kd.int .u8) 5 wc w.heap.size (fun _ => True) (.slice aA ap.length aC) ap) ∧ A0e (wc.heap[aj]? = some (.cells #[(.slice aA ap.length aC), .int .i64 a0_1] 56 (0, 0))) ∧ A0e (wc.heap[ao]? = some (.cells #[(.slice none 0 0), .int .i64 0] 56 (0, 0))) ∧ A0e (Below w.heap.size w wc))
 case first =>
  have H := db.out; clear db
  by_cases bB : a2 < 0
  ·rw [if_pos bB] at H; have a5 := decide_eq_true bB; clear bB
   (first | rw [a5] | (simp only [A3a, A3y]; rw [a5]) | skip)
   have H' := ak H; clear H
   go_wp2
   go_meet
   case rel => exact ⟨_, (true), kE, H', ⟨by first | omega | exact Nat.le_refl _⟩, ⟨by (with_reducible repeat (first | apply Kd.A1g | apply Kd.A1h | apply Kd.A1e)); exact Kd.A1n (Kd.A01 (p := ⟨aj, 0, none⟩) (Kd.A1r aZ.out ad.out (by decide)) (fun _ hk => hk.2) (.slice aA ap.length aC)) (fun _ hk => trivial)⟩, ⟨(kb ad)⟩, ⟨(kb ae)⟩, ⟨(kl HB)⟩⟩
  ·rw [if_neg bB] at H; have a5 := decide_eq_false bB; clear bB
   (first | rw [a5] | (simp only [A3a, A3y]; rw [a5]) | skip)
   have H' := ak H; clear H
   go_wp2
   go_meet
   case rel => exact ⟨_, (decide (a2 > 64)), kE, H', ⟨by first | omega | exact Nat.le_refl _⟩, ⟨by (with_reducible repeat (first | apply Kd.A1g | apply Kd.A1h | apply Kd.A1e)); exact Kd.A1n (Kd.A01 (p := ⟨aj, 0, none⟩) (Kd.A1r aZ.out ad.out (by decide)) (fun _ hk => hk.2) (.slice aA ap.length aC)) (fun _ hk => trivial)⟩, ⟨(kb ad)⟩, ⟨(kb ae)⟩, ⟨(kl HB)⟩⟩
 case rest =>
  clear db; (try clear aD); (try clear aE); (try clear aV); (try clear aW); (try clear aG); (try clear aH); (try clear aX); (try clear aY); obtain ⟨kq, aI, rfl, HA, ce, HO_116000, ad, ae, HB⟩ := hcut
  cases kq with
  | zero => exact absurd HA.out (by simp [A0z.j0])
  | succ d6 =>
   have H := HA.out; clear HA; simp only [A0z.j0] at H
   by_cases bH : aI = true
   ·subst bH
    rw [if_pos rfl] at H; simp only [Option.some.injEq, Prod.mk.injEq] at H; obtain ⟨rfl, rfl⟩ := H; have d7 := am.out; have d8 := an.out; obtain ⟨cf, cg⟩ := kc2 ad; obtain ⟨ch, ci⟩ := kf2 ad; obtain ⟨cj, ck⟩ := kc2 ae; obtain ⟨cm, co⟩ := kf2 ae
    go_wp2
    refine bodyPost_ret (results_cell_row rfl _ _ ao 56 #[.slice aA ap.length aC, .int .i64 a0_1] (0, 0) _ rfl (kb ae) Tryd.underlying56 rfl (by kernel_rfl)) rfl ?_
    exact ⟨_, kF, by (with_reducible repeat (first | apply Kd.A1g | apply Kd.A1h | apply Kd.A1e)); exact Kd.A1n (Kd.A01 (p := ⟨ao, 1, none⟩) (Kd.A01 (p := ⟨ao, 0, none⟩) (Kd.A1r HO_116000.out ae.out (by decide)) (fun _ hk => hk.2) (.slice aA ap.length aC)) (fun _ hk => hk.2) (.int .i64 a0_1)) (fun _ hk => trivial), (kl HB)⟩
   ·replace bH := Bool.eq_false_iff.mpr bH; subst bH
    rw [if_neg (show ¬ (false = true) by decide)] at H; have H' := ak H; clear H
    go_wp2
    go_loopg [7] d6 (fun kq v7 w' => ∃ (af : Int) (ac : List Int) (aa : Int) (aq : Value), v7 = .int .i64 af ∧ A0e (A0z.l0 kq a1 af ac aa = some (r1, r2)) ∧ A0e (kq ≤ d6) ∧ A0e (Kd.R (Kd.int .u8) 5 w' w.heap.size (fun _ => True) aq ac) ∧ A0e (w'.heap[aj]? = some (.cells #[aq, .int .i64 aa] 56 (0, 0))) ∧ A0e (w'.heap[ao]? = some (.cells #[(.slice none 0 0), .int .i64 0] 56 (0, 0))) ∧ A0e (Below w.heap.size w w'))
    case atStart => exact ⟨(wrap64 (a2 - 1)), (ap), (a0_1), (.slice aA ap.length aC), kE, H', ⟨Nat.le_refl _⟩, ⟨kr HO_116000⟩, ⟨kb ad⟩, ⟨kb ae⟩, ⟨(kl HB)⟩⟩
    case round =>
     clear H'; (try clear bH); (try clear aD); (try clear aE); (try clear aV); (try clear aW); (try clear aG); (try clear aH); (try clear aX); (try clear aY); obtain ⟨af, ac, aa, aq, rfl, HA, cp, HO_116000, ad, ae, HB⟩ := hrel
     cases gk with
     | zero => exact absurd HA.out (by simp [A0z.l0])
     | succ k2 =>
      have H := HA.out; clear HA; simp only [A0z.l0] at H
      by_cases bC : af ≥ 0
      ·rw [if_pos bC] at H; have bI : decide (0 ≤ af) = true := decide_eq_true bC; clear bC
       by_cases bJ : (Int.tmod aa 8) = 0
       ·rw [if_pos bJ] at H; obtain ⟨bK, bL⟩ := kqT bJ; clear bJ
        by_cases cq : ac.length < 140737488355328
        ·rw [if_pos cq] at H; have LMc20 := ak cq; clear cq; obtain ⟨ag, a6⟩ : ∃ y_ : List Int, y_ = (ac ++ [0]) := ⟨_, rfl⟩
         replace H : (if 0 ≤ (wrap64 (Int.tdiv aa 8)) then (if (wrap64 (Int.tdiv aa 8)) < (ag.length : Int) then (if 0 ≤ af then (if 0 ≤ (wrap64 (7 - (Int.tmod aa 8))) then (A0z.l0 k2 a1 (wrap64 (af - 1)) (ag.set ((wrap64 (Int.tdiv aa 8)) : Int).toNat (Go.bits .or .u8 (rd ag (wrap64 (Int.tdiv aa 8))) (shl .u8 ((Go.bits .and .u64 (shr .u64 a1 af) 1) % 256) (wrap64 (7 - (Int.tmod aa 8)))))) (wrap64 (aa + 1))) else (none)) else (none)) else (none)) else (none)) = some (r1, r2) := by first | (rw [a6]; with_reducible exact H) | (have H2_ := (Option.bind_some _ _).symm.trans H; rw [a6]; with_reducible exact H2_) | (have H2_ := (Option.bind_some _ _).symm.trans H; with_reducible exact H2_) | with_reducible exact H | (rw [a6]; exact H) | exact H
         have bM := ak a6; clear a6; obtain ⟨ah, ba⟩ : ∃ j_ : Int, (wrap64 (Int.tdiv aa 8)) = j_ := ⟨_, rfl⟩
         replace H : (if 0 ≤ (ah) then (if (ah) < (ag.length : Int) then (if 0 ≤ af then (if 0 ≤ (wrap64 (7 - (Int.tmod aa 8))) then (A0z.l0 k2 a1 (wrap64 (af - 1)) (ag.set ((ah) : Int).toNat (Go.bits .or .u8 (rd ag (ah)) (shl .u8 ((Go.bits .and .u64 (shr .u64 a1 af) 1) % 256) (wrap64 (7 - (Int.tmod aa 8)))))) (wrap64 (aa + 1))) else (none)) else (none)) else (none)) else (none)) = some (r1, r2) := by first | (rw [ba] at H; exact H) | (simp only [ba] at H ⊢; exact H)
         have dd : (IntKind.i64.wrap (Int.tdiv aa 8)) = ah := (A3a _).trans ba
         by_cases cr : 0 ≤ (ah)
         ·rw [if_pos cr] at H; have d9 := decide_eq_true cr; clear cr
          by_cases cs : (ah) < (ag.length : Int)
          ·rw [if_pos cs] at H; have dA := decide_eq_true cs; clear cs
           by_cases bN : 0 ≤ af
           ·rw [if_pos bN] at H; have dB := eq_true bN; have dC := decide_eq_true bN; clear bN; obtain ⟨av, aJ⟩ : ∃ j_ : Int, (shr .u64 a1 af) = j_ := ⟨_, rfl⟩
            replace H : (if 0 ≤ (wrap64 (7 - (Int.tmod aa 8))) then (A0z.l0 k2 a1 (wrap64 (af - 1)) (ag.set ((ah) : Int).toNat (Go.bits .or .u8 (rd ag (ah)) (shl .u8 ((Go.bits .and .u64 (av) 1) % 256) (wrap64 (7 - (Int.tmod aa 8)))))) (wrap64 (aa + 1))) else (none)) = some (r1, r2) := by first | (rw [aJ] at H; exact H) | (simp only [aJ] at H ⊢; exact H)
            have de : (a1 / 2 ^ min af.toNat 64) = av := aJ; have df : af ≤ 64 → (a1 / 2 ^ af.toNat) = av := shr_small aJ; obtain ⟨ar, bb⟩ : ∃ j_ : Int, (wrap64 (7 - (Int.tmod aa 8))) = j_ := ⟨_, rfl⟩
            replace H : (if 0 ≤ (ar) then (A0z.l0 k2 a1 (wrap64 (af - 1)) (ag.set ((ah) : Int).toNat (Go.bits .or .u8 (rd ag (ah)) (shl .u8 ((Go.bits .and .u64 (av) 1) % 256) (ar)))) (wrap64 (aa + 1))) else (none)) = some (r1, r2) := by first | (rw [bb] at H; exact H) | (simp only [bb] at H ⊢; exact H)
            have dg : (IntKind.i64.wrap (7 - (Int.tmod aa 8))) = ar := (A3a _).trans bb
            by_cases bO : 0 ≤ (ar)
            ·rw [if_pos bO] at H; have dD := eq_true bO; have dE := decide_eq_true bO; clear bO; obtain ⟨ax, aK⟩ : ∃ j_ : Int, (shl .u8 ((Go.bits .and .u64 (av) 1) % 256) (ar)) = j_ := ⟨_, rfl⟩
             replace H : (A0z.l0 k2 a1 (wrap64 (af - 1)) (ag.set ((ah) : Int).toNat (Go.bits .or .u8 (rd ag (ah)) (ax))) (wrap64 (aa + 1))) = some (r1, r2) := by first | (rw [aK] at H; exact H) | (simp only [aK] at H ⊢; exact H)
             have bs : (IntKind.u8.wrap (((Go.bits .and .u64 (av) 1) % 256) * 2 ^ min (ar).toNat 8)) = ax := aK; have bt : (ar) ≤ 8 → (IntKind.u8.wrap (((Go.bits .and .u64 (av) 1) % 256) * 2 ^ (ar).toNat)) = ax := shl_small aK; have bu : (((Go.bits .and .u64 (av) 1) % 256) * 2 ^ min (ar).toNat 8) % 256 = ax := (IntKind.wrap_u8 _).symm.trans bs
             have bv : (ar) ≤ 8 → (((Go.bits .and .u64 (av) 1) % 256) * 2 ^ (ar).toNat) % 256 = ax := fun h_ => (IntKind.wrap_u8 _).symm.trans (bt h_)
             have dh : IntKind.u8.wrap (IntKind.u8.wrap (Go.bits .and .u64 (av) 1) * 2 ^ min (ar).toNat 8) = ax := by rw [IntKind.wrap_u8, IntKind.wrap_u8]; exact bu
             have di : (ar) ≤ 8 → IntKind.u8.wrap (IntKind.u8.wrap (Go.bits .and .u64 (av) 1) * 2 ^ (ar).toNat) = ax := fun h_ => by rw [IntKind.wrap_u8, IntKind.wrap_u8]; exact bv h_
             obtain ⟨bw, a7⟩ : ∃ y_ : List Int, y_ = (ag.set ((ah) : Int).toNat (Go.bits .or .u8 (rd ag (ah)) (ax))) := ⟨_, rfl⟩
             replace H : (A0z.l0 k2 a1 (wrap64 (af - 1)) bw (wrap64 (aa + 1))) = some (r1, r2) := by first | (rw [a7]; with_reducible exact H) | (have H2_ := (Option.bind_some _ _).symm.trans H; rw [a7]; with_reducible exact H2_) | (have H2_ := (Option.bind_some _ _).symm.trans H; with_reducible exact H2_) | with_reducible exact H | (rw [a7]; exact H) | exact H
             have bP := ak a7; clear a7; have H' := ak H; clear H; have dF := am.out; have dG := an.out; obtain ⟨ct, cu⟩ := kc2 ad; obtain ⟨cv, cw⟩ := kf2 ad
             try go_wp2_with (first | ((with_reducible refine A2y (b := .append) (xs := #[.tmp 30, .tmp 31]) rfl ?_); at_builtin; refine Kd.R_append (Kd.int .u8) (w0 := w) w.heap.size rfl (.tmp 30) (.tmp 31) 23 5 (.int .u8 0) 1 rfl Tryd.underlying23 info5 rfl (by decide) (by omega) aq ac 0 [.int .u8 0] (fun _ => True) (fun _ => False) rfl rfl ?aP (fun _ hk => hk.elim) ?aF ?aO ?aB ?aS ?aL ?_; (case aP => exact rfl); (case aB => exact (kl HB)); (case aF => exact (fun _ _ => trivial)); (case aO => exact (kr HO_116000)); (case aS => exact (A02 (kl HB))); (case aL => have := LMc20.out; omega); intro dX dY ho hb hg hat; rw [← bM.out] at ho; have bc := ak (A1x (g := aj) (o := .cells #[aq, .int .i64 aa] 56 (0, 0)) (kb ad) hg (Kd.R_ne HO_116000.out ad.out (by decide))); have be := ak (A1x (g := ao) (o := .cells #[.slice none 0 0, .int .i64 0] 56 (0, 0)) (kb ae) hg (Kd.R_ne HO_116000.out ae.out (by decide))); have bf := ak (hb); have bg := ak (ho); clear ad; clear ae; clear HB; clear HO_116000; have ad := bc; have ae := be; have HB := bf; have al := bg; clear bc be bf bg; clear ho hb hg hat; obtain ⟨bo, a8, dj⟩ := Kd.A12 al.out; subst dj; obtain ⟨cx, cy⟩ := kc2 ad; obtain ⟨cz, cA⟩ := kf2 ad))
             generalize hw_ : (dY.setCell ⟨aj, 0, none⟩ (.slice bo ag.length a8)) = bQ; have bc : A0e (Kd.R (Kd.int .u8) 5 bQ w.heap.size (fun _ => True) (.slice bo ag.length a8) ag) := ⟨by rw [← hw_]; (with_reducible repeat (first | apply Kd.A1g | apply Kd.A1h | apply Kd.A1e)); exact Kd.A1n (Kd.A01 (p := ⟨aj, 0, none⟩) (Kd.A1r al.out ad.out (by decide)) (fun _ hk => hk.2) (.slice bo ag.length a8)) (fun _ hk => trivial)⟩; have be : A0e (bQ.heap[aj]? = some (.cells #[.slice bo ag.length a8, .int .i64 aa] 56 (0, 0))) := ⟨by rw [← hw_]; exact kb ad⟩; have bf : A0e (bQ.heap[ao]? = some (.cells #[.slice none 0 0, .int .i64 0] 56 (0, 0))) := ⟨by rw [← hw_]; exact kb ae⟩; have bg : A0e (Below w.heap.size w bQ) := ⟨by rw [← hw_]; repeat (first | (with_reducible first | exact HB.out | apply A0m | apply A0h | apply A0g | refine A0d ?_ aT.out | refine A0d ?_ aU.out) | exact HB.out)⟩; (try clear al); (try clear ad); (try clear ae); (try clear HB); clear hw_; have al := bc; have ad := be; have ae := bf; have HB := bg; clear bc be bf bg; replace al := ak (Kd.A1e al.out); replace ad := ak (A0l ad.out); replace ae := ak (A0l ae.out); replace HB := ak (A0g HB.out); have bx : 0 ≤ ((ah) : Int) := kD; have bp : (ah) < (ag.length : Int) := kD; obtain ⟨dH, dk, a3⟩ := Kd.A37 (Kd.A1i al.out).2.2 (ah) bx bp
             cases dk
             replace bx := eq_true bx
             (try (have bh := bp; simp only [List.length_drop, List.length_take] at bh; replace bh := eq_true bh)); replace bp := eq_true bp
             have p29 : 0 ≤ ((ah) : Int) := kD; have cB : ((ah) : Int) < ((ag.length : Int) : Int) := kD; obtain ⟨aQ, dZ, bR, bS, gl29, cl29, HG29⟩ := Kd.R_form al.out (by omega)
             (first | cases bR | (injection bR with ea_ en_ ec_; (first | subst ea_ | (injection ea_ with ea_; subst ea_)); subst ec_; clear en_))
             have GB29 := ak bS; have GG29 := ak HG29; clear bS gl29 HG29
             (first | simp only [add_plain] at a3 | skip)
             obtain ⟨bz, b0⟩ := Kd.R_celln 0 al.out ((ah) : Int) p29 cB; replace p29 := eq_true p29
             (try (have b1 := cB; simp only [List.length_drop, List.length_take] at b1; replace b1 := eq_true b1)); replace cB := eq_true cB
             have HP37 := Kd.R_putn al.out ((ah) : Int) (Go.bits .or .u8 (rd ag (ah)) (ax)); rw [← bP.out] at HP37; have bT := ak HP37; clear HP37
             refine A2h (n := 20) (S := fun w' => w'.cell? ⟨aj, 0, none⟩ = some (.slice (some ⟨aQ, 0, none⟩) ag.length a8) ∧ w'.cell? ⟨aj, 1, none⟩ = some (.int .i64 aa) ∧ w'.cell? ⟨aQ, ((ah)).toNat, none⟩ = some (.int .u8 (rd ag (ah)))) (ds := [19]) (bl 20 0) (by kernel_rfl) rfl rfl ⟨(A22 ad.out 0).trans rfl, (A22 ad.out 1).trans rfl, a3⟩ (fun hHeld => ?_); refine A2e A0z.tab9 A0z.bits9 (fun HT_ HW_ => ?_)
             generalize bQ.drew = ea at al ad ae HB GG29 bT b0 a3 bz hHeld ⊢; refine pu 0 (some 34) (bl 20 1) (h := ?_); refine pu 2 (some 36) (bl 20 5) (h := ?_); refine pu 7 (some 41) (bl 20 133) (h := ?_); refine pu 8 (some 42) (bl 20 389) (h := ?_); refine pu 9 (some 43) (bl 20 901) (h := ?_); refine pu 10 (some 44) (bl 20 1925) (h := ?_); refine pu 11 (some 45) (bl 20 3973) (h := ?_); refine pu 12 (some 46) (bl 20 8069) (h := ?_); refine ta 1 (some 35) (bl 20 8071) (h := ?_); refine ta 3 (some 37) (bl 20 8079) (h := ?_); refine pu 4 (some 38) (bl 20 8095) (h := ?_); refine pu 5 (some 39) (bl 20 8127) (h := ?_); refine ta 6 (some 40) (bl 20 8191) (h := ?_); refine ta 13 (some 47) (bl 20 16383) (h := ?_); refine pu 14 (some 48) (bl 20 32767) (h := ?_); refine pu 15 (some 49) (bl 20 65535) (h := ?_); refine pu 16 (some 50) (bl 20 131071) (h := ?_); refine pu 17 (some 51) (bl 20 262143) (h := ?_); refine pu 18 (some 52) (bl 20 524287) (h := ?_); refine last_ (i := 19) (N := none) (bl 20 1048575) rfl rfl (A2b HT_.out (by kernel_rfl)) (by decide) (fun K hK => ?_); refine A29 (w1 := ?_) (by rfl) rfl ?_ ?_
             rotate_left
             ·go_simp
              rfl
             refine hK.out _ _ ?_; clear hK K; refine A26 (A25 HT_.out (by kernel_rfl)) ?_; generalize hw_ : (ea.setCell ⟨aQ, ((ah) : Int).toNat, none⟩ (.int .u8 (Go.bits .or .u8 (rd ag (ah)) (ax)))) = cC; have bc : A0e (Kd.R (Kd.int .u8) 5 cC w.heap.size (fun _ => True) (.slice (some ⟨aQ, 0, none⟩) ag.length a8) bw) := ⟨by rw [← hw_]; (with_reducible repeat (first | apply Kd.A1g | apply Kd.A1h | apply Kd.A1e)); exact bT.out⟩; have be : A0e (cC.heap[aj]? = some (.cells #[.slice (some ⟨aQ, 0, none⟩) ag.length a8, .int .i64 aa] 56 (0, 0))) := ⟨by rw [← hw_]; (with_reducible repeat (first | refine A3i ?_ _ | refine A0l ?_ | refine A3h ?_ _)); refine blk_far ?_ (by have h_ := Kd.R_ne al.out ad.out (by decide); intro e_; exact h_ (by rw [e_]; rfl)) _; (with_reducible repeat (first | refine A3i ?_ _ | refine A0l ?_ | refine A3h ?_ _)); exact ad.out⟩; have bf : A0e (cC.heap[ao]? = some (.cells #[.slice none 0 0, .int .i64 0] 56 (0, 0))) := ⟨by rw [← hw_]; (with_reducible repeat (first | refine A3i ?_ _ | refine A0l ?_ | refine A3h ?_ _)); refine blk_far ?_ (by have h_ := Kd.R_ne al.out ae.out (by decide); intro e_; exact h_ (by rw [e_]; rfl)) _; (with_reducible repeat (first | refine A3i ?_ _ | refine A0l ?_ | refine A3h ?_ _)); exact ae.out⟩; have bg : A0e (Below w.heap.size w cC) := ⟨by rw [← hw_]; repeat (first | (with_reducible first | exact HB.out | apply A0m | apply A0h | apply A0g | refine A0d ?_ GB29.out | refine A0d ?_ aT.out | refine A0d ?_ aU.out) | exact HB.out)⟩; (try clear al); (try clear ad); (try clear ae); (try clear HB); clear hw_; have al := bc; have ad := be; have ae := bf; have HB := bg; clear bc be bf bg; obtain ⟨cD, cE⟩ := kc2 ad; obtain ⟨cF, cG⟩ := kf2 ad
             try go_wp2
             go_roundg k2
             case measure => have := ce.out; have := cp.out; omega
             case rel => exact ⟨(wrap64 (af - 1)), (bw), (wrap64 (aa + 1)), (.slice (some ⟨aQ, 0, none⟩) ag.length a8), kE, H', ⟨by have := ce.out; have := cp.out; omega⟩, ⟨by (with_reducible repeat (first | apply Kd.A1g | apply Kd.A1h | apply Kd.A1e)); exact Kd.A1n (Kd.A01 (p := ⟨aj, 1, none⟩) (Kd.A1r al.out ad.out (by decide)) (fun _ hk => hk.2) (.int .i64 (wrap64 (aa + 1)))) (fun _ hk => trivial)⟩, ⟨(kb ad)⟩, ⟨(kb ae)⟩, ⟨(kl HB)⟩⟩
            ·rw [if_neg bO] at H
             exact absurd H (by simp)
           ·rw [if_neg bN] at H
            exact absurd H (by simp)
          ·rw [if_neg cs] at H
           exact absurd H (by simp)
         ·rw [if_neg cr] at H
          exact absurd H (by simp)
        ·rw [if_neg cq] at H
         exact absurd H (by simp)
       ·rw [if_neg bJ] at H; obtain ⟨bK, bL⟩ := kqF bJ; obtain ⟨ai, bi⟩ : ∃ j_ : Int, (wrap64 (Int.tdiv aa 8)) = j_ := ⟨_, rfl⟩
        replace H : (if 0 ≤ (ai) then (if (ai) < (ac.length : Int) then (if 0 ≤ af then (if 0 ≤ (wrap64 (7 - (Int.tmod aa 8))) then (A0z.l0 k2 a1 (wrap64 (af - 1)) (ac.set ((ai) : Int).toNat (Go.bits .or .u8 (rd ac (ai)) (shl .u8 ((Go.bits .and .u64 (shr .u64 a1 af) 1) % 256) (wrap64 (7 - (Int.tmod aa 8)))))) (wrap64 (aa + 1))) else (none)) else (none)) else (none)) else (none)) = some (r1, r2) := by first | (rw [bi] at H; exact H) | (simp only [bi] at H ⊢; exact H)
        have dl : (IntKind.i64.wrap (Int.tdiv aa 8)) = ai := (A3a _).trans bi
        by_cases cH : 0 ≤ (ai)
        ·rw [if_pos cH] at H; have dI := decide_eq_true cH; clear cH
         by_cases cI : (ai) < (ac.length : Int)
         ·rw [if_pos cI] at H; have dJ := decide_eq_true cI; clear cI
          by_cases bU : 0 ≤ af
          ·rw [if_pos bU] at H; have dK := eq_true bU; have dL := decide_eq_true bU; clear bU; obtain ⟨aw, aM⟩ : ∃ j_ : Int, (shr .u64 a1 af) = j_ := ⟨_, rfl⟩
           replace H : (if 0 ≤ (wrap64 (7 - (Int.tmod aa 8))) then (A0z.l0 k2 a1 (wrap64 (af - 1)) (ac.set ((ai) : Int).toNat (Go.bits .or .u8 (rd ac (ai)) (shl .u8 ((Go.bits .and .u64 (aw) 1) % 256) (wrap64 (7 - (Int.tmod aa 8)))))) (wrap64 (aa + 1))) else (none)) = some (r1, r2) := by first | (rw [aM] at H; exact H) | (simp only [aM] at H ⊢; exact H)
           have dm : (a1 / 2 ^ min af.toNat 64) = aw := aM; have dn : af ≤ 64 → (a1 / 2 ^ af.toNat) = aw := shr_small aM; obtain ⟨au, bj⟩ : ∃ j_ : Int, (wrap64 (7 - (Int.tmod aa 8))) = j_ := ⟨_, rfl⟩
           replace H : (if 0 ≤ (au) then (A0z.l0 k2 a1 (wrap64 (af - 1)) (ac.set ((ai) : Int).toNat (Go.bits .or .u8 (rd ac (ai)) (shl .u8 ((Go.bits .and .u64 (aw) 1) % 256) (au)))) (wrap64 (aa + 1))) else (none)) = some (r1, r2) := by first | (rw [bj] at H; exact H) | (simp only [bj] at H ⊢; exact H)
           have dp : (IntKind.i64.wrap (7 - (Int.tmod aa 8))) = au := (A3a _).trans bj
           by_cases bV : 0 ≤ (au)
           ·rw [if_pos bV] at H; have dM := eq_true bV; have dN := decide_eq_true bV; clear bV; obtain ⟨ay, aN⟩ : ∃ j_ : Int, (shl .u8 ((Go.bits .and .u64 (aw) 1) % 256) (au)) = j_ := ⟨_, rfl⟩
            replace H : (A0z.l0 k2 a1 (wrap64 (af - 1)) (ac.set ((ai) : Int).toNat (Go.bits .or .u8 (rd ac (ai)) (ay))) (wrap64 (aa + 1))) = some (r1, r2) := by first | (rw [aN] at H; exact H) | (simp only [aN] at H ⊢; exact H)
            have b2 : (IntKind.u8.wrap (((Go.bits .and .u64 (aw) 1) % 256) * 2 ^ min (au).toNat 8)) = ay := aN; have b3 : (au) ≤ 8 → (IntKind.u8.wrap (((Go.bits .and .u64 (aw) 1) % 256) * 2 ^ (au).toNat)) = ay := shl_small aN; have b4 : (((Go.bits .and .u64 (aw) 1) % 256) * 2 ^ min (au).toNat 8) % 256 = ay := (IntKind.wrap_u8 _).symm.trans b2
            have b5 : (au) ≤ 8 → (((Go.bits .and .u64 (aw) 1) % 256) * 2 ^ (au).toNat) % 256 = ay := fun h_ => (IntKind.wrap_u8 _).symm.trans (b3 h_)
            have dq : IntKind.u8.wrap (IntKind.u8.wrap (Go.bits .and .u64 (aw) 1) * 2 ^ min (au).toNat 8) = ay := by rw [IntKind.wrap_u8, IntKind.wrap_u8]; exact b4
            have dr : (au) ≤ 8 → IntKind.u8.wrap (IntKind.u8.wrap (Go.bits .and .u64 (aw) 1) * 2 ^ (au).toNat) = ay := fun h_ => by rw [IntKind.wrap_u8, IntKind.wrap_u8]; exact b5 h_
            obtain ⟨b6, a9⟩ : ∃ y_ : List Int, y_ = (ac.set ((ai) : Int).toNat (Go.bits .or .u8 (rd ac (ai)) (ay))) := ⟨_, rfl⟩
            replace H : (A0z.l0 k2 a1 (wrap64 (af - 1)) b6 (wrap64 (aa + 1))) = some (r1, r2) := by first | (rw [a9]; with_reducible exact H) | (have H2_ := (Option.bind_some _ _).symm.trans H; rw [a9]; with_reducible exact H2_) | (have H2_ := (Option.bind_some _ _).symm.trans H; with_reducible exact H2_) | with_reducible exact H | (rw [a9]; exact H) | exact H
            have bW := ak a9; clear a9; have H' := ak H; clear H; have dO := am.out; have dP := an.out; obtain ⟨cJ, cK⟩ := kc2 ad; obtain ⟨cL, cM⟩ := kf2 ad
            try go_wp2
            replace HO_116000 := ak (Kd.A1e HO_116000.out); replace ad := ak (A0l ad.out); replace ae := ak (A0l ae.out); replace HB := ak (A0g HB.out); obtain ⟨eb, bq, bX⟩ := Kd.A12 HO_116000.out
            (first | subst bX | (injection bX with f1_ f2_ f3_; have f4_ := f1_.symm; have f5_ := f3_.symm; clear f1_ f2_ f3_; subst f4_; subst f5_))
            have b7 : 0 ≤ ((ai) : Int) := kD; have br : (ai) < (ac.length : Int) := kD; obtain ⟨dQ, du, a4⟩ := Kd.A37 (Kd.A1i HO_116000.out).2.2 (ai) b7 br
            cases du
            replace b7 := eq_true b7
            (try (have bk := br; simp only [List.length_drop, List.length_take] at bk; replace bk := eq_true bk)); replace br := eq_true br
            have p48 : 0 ≤ ((ai) : Int) := kD; have cN : ((ai) : Int) < ((ac.length : Int) : Int) := kD; obtain ⟨aR, ec, bY, bZ, gl48, cl48, HG48⟩ := Kd.R_form HO_116000.out (by omega)
            (first | cases bY | (injection bY with ea_ en_ ec_; (first | subst ea_ | (injection ea_ with ea_; subst ea_)); subst ec_; clear en_))
            have GB48 := ak bZ; have GG48 := ak HG48; clear bZ gl48 HG48
            (first | simp only [add_plain] at a4 | skip)
            obtain ⟨b8, b9⟩ := Kd.R_celln 0 HO_116000.out ((ai) : Int) p48 cN; replace p48 := eq_true p48
            (try (have bA := cN; simp only [List.length_drop, List.length_take] at bA; replace bA := eq_true bA)); replace cN := eq_true cN
            have HP53 := Kd.R_putn HO_116000.out ((ai) : Int) (Go.bits .or .u8 (rd ac (ai)) (ay)); rw [← bW.out] at HP53; have ca := ak HP53; clear HP53
            refine A2h (n := 20) (S := fun w' => w'.cell? ⟨aj, 0, none⟩ = some (.slice (some ⟨aR, 0, none⟩) ac.length bq) ∧ w'.cell? ⟨aj, 1, none⟩ = some (.int .i64 aa) ∧ w'.cell? ⟨aR, ((ai)).toNat, none⟩ = some (.int .u8 (rd ac (ai)))) (ds := [19]) (bl 20 0) (by kernel_rfl) rfl rfl ⟨(A22 ad.out 0).trans rfl, (A22 ad.out 1).trans rfl, a4⟩ (fun hHeld => ?_); refine A2e A0z.tab9 A0z.bits9 (fun HT_ HW_ => ?_)
            generalize wr.drew = ed at HO_116000 ad ae HB GG48 ca b9 a4 b8 hHeld ⊢; refine pu 0 (some 34) (bl 20 1) (h := ?_); refine pu 2 (some 36) (bl 20 5) (h := ?_); refine pu 7 (some 41) (bl 20 133) (h := ?_); refine pu 8 (some 42) (bl 20 389) (h := ?_); refine pu 9 (some 43) (bl 20 901) (h := ?_); refine pu 10 (some 44) (bl 20 1925) (h := ?_); refine pu 11 (some 45) (bl 20 3973) (h := ?_); refine pu 12 (some 46) (bl 20 8069) (h := ?_); refine ta 1 (some 35) (bl 20 8071) (h := ?_); refine ta 3 (some 37) (bl 20 8079) (h := ?_); refine pu 4 (some 38) (bl 20 8095) (h := ?_); refine pu 5 (some 39) (bl 20 8127) (h := ?_); refine ta 6 (some 40) (bl 20 8191) (h := ?_); refine ta 13 (some 47) (bl 20 16383) (h := ?_); refine pu 14 (some 48) (bl 20 32767) (h := ?_); refine pu 15 (some 49) (bl 20 65535) (h := ?_); refine pu 16 (some 50) (bl 20 131071) (h := ?_); refine pu 17 (some 51) (bl 20 262143) (h := ?_); refine pu 18 (some 52) (bl 20 524287) (h := ?_); refine last_ (i := 19) (N := none) (bl 20 1048575) rfl rfl (A2b HT_.out (by kernel_rfl)) (by decide) (fun K hK => ?_); refine A29 (w1 := ?_) (by rfl) rfl ?_ ?_
            rotate_left
            ·go_simp
             rfl
            refine hK.out _ _ ?_; clear hK K; refine A26 (A25 HT_.out (by kernel_rfl)) ?_; generalize hw_ : (ed.setCell ⟨aR, ((ai) : Int).toNat, none⟩ (.int .u8 (Go.bits .or .u8 (rd ac (ai)) (ay)))) = cO; have bc : A0e (Kd.R (Kd.int .u8) 5 cO w.heap.size (fun _ => True) (.slice (some ⟨aR, 0, none⟩) ac.length bq) b6) := ⟨by rw [← hw_]; (with_reducible repeat (first | apply Kd.A1g | apply Kd.A1h | apply Kd.A1e)); exact ca.out⟩; have be : A0e (cO.heap[aj]? = some (.cells #[.slice (some ⟨aR, 0, none⟩) ac.length bq, .int .i64 aa] 56 (0, 0))) := ⟨by rw [← hw_]; (with_reducible repeat (first | refine A3i ?_ _ | refine A0l ?_ | refine A3h ?_ _)); refine blk_far ?_ (by have h_ := Kd.R_ne HO_116000.out ad.out (by decide); intro e_; exact h_ (by rw [e_]; rfl)) _; (with_reducible repeat (first | refine A3i ?_ _ | refine A0l ?_ | refine A3h ?_ _)); exact ad.out⟩; have bf : A0e (cO.heap[ao]? = some (.cells #[.slice none 0 0, .int .i64 0] 56 (0, 0))) := ⟨by rw [← hw_]; (with_reducible repeat (first | refine A3i ?_ _ | refine A0l ?_ | refine A3h ?_ _)); refine blk_far ?_ (by have h_ := Kd.R_ne HO_116000.out ae.out (by decide); intro e_; exact h_ (by rw [e_]; rfl)) _; (with_reducible repeat (first | refine A3i ?_ _ | refine A0l ?_ | refine A3h ?_ _)); exact ae.out⟩; have bg : A0e (Below w.heap.size w cO) := ⟨by rw [← hw_]; repeat (first | (with_reducible first | exact HB.out | apply A0m | apply A0h | apply A0g | refine A0d ?_ GB48.out | refine A0d ?_ aT.out | refine A0d ?_ aU.out) | exact HB.out)⟩; (try clear HO_116000); (try clear ad); (try clear ae); (try clear HB); clear hw_; have HO_116000 := bc; have ad := be; have ae := bf; have HB := bg; clear bc be bf bg; obtain ⟨cP, cQ⟩ := kc2 ad; obtain ⟨cR, cS⟩ := kf2 ad
            try go_wp2
            go_roundg k2
            case measure => have := ce.out; have := cp.out; omega
            case rel => exact ⟨(wrap64 (af - 1)), (b6), (wrap64 (aa + 1)), (.slice (some ⟨aR, 0, none⟩) ac.length bq), kE, H', ⟨by have := ce.out; have := cp.out; omega⟩, ⟨by (with_reducible repeat (first | apply Kd.A1g | apply Kd.A1h | apply Kd.A1e)); exact Kd.A1n (Kd.A01 (p := ⟨aj, 1, none⟩) (Kd.A1r HO_116000.out ad.out (by decide)) (fun _ hk => hk.2) (.int .i64 (wrap64 (aa + 1)))) (fun _ hk => trivial)⟩, ⟨(kb ad)⟩, ⟨(kb ae)⟩, ⟨(kl HB)⟩⟩
           ·rw [if_neg bV] at H
            exact absurd H (by simp)
          ·rw [if_neg bU] at H
           exact absurd H (by simp)
         ·rw [if_neg cI] at H
          exact absurd H (by simp)
        ·rw [if_neg cH] at H
         exact absurd H (by simp)
      ·rw [if_neg bC] at H; have bI : decide (0 ≤ af) = false := decide_eq_false bC; clear bC; simp only [Option.some.injEq, Prod.mk.injEq] at H; obtain ⟨rfl, rfl⟩ := H; have dR := am.out; have dS := an.out; obtain ⟨cT, cU⟩ := kc2 ad; obtain ⟨cV, cW⟩ := kf2 ad; obtain ⟨cc, cd, dw⟩ := Kd.A12 HO_116000.out; subst dw; obtain ⟨cX, cY⟩ := kc2 ae; obtain ⟨cZ, da⟩ := kf2 ae
       go_wp2
       refine bodyPost_ret (results_cell_row rfl _ _ ao 56 #[.slice cc ac.length cd, .int .i64 aa] (0, 0) _ rfl (kb ae) Tryd.underlying56 rfl (by kernel_rfl)) rfl ?_
       exact ⟨_, kF, by (with_reducible repeat (first | apply Kd.A1g | apply Kd.A1h | apply Kd.A1e)); exact Kd.A1n (Kd.A01 (p := ⟨ao, 1, none⟩) (Kd.A01 (p := ⟨ao, 0, none⟩) (Kd.A1r HO_116000.out ae.out (by decide)) (fun _ hk => hk.2) (.slice cc ac.length cd)) (fun _ hk => hk.2) (.int .i64 aa)) (fun _ hk => trivial), (kl HB)⟩
end Go.Proofs.YtiahbcaoikoogabDoor.All
