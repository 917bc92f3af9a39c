-- copied by a program of the session
import Derived.Test.YtiahbcaoikoogabDoorKqAllx4
import Derived.Test.YtiahbcaoikoogabDoorKqAllx5
section
namespace Go.Proofs.YtiahbcaoikoogabDoor.All
open Go.RowKit Go.Proofs.YtiahbcaoikoogabDoorW.PrintWords Go.Proofs.YtiahbcaoikoogabDoorW.PrintLast Go.Proofs.YtiahbcaoikoogabDoorW.PrintMore
attribute [local go_sem] A2i A2j A2v A2w A14 A15 A2k A2l
set_option linter.unusedVariables false
set_option linter.unusedSimpArgs false
def A3c.f (k : Nat) (a0 : Int) : Option (List Int × Int) := (A1v.f k a0).bind fun ac => (if 0 ≤ ac then ((A0z.f k ([] : List Int) 0 (IntKind.u64.wrap ((shl .u64 1 ac) - 1)) ac).bind fun aa => (if ac < 4 then ((A0z.f k aa.1 aa.2 0 1).bind fun ad => ((A3d.f ac).bind fun ag => ((A0z.f k ad.1 ad.2 (IntKind.u64.wrap (a0)) ag).bind fun ae => (some (ae.1, ae.2))))) else ((A3d.f ac).bind fun ah => ((A0z.f k aa.1 aa.2 (IntKind.u64.wrap (a0)) ah).bind fun af => (some (af.1, af.2)))))) else (none))
theorem A3c.mono : ∀ a0 k, LeO (A3c.f k a0) (A3c.f (k + 1) a0) := by
 intro a0 k
 unfold A3c.f
 repeat' first
   | (with_reducible exact A0z.mono _ _ _ _ _)
   | (with_reducible exact A1v.mono _ _)
   | (with_reducible exact LeO.refl _)
   | (with_reducible exact LeO.none _)
   | (with_reducible refine LeO.ite ?_ ?_)
   | (with_reducible refine LeO.bind ?_ (fun _ => ?_))
   | exact A0z.mono _ _ _ _ _
   | exact A1v.mono _ _
   | exact LeO.none _
   | refine LeO.ite ?_ ?_
   | refine LeO.bind ?_ (fun _ => ?_)
set_option maxHeartbeats 8000000 in
set_option maxRecDepth 100000 in
theorem A3c.calls (k : Nat) (a0 : Int) (r1 : List Int) (r2 : Int) (w : World) (h : A3c.f k a0 = some (r1, r2)) :
  Calls Tryd.prog 35 #[.int .i64 a0] w fun e w' => ∃ bv : Value, e = .returned (.agg #[bv, .int .i64 r2]) ∧ Kd.R (Kd.int .u8) 5 w' w.heap.size (fun _ => True) bv r1 ∧ Below w.heap.size w w' := by
 have hu56 := Tryd.underlying56; have HB := ak (Below.refl w.heap.size w); have H : ((A1v.f k a0).bind fun af => (if 0 ≤ af then ((A0z.f k ([] : List Int) 0 (IntKind.u64.wrap ((shl .u64 1 af) - 1)) af).bind fun am => (if af < 4 then ((A0z.f k am.1 am.2 0 1).bind fun au => ((A3d.f af).bind fun a2 => ((A0z.f k au.1 au.2 (IntKind.u64.wrap (a0)) a2).bind fun av => (some (av.1, av.2))))) else ((A3d.f af).bind fun a3 => ((A0z.f k am.1 am.2 (IntKind.u64.wrap (a0)) a3).bind fun aw => (some (aw.1, aw.2)))))) else (none))) = some (r1, r2) := h; clear h; replace H := bkH H; obtain ⟨af, A2, H⟩ := H
 by_cases c3 : 0 ≤ af
 ·rw [if_pos c3] at H; have b8 := eq_true c3; have b9 := decide_eq_true c3; clear c3; obtain ⟨aB, ar⟩ : ∃ j_ : Int, (shl .u64 1 af) = j_ := ⟨_, rfl⟩
  replace H : ((A0z.f k ([] : List Int) 0 (IntKind.u64.wrap ((aB) - 1)) af).bind fun am => (if af < 4 then ((A0z.f k am.1 am.2 0 1).bind fun au => ((A3d.f af).bind fun a2 => ((A0z.f k au.1 au.2 (IntKind.u64.wrap (a0)) a2).bind fun av => (some (av.1, av.2))))) else ((A3d.f af).bind fun a3 => ((A0z.f k am.1 am.2 (IntKind.u64.wrap (a0)) a3).bind fun aw => (some (aw.1, aw.2)))))) = some (r1, r2) := by first | (rw [ar] at H; exact H) | (simp only [ar] at H ⊢; exact H)
  (try rw [ar] at A2); have aJ : (IntKind.u64.wrap (1 * 2 ^ min af.toNat 64)) = aB := ar; have aK : af ≤ 64 → (IntKind.u64.wrap (1 * 2 ^ af.toNat)) = aB := shl_small ar
  have bw : (IntKind.u64.wrap (2 ^ min af.toNat 64)) = aB := by have h_ := aJ; rw [Int.one_mul] at h_; exact h_
  have bx : af ≤ 64 → (IntKind.u64.wrap (2 ^ af.toNat)) = aB := fun hle_ => by have h_ := aK hle_; rw [Int.one_mul] at h_; exact h_
  replace H := bkH H; obtain ⟨⟨ag, an⟩, A5, H⟩ := H; (try dsimp only at H)
  by_cases c6 : af < 4
  ·rw [if_pos c6] at H; have bq := decide_eq_true c6; clear c6; replace H := bkH H; obtain ⟨⟨aq, ax⟩, A7, H⟩ := H; (try dsimp only at H); replace H := bkH H; obtain ⟨a2, A8, H⟩ := H; replace H := bkH H; obtain ⟨⟨aE, aF⟩, A9, H⟩ := H; (try dsimp only at H); simp only [Option.some.injEq, Prod.mk.injEq] at H; obtain ⟨rfl, rfl⟩ := H
   go_enter Tryd.func35, Tryd.ntmps35
   try go_wp2_with (first | ((with_reducible refine A0u (N := 2) rfl ?_); refine bxe 2 #[.slice none 0 0, .int .i64 0] 56 (h := ?_); intro aj hg aL hbox hb; have aa := ak (hbox); have aM := kG hg HB; have a7 := kG hg HB; replace HB := kH HB hb; clear hb hbox hg) | ((with_reducible refine A0i (f := 48) rfl ?_); refine A09 (some 6) rfl rfl Tryd.func48 (by kernel_rfl) rfl #[.int .i64 a0] rfl km ?_; (with_reducible refine (A1v.calls k a0 af _ A2.out).mono ?_); rintro e w' ⟨rfl, ⟨nd, rfl⟩⟩; refine ⟨_, rfl, ?_⟩; (try (rw [drewN_self aL]; generalize hq_ : World.drewN aL _ = aL; have a8 : A0e (aL.heap[aj]? = some (.cells #[.slice none 0 0, .int .i64 0] 56 (0, 0))) := ⟨by rw [← hq_]; exact (kb aa)⟩; have a9 : A0e (Below w.heap.size w aL) := ⟨by rw [← hq_]; exact (kl HB)⟩; clear aa HB hq_; have aa := a8; have HB := a9; clear a8 a9))) | ((with_reducible refine A0i (f := 34) rfl ?_); refine A09 (some 12) rfl rfl Tryd.func34 (by kernel_rfl) rfl #[.agg #[.slice none 0 0, .int .i64 0], .int .u64 (IntKind.u64.wrap ((aB) - 1)), .int .i64 af] rfl (by (try simp only [List.map_toArray, List.map_cons, List.map_nil]); first | done | (simp only [ar]; rfl) | rfl | (simp only [List.length_drop, List.length_take]; rfl)) ?_; (refine (A0z.calls k _ _ ([] : List Int) 0 (IntKind.u64.wrap ((aB) - 1)) af ag an _ ?ao ?ap A5.out).mono ?_); (case ao => exact Kd.C_nil _ _); (case ap => exact Nat.le_refl _); rintro e bL ⟨br, rfl, ho0, hb⟩; refine ⟨_, rfl, ?_⟩; have ac := ak (Kd.A17 ho0 (A02 (kl HB))); replace aa := kB aa hb; replace HB := kH HB hb; (try clear hb); (try clear ho0)) | ((with_reducible refine A0u (N := 4) rfl ?_); refine bxe 4 #[.slice none 0 0, .int .i64 0] 56 (h := ?_); intro ae hg bM hbox hb; replace ac := ak (Kd.A2o (kr ac) hb); have ad := ak (hbox); have aN := kG hg HB; have aA := kG hg HB; replace HB := kH HB hb; obtain ⟨ah, ai⟩ := kN hg aa; replace aa := kB aa hb; clear hb hbox hg; obtain ⟨a4, ay, bs⟩ := Kd.A12 ac.out; subst bs; have bz := ai.out; have b0 := ah.out; obtain ⟨aY, aZ⟩ := kc2 ad; obtain ⟨ba, bb⟩ := kf2 ad) | ((with_reducible refine A0i (f := 34) rfl ?_); refine A09 (some 16) rfl rfl Tryd.func34 (by kernel_rfl) rfl #[.agg #[.slice a4 ag.length ay, .int .i64 an], .int .u64 0, .int .i64 1] rfl km ?_; (with_reducible refine (A0z.calls k _ _ ag an 0 1 aq ax _ ?ao ?ap A7.out).mono ?_); (case ao => refine (Kd.A1i (e := 5) (base := w.heap.size) (ok := fun k_ => True) (n := ag.length) (c := ay) ?_).2.2; exact (by (with_reducible repeat (first | apply Kd.A1g | apply Kd.A1h | apply Kd.A1e)); exact (Kd.A1n (Kd.A01 (p := ⟨ae, 1, none⟩) (Kd.A01 (p := ⟨ae, 0, none⟩) (Kd.A1r ac.out ad.out (by decide)) (fun _ hk => hk.2) (.slice a4 ag.length ay)) (fun _ hk => hk.2) (.int .i64 an)) (fun _ h_ => h_.1)))); (case ap => exact (Kd.A1i ac.out).2.1); rintro e bA ⟨bB, rfl, ho0, hb⟩; refine ⟨_, rfl, ?_⟩; have al := ak (Kd.A17 (Kd.A3l ho0 (Kd.R_lt (by (with_reducible repeat (first | apply Kd.A1g | apply Kd.A1h | apply Kd.A1e)); exact (Kd.A1n (Kd.A01 (p := ⟨ae, 1, none⟩) (Kd.A01 (p := ⟨ae, 0, none⟩) (Kd.A1r ac.out ad.out (by decide)) (fun _ hk => hk.2) (.slice a4 ag.length ay)) (fun _ hk => hk.2) (.int .i64 an)) (fun _ h_ => h_.1))))) (A02 (kl HB))); replace ac := ak (Kd.A2q (by (with_reducible repeat (first | apply Kd.A1g | apply Kd.A1h | apply Kd.A1e)); exact (Kd.A1n (Kd.A01 (p := ⟨ae, 1, none⟩) (Kd.A01 (p := ⟨ae, 0, none⟩) (Kd.A1r ac.out ad.out (by decide)) (fun _ hk => hk.2) (.slice a4 ag.length ay)) (fun _ hk => hk.2) (.int .i64 an)) (fun _ h_ => h_.1))) (Kd.A3j ho0) hb); replace aa := ak (A1t (g := aj) (o := .cells #[.slice none 0 0, .int .i64 0] 56 (0, 0)) (kb aa) hb); replace ad := ak (A1t (g := ae) (o := .cells #[.slice a4 ag.length ay, .int .i64 an] 56 (0, 0)) (kb ad) hb); replace HB := kH HB hb; (try clear hb); (try clear hk); (try clear ho0); obtain ⟨az, a1, bt⟩ := Kd.A12 al.out; subst bt; obtain ⟨bc, be⟩ := kc2 ad; obtain ⟨bf, bg⟩ := kf2 ad))
   generalize hw_ : ((bA.setCell ⟨ae, 0, none⟩ (.slice az aq.length a1)).setCell ⟨ae, 1, none⟩ (.int .i64 ax)) = aI; have a8 : A0e (Kd.R (Kd.int .u8) 5 aI w.heap.size (fun k_ => some k_ ≠ (.slice az aq.length a1 : Value).ownBlock) (.slice a4 ag.length ay) ag) := ⟨by rw [← hw_]; (with_reducible repeat (first | apply Kd.A1g | apply Kd.A1h | apply Kd.A1e)); exact Kd.A1n (Kd.A01 (p := ⟨ae, 1, none⟩) (Kd.A01 (p := ⟨ae, 0, none⟩) (Kd.A1r ac.out ad.out (by decide)) (fun _ hk => hk.2) (.slice az aq.length a1)) (fun _ hk => hk.2) (.int .i64 ax)) (fun _ hk => hk.1.2)⟩; have a9 : A0e (Kd.R (Kd.int .u8) 5 aI w.heap.size (fun k_ => some k_ ≠ (.slice a4 ag.length ay : Value).ownBlock) (.slice az aq.length a1) aq) := ⟨by rw [← hw_]; (with_reducible repeat (first | apply Kd.A1g | apply Kd.A1h | apply Kd.A1e)); exact Kd.A1n (Kd.A01 (p := ⟨ae, 1, none⟩) (Kd.A01 (p := ⟨ae, 0, none⟩) (Kd.A1r al.out ad.out (by decide)) (fun _ hk => hk.2) (.slice az aq.length a1)) (fun _ hk => hk.2) (.int .i64 ax)) (fun _ hk => hk.1.2)⟩; have aO : A0e (aI.heap[aj]? = some (.cells #[.slice none 0 0, .int .i64 0] 56 (0, 0))) := ⟨by rw [← hw_]; exact kb aa⟩; have aP : A0e (aI.heap[ae]? = some (.cells #[.slice az aq.length a1, .int .i64 ax] 56 (0, 0))) := ⟨by rw [← hw_]; exact kb ad⟩; have b1 : A0e (Below w.heap.size w aI) := ⟨by rw [← hw_]; repeat (first | (with_reducible first | exact HB.out | apply A0m | apply A0h | apply A0g | refine A0d ?_ a7.out | refine A0d ?_ aA.out) | exact HB.out)⟩; (try clear ac); (try clear al); (try clear aa); (try clear ad); (try clear HB); clear hw_; have ac := a8; have al := a9; have aa := aO; have ad := aP; have HB := b1; clear a8 a9 aO aP b1; replace ac := ak (Kd.A1e ac.out); replace al := ak (Kd.A1e al.out); replace aa := ak (A0l aa.out); replace ad := ak (A0l ad.out); replace HB := ak (A0g HB.out); refine A2h (n := 7) (S := fun w' => w'.cell? ⟨ae, 0, none⟩ = some (.slice az aq.length a1) ∧ w'.cell? ⟨ae, 1, none⟩ = some (.int .i64 ax)) (ds := []) (bl 7 0) (by kernel_rfl) rfl rfl kz (fun hHeld => ?_); generalize aI.drew = bN at ac al aa ad HB hHeld ⊢; refine pu 1 (some 18) (bl 7 2) (h := ?_); refine pu 2 (some 19) (bl 7 6) (h := ?_); refine pu 3 (some 20) (bl 7 14) (h := ?_); refine ta 0 (some 17) (bl 7 15) (h := ?_); refine one_ (i := 4) (N := some 21) (bl 7 31) rfl rfl (by kernel_rfl) (by decide) (fun K hK => ?_); refine goes_ Tryd.func49 (by kernel_rfl) rfl #[.int .i64 af] (by rfl) rfl rfl km ?_
   with_reducible refine (A3d.calls af a2 _ A8.out).mono ?_
   rintro e w' ⟨rfl, ⟨nd, rfl⟩⟩; refine ⟨_, rfl, ?_⟩; refine hK.out _ _ kz (fun hHeld => ?_); clear hK K; refine nm (some 21) (h := ?_)
   refine one_ (i := 5) (N := some 22) (bl 7 63) rfl rfl (by kernel_rfl) (by decide) (fun K hK => ?_); refine goes_ Tryd.func34 (by kernel_rfl) rfl #[.agg #[.slice az aq.length a1, .int .i64 ax], .int .u64 (IntKind.u64.wrap (a0)), .int .i64 a2] (by rfl) rfl rfl km ?_
   with_reducible refine (A0z.calls k _ _ aq ax (IntKind.u64.wrap (a0)) a2 aE aF _ ?ao ?ap A9.out).mono ?_
   (case ao => repeat (first | exact (Kd.A1i al.out).2.2 | (with_reducible refine Kd.A1u ?_ _) | (with_reducible refine Kd.A1s ?_ _) | (with_reducible refine Kd.A19 ?_)))
   (case ap => exact (Kd.A1i al.out).2.1)
   rintro e bO ⟨bC, rfl, ho0, hb⟩; refine ⟨_, rfl, ?_⟩; have aC := ak (Kd.A17 (Kd.A3l (Kd.A3l ho0 (Kd.R_lt (kr ac))) (Kd.R_lt (kr al))) (A02 (kl HB))); replace ac := ak (Kd.A2q (kr ac) (Kd.A3j ho0) hb); replace al := ak (Kd.A2q (kr al) (Kd.A3j ho0) hb); replace aa := kB aa hb; replace ad := kB ad hb; replace HB := kH HB hb; (try clear hb); (try clear hk); (try clear ho0); obtain ⟨aQ, aR, aS⟩ := Kd.A12 aC.out
   (first | subst aS | (injection aS with f1_ f2_ f3_; have f4_ := f1_.symm; have f5_ := f3_.symm; clear f1_ f2_ f3_; subst f4_; subst f5_))
   refine hK.out _ _ kz (fun hHeld => ?_); clear hK K; refine nm (some 22) (h := ?_)
   refine one_ (i := 6) (N := none) (bl 7 127) rfl rfl (by kernel_rfl) (by decide) (fun K hK => ?_); have bD := (kc2 aa).1; have b2 := A0b aa.out 0; have bh := ai.out; have bi := ah.out; have bE := (kc2 aa).2; have b3 := A0b aa.out 1; refine A29 (w1 := ?_) (by rfl) rfl ?_ ?_
   rotate_left
   ·go_simp
    rfl
   refine hK.out _ _ (ks hHeld) (fun hHeld => ?_); clear hK K; refine A26 (by kernel_rfl) ?_
   try go_wp2
   refine bodyPost_ret (results_cell_row rfl _ _ aj 56 #[.slice aQ aE.length aR, .int .i64 aF] (0, 0) _ rfl (kb aa) Tryd.underlying56 rfl (by kernel_rfl)) rfl ?_
   exact ⟨_, by first | rfl | (simp [A0o, A0p] <;> rfl) | (simp only [← ar]; first | rfl | (simp [A0o, A0p] <;> rfl)) | (simp [*, A0o, A0p] <;> rfl), by (with_reducible repeat (first | apply Kd.A1g | apply Kd.A1h | apply Kd.A1e)); exact Kd.A1n (Kd.A01 (p := ⟨aj, 1, none⟩) (Kd.A01 (p := ⟨aj, 0, none⟩) (Kd.A1r aC.out aa.out (by decide)) (fun _ hk => hk.2) (.slice aQ aE.length aR)) (fun _ hk => hk.2) (.int .i64 aF)) (fun _ hk => trivial), (kl HB)⟩
  ·rw [if_neg c6] at H; have bq := decide_eq_false c6; clear c6; replace H := bkH H; obtain ⟨a3, bF, H⟩ := H; replace H := bkH H; obtain ⟨⟨aG, aH⟩, bG, H⟩ := H; (try dsimp only at H); simp only [Option.some.injEq, Prod.mk.injEq] at H; obtain ⟨rfl, rfl⟩ := H
   go_enter Tryd.func35, Tryd.ntmps35
   try go_wp2_with (first | ((with_reducible refine A0u (N := 2) rfl ?_); refine bxe 2 #[.slice none 0 0, .int .i64 0] 56 (h := ?_); intro aj hg aT hbox hb; have aa := ak (hbox); have aM := kG hg HB; have a7 := kG hg HB; replace HB := kH HB hb; clear hb hbox hg) | ((with_reducible refine A0i (f := 48) rfl ?_); refine A09 (some 6) rfl rfl Tryd.func48 (by kernel_rfl) rfl #[.int .i64 a0] rfl km ?_; (with_reducible refine (A1v.calls k a0 af _ A2.out).mono ?_); rintro e w' ⟨rfl, ⟨nd, rfl⟩⟩; refine ⟨_, rfl, ?_⟩; (try (rw [drewN_self aT]; generalize hq_ : World.drewN aT _ = aT; have a8 : A0e (aT.heap[aj]? = some (.cells #[.slice none 0 0, .int .i64 0] 56 (0, 0))) := ⟨by rw [← hq_]; exact (kb aa)⟩; have a9 : A0e (Below w.heap.size w aT) := ⟨by rw [← hq_]; exact (kl HB)⟩; clear aa HB hq_; have aa := a8; have HB := a9; clear a8 a9))) | ((with_reducible refine A0i (f := 34) rfl ?_); refine A09 (some 12) rfl rfl Tryd.func34 (by kernel_rfl) rfl #[.agg #[.slice none 0 0, .int .i64 0], .int .u64 (IntKind.u64.wrap ((aB) - 1)), .int .i64 af] rfl (by (try simp only [List.map_toArray, List.map_cons, List.map_nil]); first | done | (simp only [ar]; rfl) | rfl | (simp only [List.length_drop, List.length_take]; rfl)) ?_; (refine (A0z.calls k _ _ ([] : List Int) 0 (IntKind.u64.wrap ((aB) - 1)) af ag an _ ?ao ?ap A5.out).mono ?_); (case ao => exact Kd.C_nil _ _); (case ap => exact Nat.le_refl _); rintro e bP ⟨br, rfl, ho0, hb⟩; refine ⟨_, rfl, ?_⟩; have ac := ak (Kd.A17 ho0 (A02 (kl HB))); replace aa := kB aa hb; replace HB := kH HB hb; (try clear hb); (try clear ho0)) | ((with_reducible refine A0u (N := 4) rfl ?_); refine bxe 4 #[.slice none 0 0, .int .i64 0] 56 (h := ?_); intro ae hg bH hbox hb; replace ac := ak (Kd.A2o (kr ac) hb); have ad := ak (hbox); have aN := kG hg HB; have aA := kG hg HB; replace HB := kH HB hb; obtain ⟨ah, ai⟩ := kN hg aa; replace aa := kB aa hb; clear hb hbox hg; obtain ⟨a5, a6, bu⟩ := Kd.A12 ac.out; subst bu; have b4 := ai.out; have b5 := ah.out; obtain ⟨bj, bk⟩ := kc2 ad; obtain ⟨bm, bn⟩ := kf2 ad))
   generalize hw_ : ((bH.setCell ⟨ae, 0, none⟩ (.slice a5 ag.length a6)).setCell ⟨ae, 1, none⟩ (.int .i64 an)) = aU; have a8 : A0e (Kd.R (Kd.int .u8) 5 aU w.heap.size (fun _ => True) (.slice a5 ag.length a6) ag) := ⟨by rw [← hw_]; (with_reducible repeat (first | apply Kd.A1g | apply Kd.A1h | apply Kd.A1e)); exact Kd.A1n (Kd.A01 (p := ⟨ae, 1, none⟩) (Kd.A01 (p := ⟨ae, 0, none⟩) (Kd.A1r ac.out ad.out (by decide)) (fun _ hk => hk.2) (.slice a5 ag.length a6)) (fun _ hk => hk.2) (.int .i64 an)) (fun _ hk => trivial)⟩; have a9 : A0e (aU.heap[aj]? = some (.cells #[.slice none 0 0, .int .i64 0] 56 (0, 0))) := ⟨by rw [← hw_]; exact kb aa⟩; have aO : A0e (aU.heap[ae]? = some (.cells #[.slice a5 ag.length a6, .int .i64 an] 56 (0, 0))) := ⟨by rw [← hw_]; exact kb ad⟩; have aP : A0e (Below w.heap.size w aU) := ⟨by rw [← hw_]; repeat (first | (with_reducible first | exact HB.out | apply A0m | apply A0h | apply A0g | refine A0d ?_ a7.out | refine A0d ?_ aA.out) | exact HB.out)⟩; (try clear ac); (try clear aa); (try clear ad); (try clear HB); clear hw_; have ac := a8; have aa := a9; have ad := aO; have HB := aP; clear a8 a9 aO aP; replace ac := ak (Kd.A1e ac.out); replace aa := ak (A0l aa.out); replace ad := ak (A0l ad.out); replace HB := ak (A0g HB.out); refine A2h (n := 7) (S := fun w' => w'.cell? ⟨ae, 0, none⟩ = some (.slice a5 ag.length a6) ∧ w'.cell? ⟨ae, 1, none⟩ = some (.int .i64 an)) (ds := []) (bl 7 0) (by kernel_rfl) rfl rfl kz (fun hHeld => ?_); generalize aU.drew = bQ at ac aa ad HB hHeld ⊢; refine pu 1 (some 18) (bl 7 2) (h := ?_); refine pu 2 (some 19) (bl 7 6) (h := ?_); refine pu 3 (some 20) (bl 7 14) (h := ?_); refine ta 0 (some 17) (bl 7 15) (h := ?_); refine one_ (i := 4) (N := some 21) (bl 7 31) rfl rfl (by kernel_rfl) (by decide) (fun K hK => ?_); refine goes_ Tryd.func49 (by kernel_rfl) rfl #[.int .i64 af] (by rfl) rfl rfl km ?_
   with_reducible refine (A3d.calls af a3 _ bF.out).mono ?_
   rintro e w' ⟨rfl, ⟨nd, rfl⟩⟩; refine ⟨_, rfl, ?_⟩; refine hK.out _ _ kz (fun hHeld => ?_); clear hK K; refine nm (some 21) (h := ?_)
   refine one_ (i := 5) (N := some 22) (bl 7 63) rfl rfl (by kernel_rfl) (by decide) (fun K hK => ?_); refine goes_ Tryd.func34 (by kernel_rfl) rfl #[.agg #[.slice a5 ag.length a6, .int .i64 an], .int .u64 (IntKind.u64.wrap (a0)), .int .i64 a3] (by rfl) rfl rfl km ?_
   with_reducible refine (A0z.calls k _ _ ag an (IntKind.u64.wrap (a0)) a3 aG aH _ ?ao ?ap bG.out).mono ?_
   (case ao => repeat (first | exact (Kd.A1i ac.out).2.2 | (with_reducible refine Kd.A1u ?_ _) | (with_reducible refine Kd.A1s ?_ _) | (with_reducible refine Kd.A19 ?_)))
   (case ap => exact (Kd.A1i ac.out).2.1)
   rintro e bR ⟨bI, rfl, ho0, hb⟩; refine ⟨_, rfl, ?_⟩; have aD := ak (Kd.A17 (Kd.A3l ho0 (Kd.R_lt (kr ac))) (A02 (kl HB))); replace ac := ak (Kd.A2q (kr ac) (Kd.A3j ho0) hb); replace aa := kB aa hb; replace ad := kB ad hb; replace HB := kH HB hb; (try clear hb); (try clear hk); (try clear ho0); obtain ⟨aV, aW, aX⟩ := Kd.A12 aD.out
   (first | subst aX | (injection aX with f1_ f2_ f3_; have f4_ := f1_.symm; have f5_ := f3_.symm; clear f1_ f2_ f3_; subst f4_; subst f5_))
   refine hK.out _ _ kz (fun hHeld => ?_); clear hK K; refine nm (some 22) (h := ?_)
   refine one_ (i := 6) (N := none) (bl 7 127) rfl rfl (by kernel_rfl) (by decide) (fun K hK => ?_); have bJ := (kc2 aa).1; have b6 := A0b aa.out 0; have bo := ai.out; have bp := ah.out; have bK := (kc2 aa).2; have b7 := A0b aa.out 1; refine A29 (w1 := ?_) (by rfl) rfl ?_ ?_
   rotate_left
   ·go_simp
    rfl
   refine hK.out _ _ (ks hHeld) (fun hHeld => ?_); clear hK K; refine A26 (by kernel_rfl) ?_
   try go_wp2
   refine bodyPost_ret (results_cell_row rfl _ _ aj 56 #[.slice aV aG.length aW, .int .i64 aH] (0, 0) _ rfl (kb aa) Tryd.underlying56 rfl (by kernel_rfl)) rfl ?_
   exact ⟨_, by first | rfl | (simp [A0o, A0p] <;> rfl) | (simp only [← ar]; first | rfl | (simp [A0o, A0p] <;> rfl)) | (simp [*, A0o, A0p] <;> rfl), by (with_reducible repeat (first | apply Kd.A1g | apply Kd.A1h | apply Kd.A1e)); exact Kd.A1n (Kd.A01 (p := ⟨aj, 1, none⟩) (Kd.A01 (p := ⟨aj, 0, none⟩) (Kd.A1r aD.out aa.out (by decide)) (fun _ hk => hk.2) (.slice aV aG.length aW)) (fun _ hk => hk.2) (.int .i64 aH)) (fun _ hk => trivial), (kl HB)⟩
 ·rw [if_neg c3] at H
  exact absurd H (by simp)
def tab_row.f (a0 : Int) : Option (Int × Int) := if a0 < 128 then (some (1, 0)) else (if a0 < 192 then (some (2, 7)) else (if a0 < 224 then (some (3, 9)) else (if a0 < 240 then (some (4, 12)) else (some (4, 64)))))
set_option maxHeartbeats 8000000 in
set_option maxRecDepth 100000 in
theorem tab_row.calls (a0 : Int) (r1 : Int) (r2 : Int) (w : World) (h : tab_row.f a0 = some (r1, r2)) :
  Calls Tryd.prog 58 #[.int .u64 a0] w fun e w' => e = .returned (.agg #[.int .i64 r1, .int .i64 r2]) ∧ Below w.heap.size w w' := by
 have hu114 := Tryd.underlying114; have HB := ak (Below.refl w.heap.size w); have H : (if a0 < 128 then (some (1, 0)) else (if a0 < 192 then (some (2, 7)) else (if a0 < 224 then (some (3, 9)) else (if a0 < 240 then (some (4, 12)) else (some (4, 64)))))) = some (r1, r2) := h; clear h
 by_cases c2 : a0 < 128
 ·rw [if_pos c2] at H; have aw := decide_eq_true c2; clear c2; simp only [Option.some.injEq, Prod.mk.injEq] at H; obtain ⟨rfl, rfl⟩ := H
  go_enter Tryd.func58, Tryd.ntmps58
  go_wp2_with (first | ((with_reducible refine A0u (N := 2) rfl ?_); refine bxe 2 #[.int .i64 0, .int .i64 0] 114 (h := ?_); intro ac hg w3 hbox hb; have aa := ak (hbox); have ad := kG hg HB; have ae := kG hg HB; replace HB := kH HB hb; clear hb hbox hg; obtain ⟨ax, ay⟩ := kc2 aa; obtain ⟨az, a1⟩ := kf2 aa))
  refine bodyPost_ret (results_cell_row rfl _ _ ac 114 #[.int .i64 1, .int .i64 0] (0, 0) _ rfl (kb aa) Tryd.underlying114 rfl (by kernel_rfl)) rfl ?_
  exact ⟨kF, (kl HB)⟩
 ·rw [if_neg c2] at H; have aw := decide_eq_false c2; clear c2
  by_cases c5 : a0 < 192
  ·rw [if_pos c5] at H; have a2 := decide_eq_true c5; clear c5; simp only [Option.some.injEq, Prod.mk.injEq] at H; obtain ⟨rfl, rfl⟩ := H
   go_enter Tryd.func58, Tryd.ntmps58
   go_wp2_with (first | ((with_reducible refine A0u (N := 2) rfl ?_); refine bxe 2 #[.int .i64 0, .int .i64 0] 114 (h := ?_); intro ac hg w6 hbox hb; have aa := ak (hbox); have ad := kG hg HB; have ae := kG hg HB; replace HB := kH HB hb; clear hb hbox hg; obtain ⟨a3, a4⟩ := kc2 aa; obtain ⟨a5, a6⟩ := kf2 aa))
   refine bodyPost_ret (results_cell_row rfl _ _ ac 114 #[.int .i64 2, .int .i64 7] (0, 0) _ rfl (kb aa) Tryd.underlying114 rfl (by kernel_rfl)) rfl ?_
   exact ⟨kF, (kl HB)⟩
  ·rw [if_neg c5] at H; have a2 := decide_eq_false c5; clear c5
   by_cases c8 : a0 < 224
   ·rw [if_pos c8] at H; have a7 := decide_eq_true c8; clear c8; simp only [Option.some.injEq, Prod.mk.injEq] at H; obtain ⟨rfl, rfl⟩ := H
    go_enter Tryd.func58, Tryd.ntmps58
    go_wp2_with (first | ((with_reducible refine A0u (N := 2) rfl ?_); refine bxe 2 #[.int .i64 0, .int .i64 0] 114 (h := ?_); intro ac hg w9 hbox hb; have aa := ak (hbox); have ad := kG hg HB; have ae := kG hg HB; replace HB := kH HB hb; clear hb hbox hg; obtain ⟨ah, ai⟩ := kc2 aa; obtain ⟨aj, al⟩ := kf2 aa))
    refine bodyPost_ret (results_cell_row rfl _ _ ac 114 #[.int .i64 3, .int .i64 9] (0, 0) _ rfl (kb aa) Tryd.underlying114 rfl (by kernel_rfl)) rfl ?_
    exact ⟨kF, (kl HB)⟩
   ·rw [if_neg c8] at H; have a7 := decide_eq_false c8; clear c8
    by_cases af : a0 < 240
    ·rw [if_pos af] at H; have ag := decide_eq_true af; clear af; simp only [Option.some.injEq, Prod.mk.injEq] at H; obtain ⟨rfl, rfl⟩ := H
     go_enter Tryd.func58, Tryd.ntmps58
     go_wp2_with (first | ((with_reducible refine A0u (N := 2) rfl ?_); refine bxe 2 #[.int .i64 0, .int .i64 0] 114 (h := ?_); intro ac hg a8 hbox hb; have aa := ak (hbox); have ad := kG hg HB; have ae := kG hg HB; replace HB := kH HB hb; clear hb hbox hg; obtain ⟨am, an⟩ := kc2 aa; obtain ⟨ao, ap⟩ := kf2 aa))
     refine bodyPost_ret (results_cell_row rfl _ _ ac 114 #[.int .i64 4, .int .i64 12] (0, 0) _ rfl (kb aa) Tryd.underlying114 rfl (by kernel_rfl)) rfl ?_
     exact ⟨kF, (kl HB)⟩
    ·rw [if_neg af] at H; have ag := decide_eq_false af; clear af; simp only [Option.some.injEq, Prod.mk.injEq] at H; obtain ⟨rfl, rfl⟩ := H
     go_enter Tryd.func58, Tryd.ntmps58
     go_wp2_with (first | ((with_reducible refine A0u (N := 2) rfl ?_); refine bxe 2 #[.int .i64 0, .int .i64 0] 114 (h := ?_); intro ac hg a9 hbox hb; have aa := ak (hbox); have ad := kG hg HB; have ae := kG hg HB; replace HB := kH HB hb; clear hb hbox hg; obtain ⟨aq, ar⟩ := kc2 aa; obtain ⟨au, av⟩ := kf2 aa))
     refine bodyPost_ret (results_cell_row rfl _ _ ac 114 #[.int .i64 4, .int .i64 64] (0, 0) _ rfl (kb aa) Tryd.underlying114 rfl (by kernel_rfl)) rfl ?_
     exact ⟨kF, (kl HB)⟩
end Go.Proofs.YtiahbcaoikoogabDoor.All
end
