-- copied by a program of the session
import Derived.Test.YtiahbcaoikoogabDoorKnAllx14
import Derived.Test.YtiahbcaoikoogabDoorKnAllx29
namespace Go.Proofs.YtiahbcaoikoogabDoor.All
open Go.RowKit Go.Proofs.YtiahbcaoikoogabDoorW.PrintWords Go.Proofs.YtiahbcaoikoogabDoorW.PrintLast Go.Proofs.YtiahbcaoikoogabDoorW.PrintMore
attribute [local go_sem] A2m A2n A25 A26 A2b A2c A2o A2p
set_option linter.unusedVariables false
set_option linter.unusedSimpArgs false
def A2u.f (k : Nat)  : Option (Bool) := (A0u.f k 1 ([] : List Int) 1).bind fun aa => ((A0u.f k 2 (([0, 0, 0, 0, 0, 0, 0, 1, 0, 0, 0, 0, 0, 0, 0, 9] : List Int)) 1).bind fun ac => (if (aa.1.length : Int) = 0 then ((A1j.f aa.2).bind fun ad => (if ad = 2 then (if ac.2.isNone = true then ((A0w.f k ac.1 (([(⟨1, 9⟩ : S48)] : List (S48)))).bind fun ae => (some (ae == 1))) else (none)) else (none))) else (none)))
theorem A2u.mono : ∀ k, LeO (A2u.f k ) (A2u.f (k + 1) ) := by
 intro  k
 unfold A2u.f
 repeat' first
   | (with_reducible exact A0w.mono _ _ _)
   | (with_reducible exact A0u.mono _ _ _ _)
   | (with_reducible exact LeO.refl _)
   | (with_reducible exact LeO.none _)
   | (with_reducible refine LeO.ite ?_ ?_)
   | (with_reducible refine LeO.bind ?_ (fun _ => ?_))
   | exact A0w.mono _ _ _
   | exact A0u.mono _ _ _ _
   | exact LeO.none _
   | refine LeO.ite ?_ ?_
   | refine LeO.bind ?_ (fun _ => ?_)
set_option maxHeartbeats 8000000 in
set_option maxRecDepth 100000 in
theorem A2u.calls (k : Nat)  (r : Bool) (w : World) (hT : A3l w) (h : A2u.f k  = some r) :
  Calls Tryd.prog 13 #[] w fun e w' => e = .returned (.bool r) ∧ Below w.heap.size w w' := by
 have hu48 := Tryd.underlying48; have hu27 := Tryd.underlying27; have hu54 := Tryd.underlying54; have HT := ak hT; clear hT; have HB := ak (Below.refl w.heap.size w); have H : ((A0u.f k 1 ([] : List Int) 1).bind fun ap => ((A0u.f k 2 (([0, 0, 0, 0, 0, 0, 0, 1, 0, 0, 0, 0, 0, 0, 0, 9] : List Int)) 1).bind fun af => (if (ap.1.length : Int) = 0 then ((A1j.f ap.2).bind fun am => (if am = 2 then (if af.2.isNone = true then ((A0w.f k af.1 (([(⟨1, 9⟩ : S48)] : List (S48)))).bind fun ae => (some (ae == 1))) else (none)) else (none))) else (none)))) = some r := h; clear h; replace H := bkH H; obtain ⟨⟨au, av⟩, A1, H⟩ := H; (try dsimp only at H); obtain ⟨aw, ag⟩ : ∃ y_ : List Int, y_ = (([0, 0, 0, 0, 0, 0, 0, 1, 0, 0, 0, 0, 0, 0, 0, 9] : List Int)) := ⟨_, rfl⟩
 replace H : ((A0u.f k 2 aw 1).bind fun af => (if (au.length : Int) = 0 then ((A1j.f av).bind fun am => (if am = 2 then (if af.2.isNone = true then ((A0w.f k af.1 (([(⟨1, 9⟩ : S48)] : List (S48)))).bind fun ae => (some (ae == 1))) else (none)) else (none))) else (none))) = some r := by first | (rw [ag]; with_reducible exact H) | (have H2_ := (Option.bind_some _ _).symm.trans H; rw [ag]; with_reducible exact H2_) | (have H2_ := (Option.bind_some _ _).symm.trans H; with_reducible exact H2_) | with_reducible exact H | (rw [ag]; exact H) | exact H
 have aq := ak ag; clear ag; replace H := bkH H; obtain ⟨⟨ao, az⟩, A2, H⟩ := H; (try dsimp only at H)
 by_cases c3 : (au.length : Int) = 0
 ·rw [if_pos c3] at H; obtain ⟨a8, a9⟩ := kqT c3; clear c3; replace H := bkH H; obtain ⟨am, A4, H⟩ := H
  by_cases c5 : am = 2
  ·rw [if_pos c5] at H; obtain ⟨aA, aB⟩ := kqT c5; clear c5
   rcases az with _ | a1
   ·have H1 : ((A0w.f k ao (([(⟨1, 9⟩ : S48)] : List (S48)))).bind fun ae => (some (ae == 1))) = some r := by rw [if_pos (show (none : Option Int).isNone = true by rfl)] at H; exact H
    clear H; have H := H1; clear H1
    try simp only [A0l, A0m]
    obtain ⟨ax, ah⟩ : ∃ y_ : List (S48), y_ = (([(⟨1, 9⟩ : S48)] : List (S48))) := ⟨_, rfl⟩
    replace H : ((A0w.f k ao ax).bind fun ae => (some (ae == 1))) = some r := by first | (rw [ah]; with_reducible exact H) | (have H2_ := (Option.bind_some _ _).symm.trans H; rw [ah]; with_reducible exact H2_) | (have H2_ := (Option.bind_some _ _).symm.trans H; with_reducible exact H2_) | with_reducible exact H | (rw [ah]; exact H) | exact H
    have ar := ak ah; clear ah; replace H := bkH H; obtain ⟨ae, A6, H⟩ := H; obtain rfl := Option.some.inj H
    go_enter Tryd.func13, Tryd.ntmps13
    go_wp2_with (first | ((with_reducible refine A0f (f := 14) rfl ?_); refine A03 (some 6) rfl rfl Tryd.func14 (by kernel_rfl) rfl #[.int .i64 1, .slice none 0 0, .int .i64 1] rfl km ?_; (refine (A0u.calls k 1 _ _ ([] : List Int) 1 au av _ ?ai ?aj ?al A1.out).mono ?_); (case ai => exact A3l.below HT.out (kl HB) (Nat.le_refl _)); (case aj => exact Kd.C_nil _ _); (case al => exact Nat.le_refl _); rintro e w7 ⟨aC, rfl, ho0, hb⟩; refine ⟨_, rfl, ?_⟩; have aa := ak (Kd.A14 ho0 (A0y (kl HB))); replace HB := kH HB hb; (try clear hb); (try clear ho0); (try simp only [A0l, A0m])) | ((with_reducible refine A0p (N := 10) rfl ?_); (try (refine A2f (by rfl) ?_; dsimp only)); refine Kd.R_lit (Kd.int .u8) _ 5 ?hg (N := 10) ?hd (xs := ([0, 0, 0, 0, 0, 0, 0, 1, 0, 0, 0, 0, 0, 0, 0, 9] : List Int)) (inner := [.int .u8 0, .int .u8 0, .int .u8 0, .int .u8 0, .int .u8 0, .int .u8 0, .int .u8 0, .int .u8 1, .int .u8 0, .int .u8 0, .int .u8 0, .int .u8 0, .int .u8 0, .int .u8 0, .int .u8 0, .int .u8 9]) (ok := fun _ => True) (okp := fun _ => True) ?hr ?hp (fun _ hk => hk) trivial (Below.refl _ _) (Nat.le_refl _) (by simp) ?_; (case hd => rfl); (case hg => rfl); (case hr => first | (go_simp; done) | (go_simp; rfl)); (case hp => exact (Reps.one (show Kd.M (Kd.int .u8) _ _ _ 0 [.int .u8 0] from rfl) (Reps.one (show Kd.M (Kd.int .u8) _ _ _ 0 [.int .u8 0] from rfl) (Reps.one (show Kd.M (Kd.int .u8) _ _ _ 0 [.int .u8 0] from rfl) (Reps.one (show Kd.M (Kd.int .u8) _ _ _ 0 [.int .u8 0] from rfl) (Reps.one (show Kd.M (Kd.int .u8) _ _ _ 0 [.int .u8 0] from rfl) (Reps.one (show Kd.M (Kd.int .u8) _ _ _ 0 [.int .u8 0] from rfl) (Reps.one (show Kd.M (Kd.int .u8) _ _ _ 0 [.int .u8 0] from rfl) (Reps.one (show Kd.M (Kd.int .u8) _ _ _ 1 [.int .u8 1] from rfl) (Reps.one (show Kd.M (Kd.int .u8) _ _ _ 0 [.int .u8 0] from rfl) (Reps.one (show Kd.M (Kd.int .u8) _ _ _ 0 [.int .u8 0] from rfl) (Reps.one (show Kd.M (Kd.int .u8) _ _ _ 0 [.int .u8 0] from rfl) (Reps.one (show Kd.M (Kd.int .u8) _ _ _ 0 [.int .u8 0] from rfl) (Reps.one (show Kd.M (Kd.int .u8) _ _ _ 0 [.int .u8 0] from rfl) (Reps.one (show Kd.M (Kd.int .u8) _ _ _ 0 [.int .u8 0] from rfl) (Reps.one (show Kd.M (Kd.int .u8) _ _ _ 0 [.int .u8 0] from rfl) (Reps.one (show Kd.M (Kd.int .u8) _ _ _ 9 [.int .u8 9] from rfl) (Reps.none _ _)))))))))))))))))); intro aD w8 ho9 hb hg_ hnew_; clear hg_ hnew_; (first | rw [← aq.out] at ho9 | (simp only [Int.reduceToNat] at ho9; rw [← aq.out] at ho9)); replace aa := ak (Kd.A1n (kr aa) hb); have ac := ak (Kd.A14 ho9 (A0y (kl HB))); replace HB := kH HB hb; clear hb ho9; obtain ⟨a2, a3, a4⟩ := Kd.A1t ac.out; subst a4) | ((with_reducible refine A0f (f := 14) rfl ?_); refine A03 (some 11) rfl rfl Tryd.func14 (by kernel_rfl) rfl #[.int .i64 2, .slice a2 aw.length a3, .int .i64 1] rfl km ?_; (with_reducible refine (A0u.calls k 2 _ _ aw 1 ao none _ ?ai ?aj ?al A2.out).mono ?_); (case ai => exact A3l.below HT.out (kl HB) (Nat.le_refl _)); (case aj => repeat (first | exact (Kd.A07 ac.out).2.2 | (with_reducible refine Kd.A1v ?_ _) | (with_reducible refine Kd.A1w ?_ _) | (with_reducible refine Kd.A2e ?_))); (case al => exact (Kd.A07 ac.out).2.1); rintro e aM ⟨aE, rfl, ho0, hb⟩; refine ⟨_, rfl, ?_⟩; replace ac := ak (Kd.A1n (kr ac) hb); have ad := ak (Kd.A14 (Kd.A2t ho0 (Kd.R_lt (kr aa))) (A0y (kl HB))); replace aa := ak (Kd.A1y (kr aa) (Kd.A2s ho0) hb); replace HB := kH HB hb; (try clear hb); (try clear hk); (try clear ho0); (try simp only [A0l, A0m]); obtain ⟨aF, aG, a5⟩ := Kd.A1t aa.out; subst a5; have CA4 := fun W => A1j.calls av am W A4.out; try simp only [A0l, A0m] at CA4) | (go_at_call 12; (with_reducible refine (CA4 _).mono ?_); rintro e w' ⟨rfl, ⟨nd, rfl⟩⟩) | ((with_reducible refine A0p (N := 29) rfl ?_); (try (refine A2f (by rfl) ?_; dsimp only)); refine Kd.R_lit k48 _ 48 ?hg (N := 29) ?hd (xs := ([(⟨1, 9⟩ : S48)] : List (S48))) (inner := [.int .i64 1, .int .u64 9]) (ok := fun _ => True) (okp := fun _ => True) ?hr ?hp (fun _ hk => hk) trivial (Below.refl _ _) (Nat.le_refl _) (by simp) ?_; (case hd => rfl); (case hg => rfl); (case hr => first | (go_simp; done) | (go_simp; rfl)); (case hp => exact (Reps.c2 (show Kd.M k48 _ _ _ (⟨1, 9⟩ : S48) [.int .i64 1, .int .u64 9] from (k48_mkM _ _ _ (⟨1, 9⟩ : S48) )) (Reps.none _ _))); intro aH aN ho14 hb hg_ hnew_; clear hg_ hnew_; (first | rw [← ar.out] at ho14 | (simp only [Int.reduceToNat] at ho14; rw [← ar.out] at ho14)); replace ac := ak (Kd.A1n (kr ac) hb); have an := ak (Kd.A14 (Kd.A2t (Kd.A2t ho14 (Kd.R_lt (kr aa))) (Kd.R_lt (kr ad))) (A0y (kl HB))); replace aa := ak (Kd.A1y (kr aa) (Kd.A2s ho14) hb); replace ad := ak (Kd.A1y (kr ad) (Kd.A2s ho14) hb); replace HB := kH HB hb; clear hb ho14; obtain ⟨aI, aJ, a6⟩ := Kd.A1t ad.out; subst a6; obtain ⟨aK, aL, a7⟩ := Kd.A1t an.out; subst a7) | (go_at_call 11; (with_reducible refine (A0w.calls k _ _ ao _ _ ax ae _ ?ai ?aj ?al ?ay A6.out).mono ?_); (case ai => repeat (first | exact (Kd.A07 ad.out).2.2 | (with_reducible refine Kd.A1v ?_ _) | (with_reducible refine Kd.A1w ?_ _) | (with_reducible refine Kd.A2e ?_))); (case aj => exact (Kd.A07 ad.out).2.1); (case al => repeat (first | exact (Kd.A07 an.out).2.2 | (with_reducible refine Kd.A1v ?_ _) | (with_reducible refine Kd.A1w ?_ _) | (with_reducible refine Kd.A2e ?_))); (case ay => exact (Kd.A07 an.out).2.1); rintro e w' ⟨rfl, ⟨nd, rfl⟩⟩))
    go_ret
    exact ⟨kF, (kl HB)⟩
   ·have H1 : (none) = some r := by rw [if_neg (show ¬ (some a1).isNone = true by simp)] at H; exact H
    clear H; have H := H1; clear H1
    try simp only [A0l, A0m]
    exact absurd H (by simp)
  ·rw [if_neg c5] at H
   exact absurd H (by simp)
 ·rw [if_neg c3] at H
  exact absurd H (by simp)
end Go.Proofs.YtiahbcaoikoogabDoor.All
