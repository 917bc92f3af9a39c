-- copied by a program of the session
import Derived.Test.YtiahbcaoikoogabDoorKqAllx29
section
namespace Go.Proofs.YtiahbcaoikoogabDoor.All
open Go.RowKit Go.Proofs.YtiahbcaoikoogabDoorW.PrintWords Go.Proofs.YtiahbcaoikoogabDoorW.PrintLast Go.Proofs.YtiahbcaoikoogabDoorW.PrintMore
attribute [local go_sem] A2i A2j A2v A2w A14 A15 A2k A2l
set_option linter.unusedVariables false
set_option linter.unusedSimpArgs false
def A2t.f (k : Nat)  : Option (Bool) := (A0x.f k 1 ([] : List Int) 1).bind fun aa => ((A0x.f k 2 (([0, 0, 0, 0, 0, 0, 0, 1, 0, 0, 0, 0, 0, 0, 0, 9] : List Int)) 1).bind fun ac => (if (aa.1.length : Int) = 0 then ((A2d.f aa.2).bind fun ad => (if ad = 2 then (if ac.2.isNone = true then ((A04.f k ac.1 (([(⟨1, 9⟩ : S48)] : List (S48)))).bind fun ae => (some (ae == 1))) else (none)) else (none))) else (none)))
theorem A2t.mono : ∀ k, LeO (A2t.f k ) (A2t.f (k + 1) ) := by
 intro  k
 unfold A2t.f
 repeat' first
   | (with_reducible exact A04.mono _ _ _)
   | (with_reducible exact A0x.mono _ _ _ _)
   | (with_reducible exact LeO.refl _)
   | (with_reducible exact LeO.none _)
   | (with_reducible refine LeO.ite ?_ ?_)
   | (with_reducible refine LeO.bind ?_ (fun _ => ?_))
   | exact A04.mono _ _ _
   | exact A0x.mono _ _ _ _
   | exact LeO.none _
   | refine LeO.ite ?_ ?_
   | refine LeO.bind ?_ (fun _ => ?_)
set_option maxHeartbeats 8000000 in
set_option maxRecDepth 100000 in
theorem A2t.calls (k : Nat)  (r : Bool) (w : World) (hT : TabOk w) (h : A2t.f k  = some r) :
  Calls Tryd.prog 13 #[] w fun e w' => e = .returned (.bool r) ∧ Below w.heap.size w w' := by
 have hu48 := Tryd.underlying48; have hu27 := Tryd.underlying27; have hu54 := Tryd.underlying54; have HT := ak hT; clear hT; have HB := ak (Below.refl w.heap.size w); have H : ((A0x.f k 1 ([] : List Int) 1).bind fun ap => ((A0x.f k 2 (([0, 0, 0, 0, 0, 0, 0, 1, 0, 0, 0, 0, 0, 0, 0, 9] : List Int)) 1).bind fun af => (if (ap.1.length : Int) = 0 then ((A2d.f ap.2).bind fun am => (if am = 2 then (if af.2.isNone = true then ((A04.f k af.1 (([(⟨1, 9⟩ : S48)] : List (S48)))).bind fun ae => (some (ae == 1))) else (none)) else (none))) else (none)))) = some r := h; clear h; replace H := bkH H; obtain ⟨⟨au, av⟩, A1, H⟩ := H; (try dsimp only at H); obtain ⟨aw, ag⟩ : ∃ y_ : List Int, y_ = (([0, 0, 0, 0, 0, 0, 0, 1, 0, 0, 0, 0, 0, 0, 0, 9] : List Int)) := ⟨_, rfl⟩
 replace H : ((A0x.f k 2 aw 1).bind fun af => (if (au.length : Int) = 0 then ((A2d.f av).bind fun am => (if am = 2 then (if af.2.isNone = true then ((A04.f k af.1 (([(⟨1, 9⟩ : S48)] : List (S48)))).bind fun ae => (some (ae == 1))) else (none)) else (none))) else (none))) = some r := by first | (rw [ag]; with_reducible exact H) | (have H2_ := (Option.bind_some _ _).symm.trans H; rw [ag]; with_reducible exact H2_) | (have H2_ := (Option.bind_some _ _).symm.trans H; with_reducible exact H2_) | with_reducible exact H | (rw [ag]; exact H) | exact H
 have aq := ak ag; clear ag; replace H := bkH H; obtain ⟨⟨ao, az⟩, A2, H⟩ := H; (try dsimp only at H)
 by_cases c3 : (au.length : Int) = 0
 ·rw [if_pos c3] at H; obtain ⟨a8, a9⟩ := kqT c3; clear c3; replace H := bkH H; obtain ⟨am, A4, H⟩ := H
  by_cases c5 : am = 2
  ·rw [if_pos c5] at H; obtain ⟨aA, aB⟩ := kqT c5; clear c5
   rcases az with _ | a1
   ·have H1 : ((A04.f k ao (([(⟨1, 9⟩ : S48)] : List (S48)))).bind fun ae => (some (ae == 1))) = some r := by rw [if_pos (show (none : Option Int).isNone = true by rfl)] at H; exact H
    clear H; have H := H1; clear H1
    try simp only [A0o, A0p]
    obtain ⟨ax, ah⟩ : ∃ y_ : List (S48), y_ = (([(⟨1, 9⟩ : S48)] : List (S48))) := ⟨_, rfl⟩
    replace H : ((A04.f k ao ax).bind fun ae => (some (ae == 1))) = some r := by first | (rw [ah]; with_reducible exact H) | (have H2_ := (Option.bind_some _ _).symm.trans H; rw [ah]; with_reducible exact H2_) | (have H2_ := (Option.bind_some _ _).symm.trans H; with_reducible exact H2_) | with_reducible exact H | (rw [ah]; exact H) | exact H
    have ar := ak ah; clear ah; replace H := bkH H; obtain ⟨ae, A6, H⟩ := H; obtain rfl := Option.some.inj H
    go_enter Tryd.func13, Tryd.ntmps13
    go_wp2_with (first | ((with_reducible refine A0i (f := 14) rfl ?_); refine A09 (some 6) rfl rfl Tryd.func14 (by kernel_rfl) rfl #[.int .i64 1, .slice none 0 0, .int .i64 1] rfl km ?_; (refine (A0x.calls k 1 _ _ ([] : List Int) 1 au av _ ?ai ?aj ?al A1.out).mono ?_); (case ai => exact TabOk.below HT.out (kl HB) (Nat.le_refl _)); (case aj => exact Kd.C_nil _ _); (case al => exact Nat.le_refl _); rintro e w7 ⟨aC, rfl, ho0, hb⟩; refine ⟨_, rfl, ?_⟩; have aa := ak (Kd.A17 ho0 (A02 (kl HB))); replace HB := kH HB hb; (try clear hb); (try clear ho0); (try simp only [A0o, A0p])) | ((with_reducible refine A0u (N := 10) rfl ?_); (try (refine gate_guard (by rfl) ?_; dsimp only)); refine Kd.R_lit (Kd.int .u8) _ 5 ?hg (N := 10) ?hd (xs := ([0, 0, 0, 0, 0, 0, 0, 1, 0, 0, 0, 0, 0, 0, 0, 9] : List Int)) (inner := [.int .u8 0, .int .u8 0, .int .u8 0, .int .u8 0, .int .u8 0, .int .u8 0, .int .u8 0, .int .u8 1, .int .u8 0, .int .u8 0, .int .u8 0, .int .u8 0, .int .u8 0, .int .u8 0, .int .u8 0, .int .u8 9]) (ok := fun _ => True) (okp := fun _ => True) ?hr ?hp (fun _ hk => hk) trivial (Below.refl _ _) (Nat.le_refl _) (by simp) ?_; (case hd => rfl); (case hg => rfl); (case hr => first | (go_simp; done) | (go_simp; rfl)); (case hp => exact (Reps.one (show Kd.M (Kd.int .u8) _ _ _ 0 [.int .u8 0] from rfl) (Reps.one (show Kd.M (Kd.int .u8) _ _ _ 0 [.int .u8 0] from rfl) (Reps.one (show Kd.M (Kd.int .u8) _ _ _ 0 [.int .u8 0] from rfl) (Reps.one (show Kd.M (Kd.int .u8) _ _ _ 0 [.int .u8 0] from rfl) (Reps.one (show Kd.M (Kd.int .u8) _ _ _ 0 [.int .u8 0] from rfl) (Reps.one (show Kd.M (Kd.int .u8) _ _ _ 0 [.int .u8 0] from rfl) (Reps.one (show Kd.M (Kd.int .u8) _ _ _ 0 [.int .u8 0] from rfl) (Reps.one (show Kd.M (Kd.int .u8) _ _ _ 1 [.int .u8 1] from rfl) (Reps.one (show Kd.M (Kd.int .u8) _ _ _ 0 [.int .u8 0] from rfl) (Reps.one (show Kd.M (Kd.int .u8) _ _ _ 0 [.int .u8 0] from rfl) (Reps.one (show Kd.M (Kd.int .u8) _ _ _ 0 [.int .u8 0] from rfl) (Reps.one (show Kd.M (Kd.int .u8) _ _ _ 0 [.int .u8 0] from rfl) (Reps.one (show Kd.M (Kd.int .u8) _ _ _ 0 [.int .u8 0] from rfl) (Reps.one (show Kd.M (Kd.int .u8) _ _ _ 0 [.int .u8 0] from rfl) (Reps.one (show Kd.M (Kd.int .u8) _ _ _ 0 [.int .u8 0] from rfl) (Reps.one (show Kd.M (Kd.int .u8) _ _ _ 9 [.int .u8 9] from rfl) (Reps.none _ _)))))))))))))))))); intro aD w8 ho9 hb hg_ hnew_; clear hg_ hnew_; (first | rw [← aq.out] at ho9 | (simp only [Int.reduceToNat] at ho9; rw [← aq.out] at ho9)); replace aa := ak (Kd.A2o (kr aa) hb); have ac := ak (Kd.A17 ho9 (A02 (kl HB))); replace HB := kH HB hb; clear hb ho9; obtain ⟨a2, a3, a4⟩ := Kd.A12 ac.out; subst a4) | ((with_reducible refine A0i (f := 14) rfl ?_); refine A09 (some 11) rfl rfl Tryd.func14 (by kernel_rfl) rfl #[.int .i64 2, .slice a2 aw.length a3, .int .i64 1] rfl km ?_; (with_reducible refine (A0x.calls k 2 _ _ aw 1 ao none _ ?ai ?aj ?al A2.out).mono ?_); (case ai => exact TabOk.below HT.out (kl HB) (Nat.le_refl _)); (case aj => repeat (first | exact (Kd.A1i ac.out).2.2 | (with_reducible refine Kd.A1u ?_ _) | (with_reducible refine Kd.A1s ?_ _) | (with_reducible refine Kd.A19 ?_))); (case al => exact (Kd.A1i ac.out).2.1); rintro e aM ⟨aE, rfl, ho0, hb⟩; refine ⟨_, rfl, ?_⟩; replace ac := ak (Kd.A2o (kr ac) hb); have ad := ak (Kd.A17 (Kd.A3l ho0 (Kd.R_lt (kr aa))) (A02 (kl HB))); replace aa := ak (Kd.A2q (kr aa) (Kd.A3j ho0) hb); replace HB := kH HB hb; (try clear hb); (try clear hk); (try clear ho0); (try simp only [A0o, A0p]); obtain ⟨aF, aG, a5⟩ := Kd.A12 aa.out; subst a5; have CA4 := fun W => A2d.calls av am W A4.out; try simp only [A0o, A0p] at CA4) | (go_at_call 12; (with_reducible refine (CA4 _).mono ?_); rintro e w' ⟨rfl, ⟨nd, rfl⟩⟩) | ((with_reducible refine A0u (N := 29) rfl ?_); (try (refine gate_guard (by rfl) ?_; dsimp only)); refine Kd.R_lit k48 _ 48 ?hg (N := 29) ?hd (xs := ([(⟨1, 9⟩ : S48)] : List (S48))) (inner := [.int .i64 1, .int .u64 9]) (ok := fun _ => True) (okp := fun _ => True) ?hr ?hp (fun _ hk => hk) trivial (Below.refl _ _) (Nat.le_refl _) (by simp) ?_; (case hd => rfl); (case hg => rfl); (case hr => first | (go_simp; done) | (go_simp; rfl)); (case hp => exact (Reps.c2 (show Kd.M k48 _ _ _ (⟨1, 9⟩ : S48) [.int .i64 1, .int .u64 9] from (k48_mkM _ _ _ (⟨1, 9⟩ : S48) )) (Reps.none _ _))); intro aH aN ho14 hb hg_ hnew_; clear hg_ hnew_; (first | rw [← ar.out] at ho14 | (simp only [Int.reduceToNat] at ho14; rw [← ar.out] at ho14)); replace ac := ak (Kd.A2o (kr ac) hb); have an := ak (Kd.A17 (Kd.A3l (Kd.A3l ho14 (Kd.R_lt (kr aa))) (Kd.R_lt (kr ad))) (A02 (kl HB))); replace aa := ak (Kd.A2q (kr aa) (Kd.A3j ho14) hb); replace ad := ak (Kd.A2q (kr ad) (Kd.A3j ho14) hb); replace HB := kH HB hb; clear hb ho14; obtain ⟨aI, aJ, a6⟩ := Kd.A12 ad.out; subst a6; obtain ⟨aK, aL, a7⟩ := Kd.A12 an.out; subst a7) | (go_at_call 11; (with_reducible refine (A04.calls k _ _ ao _ _ ax ae _ ?ai ?aj ?al ?ay A6.out).mono ?_); (case ai => repeat (first | exact (Kd.A1i ad.out).2.2 | (with_reducible refine Kd.A1u ?_ _) | (with_reducible refine Kd.A1s ?_ _) | (with_reducible refine Kd.A19 ?_))); (case aj => exact (Kd.A1i ad.out).2.1); (case al => repeat (first | exact (Kd.A1i an.out).2.2 | (with_reducible refine Kd.A1u ?_ _) | (with_reducible refine Kd.A1s ?_ _) | (with_reducible refine Kd.A19 ?_))); (case ay => exact (Kd.A1i an.out).2.1); rintro e w' ⟨rfl, ⟨nd, rfl⟩⟩))
    go_ret
    exact ⟨kF, (kl HB)⟩
   ·have H1 : (none) = some r := by rw [if_neg (show ¬ (some a1).isNone = true by simp)] at H; exact H
    clear H; have H := H1; clear H1
    try simp only [A0o, A0p]
    exact absurd H (by simp)
  ·rw [if_neg c5] at H
   exact absurd H (by simp)
 ·rw [if_neg c3] at H
  exact absurd H (by simp)
end Go.Proofs.YtiahbcaoikoogabDoor.All
end
section
namespace Go.Proofs.YtiahbcaoikoogabDoor.All
open Go.RowKit Go.Proofs.YtiahbcaoikoogabDoorW.PrintWords Go.Proofs.YtiahbcaoikoogabDoorW.PrintLast Go.Proofs.YtiahbcaoikoogabDoorW.PrintMore
attribute [local go_sem] A2i A2j A2v A2w A14 A15 A2k A2l
set_option linter.unusedVariables false
set_option linter.unusedSimpArgs false
mutual
def A1f.l0 : Nat → List Int → List Int → Int → Option (List Int)
 | 0, _, _, _ => none
 | k + 1, x0, x3, x4 => if x4 < (x0.length : Int) then (if 0 ≤ x4 then (A1f.l1 k x0 x3 x4 (rd x0 x4) 0) else (none)) else (some x3)
def A1f.l1 : Nat → List Int → List Int → Int → Int → Int → Option (List Int)
 | 0, _, _, _, _, _ => none
 | k + 1, x0, x3, x4, x5, x6 => if x6 < 8 then (if x3.length < 140737488355328 then (A1f.l1 k x0 (x3 ++ [(Int.tdiv x5 128) % 256]) x4 ((x5 * 2) % 256) (wrap64 (x6 + 1))) else (none)) else (A1f.l0 k x0 x3 (wrap64 (x4 + 1)))
end
def A1f.f (k : Nat) (l0 : List Int) : Option (List Int) := A1f.l0 k l0 ([] : List Int) 0
set_option maxHeartbeats 8000000 in
set_option maxRecDepth 100000 in
theorem A1f.calls (k : Nat) (A0 : Option Addr) (c0 : Nat) (l0 : List Int) (r : List Int) (w : World) (hr0 : Kd.C (Kd.int .u8) w A0 l0.length l0) (hc0 : l0.length ≤ c0) (h : A1f.f k l0 = some r) :
  Calls Tryd.prog 26 #[.slice A0 l0.length c0] w fun e w' => ∃ aw : Value, e = .returned (aw) ∧ Kd.R (Kd.int .u8) 5 w' w.heap.size (fun _ => True) aw r ∧ Below w.heap.size w w' := by
 have a1 := ak hr0; have a3 := ak hc0; clear hr0 hc0; have HB := ak (Below.refl w.heap.size w); have H : (A1f.l0 k l0 ([] : List Int) 0) = some r := h; clear h; have H' := ak H; clear H
 go_enter Tryd.func26, Tryd.ntmps26
 go_wp2
 go_loopg [3, 4] k (fun kq v3 v4 w' => ∃ (ai : List Int) (x4_1 : Int), v4 = .int .i64 x4_1 ∧ A0e (A1f.l0 kq l0 ai x4_1 = some r) ∧ A0e (kq ≤ k) ∧ A0e (Kd.R (Kd.int .u8) 5 w' w.heap.size (fun _ => True) v3 ai) ∧ A0e (Below w.heap.size w w'))
 case atStart => exact ⟨(([] : List Int)), (0), kE, H', ⟨Nat.le_refl _⟩, ⟨by first | exact Kd.R_nil _ _ _ _ _ | exact Kd.N_nil _ _ _ _ _ | exact Kd.V_nil _ _ _ _ _ | exact Kd.Q_nil _ _ _ _ _ | exact Kd.S_nil _ _ _ _ _⟩, ⟨(kl HB)⟩⟩
 case round =>
  clear H'; obtain ⟨ai, x4_1, rfl, HA, ap, HO_3, HB⟩ := hrel
  cases gk with
  | zero => exact absurd HA.out (by simp [A1f.l0])
  | succ k1 =>
   have H := HA.out; clear HA; simp only [A1f.l0] at H
   by_cases c2 : x4_1 < (l0.length : Int)
   ·rw [if_pos c2] at H; have al := decide_eq_true c2; clear c2
    by_cases c3 : 0 ≤ x4_1
    ·rw [if_pos c3] at H; have ar : decide (0 ≤ x4_1) = true := decide_eq_true c3; clear c3; have H' := ak H; clear H; have aj : 0 ≤ (x4_1 : Int) := kD; have ag : x4_1 < (l0.length : Int) := kD; obtain ⟨ax, au, aa⟩ := Kd.A37 a1.out x4_1 aj ag
     cases au
     replace aa := (HB.out.cell (World.block_lt_of_cell? w _ aa)).trans aa; replace aj := eq_true aj
     (try (have ah := ag; simp only [List.length_drop, List.length_take] at ah; replace ah := eq_true ah)); replace ag := eq_true ag
     go_wp2
     go_loopg [3, 5, 6] k1 (fun kq v3 v5 v6 w' => ∃ (ae : List Int) (ac : Int) (af : Int), v5 = .int .u8 ac ∧ v6 = .int .i64 af ∧ A0e (A1f.l1 kq l0 ae x4_1 ac af = some r) ∧ A0e (kq ≤ k1) ∧ A0e (Kd.R (Kd.int .u8) 5 w' w.heap.size (fun _ => True) v3 ae) ∧ A0e (Below w.heap.size w w'))
     case atStart => exact ⟨(ai), (rd l0 x4_1), (0), kE, kE, H', ⟨Nat.le_refl _⟩, ⟨kr HO_3⟩, ⟨(kl HB)⟩⟩
     case round =>
      clear H'; (try clear c2); (try clear al); (try clear c3); (try clear ar); (try clear aa); (try clear aj); (try clear ag); obtain ⟨ae, ac, af, rfl, rfl, HA, aq, HO_3, HB⟩ := hrel
      cases gk with
      | zero => exact absurd HA.out (by simp [A1f.l1])
      | succ k2 =>
       have H := HA.out; clear HA; simp only [A1f.l1] at H
       by_cases c4 : af < 8
       ·rw [if_pos c4] at H; have av := decide_eq_true c4; clear c4
        by_cases c5 : ae.length < 140737488355328
        ·rw [if_pos c5] at H; have LMc5 := ak c5; clear c5; obtain ⟨am, ad⟩ : ∃ y_ : List Int, y_ = (ae ++ [(Int.tdiv ac 128) % 256]) := ⟨_, rfl⟩
         replace H : (A1f.l1 k2 l0 am x4_1 ((ac * 2) % 256) (wrap64 (af + 1))) = some r := by first | (rw [ad]; with_reducible exact H) | (have H2_ := (Option.bind_some _ _).symm.trans H; rw [ad]; with_reducible exact H2_) | (have H2_ := (Option.bind_some _ _).symm.trans H; with_reducible exact H2_) | with_reducible exact H | (rw [ad]; exact H) | exact H
         have an := ak ad; clear ad; have H' := ak H; clear H
         go_wp2_with (first | ((with_reducible refine A2y (b := .append) (xs := #[.tmp 21, .tmp 24]) rfl ?_); at_builtin; refine Kd.R_append (Kd.int .u8) (w0 := w) w.heap.size rfl (.tmp 21) (.tmp 24) 23 5 (.int .u8 0) 1 rfl Tryd.underlying23 info5 rfl (by decide) (by omega) u3 ae ((Int.tdiv ac 128) % 256) [.int .u8 ((Int.tdiv ac 128) % 256)] (fun _ => True) (fun _ => False) rfl rfl ?aP (fun _ hk => hk.elim) ?aF ?aO ?aB ?aS ?aL ?_; (case aP => exact rfl); (case aB => exact (kl HB)); (case aF => exact (fun _ _ => trivial)); (case aO => exact (kr HO_3)); (case aS => exact (A02 (kl HB))); (case aL => have := LMc5.out; omega); intro a2 w6 ho hb hg hat; rw [← an.out] at ho; have ay := ak (hb); have az := ak (ho); clear HB; clear HO_3; have HB := ay; have ao := az; clear ay az; clear ho hb hg hat))
         go_roundg k2
         case measure => have := ap.out; have := aq.out; omega
         case rel => exact ⟨(am), ((ac * 2) % 256), (wrap64 (af + 1)), kE, kE, H', ⟨by have := ap.out; have := aq.out; omega⟩, ⟨kr ao⟩, ⟨(kl HB)⟩⟩
        ·rw [if_neg c5] at H
         exact absurd H (by simp)
       ·rw [if_neg c4] at H; have av := decide_eq_false c4; clear c4; have H' := ak H; clear H
        go_wp2
        go_roundg k2
        case measure => have := ap.out; have := aq.out; omega
        case rel => exact ⟨(ae), (wrap64 (x4_1 + 1)), kE, H', ⟨by have := ap.out; have := aq.out; omega⟩, ⟨kr HO_3⟩, ⟨(kl HB)⟩⟩
    ·rw [if_neg c3] at H
     exact absurd H (by simp)
   ·rw [if_neg c2] at H; have al := decide_eq_false c2; clear c2; obtain rfl := Option.some.inj H
    go_wp2
    go_ret
    exact ⟨_, kF, by (with_reducible repeat (first | apply Kd.A1g | apply Kd.A1h | apply Kd.A1e)); exact HO_3.out, (kl HB)⟩
end Go.Proofs.YtiahbcaoikoogabDoor.All
end
section
namespace Go.Proofs.YtiahbcaoikoogabDoor.All
open Go.RowKit Go.Proofs.YtiahbcaoikoogabDoorW.PrintWords Go.Proofs.YtiahbcaoikoogabDoorW.PrintLast Go.Proofs.YtiahbcaoikoogabDoorW.PrintMore
attribute [local go_sem] A2i A2j A2v A2w A14 A15 A2k A2l
set_option linter.unusedVariables false
set_option linter.unusedSimpArgs false
def A0r.l0 : Nat → List Int → Int → Int → Option (Int)
 | 0, _, _, _ => none
 | k + 1, x0, x3, x4 => if x4 < (x0.length : Int) then (if 0 ≤ x4 then (A0r.l0 k x0 (IntKind.u64.wrap ((IntKind.u64.wrap (2 * x3)) + (IntKind.u64.wrap (rd x0 x4)))) (wrap64 (x4 + 1))) else (none)) else (some x3)
def A0r.f (k : Nat) (l0 : List Int) : Option (Int) := A0r.l0 k l0 0 0
set_option maxHeartbeats 8000000 in
set_option maxRecDepth 100000 in
theorem A0r.calls (k : Nat) (A0 : Option Addr) (c0 : Nat) (l0 : List Int) (r : Int) (w : World) (hr0 : Kd.C (Kd.int .u8) w A0 l0.length l0) (hc0 : l0.length ≤ c0) (h : A0r.f k l0 = some r) :
  Calls Tryd.prog 28 #[.slice A0 l0.length c0] w fun e w' => e = .returned (.int .u64 r) ∧ A1y w w' := by
 have al := ak hr0; have an := ak hc0; clear hr0 hc0; have H : (A0r.l0 k l0 0 0) = some r := h; clear h; have H' := ak H; clear H
 go_enter Tryd.func28, Tryd.ntmps28
 go_wp2
 go_loopg [3, 4] k (fun kq v3 v4 w' => ∃ (ac : Int) (x4_1 : Int), v3 = .int .u64 ac ∧ v4 = .int .i64 x4_1 ∧ A0e (A0r.l0 kq l0 ac x4_1 = some r) ∧ A0e (kq ≤ k) ∧ A1y w w')
 case atStart => exact ⟨(0), (0), kE, kE, H', ⟨Nat.le_refl _⟩, by repeat (first | exact A1y.refl _ | apply A1y.step)⟩
 case round =>
  clear H'; obtain ⟨ac, x4_1, rfl, rfl, HA, ai, ⟨m1, rfl⟩⟩ := hrel
  cases gk with
  | zero => exact absurd HA.out (by simp [A0r.l0])
  | succ k1 =>
   have H := HA.out; clear HA; simp only [A0r.l0] at H
   by_cases c2 : x4_1 < (l0.length : Int)
   ·rw [if_pos c2] at H; have ag := decide_eq_true c2; clear c2
    by_cases c3 : 0 ≤ x4_1
    ·rw [if_pos c3] at H; have am : decide (0 ≤ x4_1) = true := decide_eq_true c3; clear c3; have H' := ak H; clear H; have ae : 0 ≤ (x4_1 : Int) := kD; have ad : x4_1 < (l0.length : Int) := kD; obtain ⟨aj, ah, af⟩ := Kd.A37 al.out x4_1 ae ad
     cases ah
     replace ae := eq_true ae
     (try (have aa := ad; simp only [List.length_drop, List.length_take] at aa; replace aa := eq_true aa)); replace ad := eq_true ad
     go_wp2
     go_roundg k1
     case measure => have := ai.out; omega
     case rel => exact ⟨(IntKind.u64.wrap ((IntKind.u64.wrap (2 * ac)) + (IntKind.u64.wrap (rd l0 x4_1)))), (wrap64 (x4_1 + 1)), kE, kE, H', ⟨by have := ai.out; omega⟩, by repeat (first | exact A1y.refl _ | apply A1y.step)⟩
    ·rw [if_neg c3] at H
     exact absurd H (by simp)
   ·rw [if_neg c2] at H; have ag := decide_eq_false c2; clear c2; obtain rfl := Option.some.inj H
    go_wp2
    go_ret
    exact ⟨by first | rfl | (simp; done) | (simp [*]; done), by repeat (first | exact A1y.refl _ | apply A1y.step)⟩
end Go.Proofs.YtiahbcaoikoogabDoor.All
end
