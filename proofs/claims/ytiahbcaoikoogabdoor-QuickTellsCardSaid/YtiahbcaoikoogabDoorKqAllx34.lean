-- copied by a program of the session
import Derived.Test.YtiahbcaoikoogabDoorKqAllx32
namespace Go.Proofs.YtiahbcaoikoogabDoor.All
open Go.RowKit Go.Proofs.YtiahbcaoikoogabDoorW.PrintWords Go.Proofs.YtiahbcaoikoogabDoorW.PrintLast Go.Proofs.YtiahbcaoikoogabDoorW.PrintMore
attribute [local go_sem] A2i A2j A2v A2w A14 A15 A2k A2l
set_option linter.unusedVariables false
set_option linter.unusedSimpArgs false
def A1k.f (a0 : Int) : Option (Int) := (some (([0, 7, 9, 12, 64] : List Int) : List Int)).bind fun aa => (if 0 ≤ a0 then (if a0 < (aa.length : Int) then (some (rd aa a0)) else (none)) else (none))
set_option maxHeartbeats 8000000 in
set_option maxRecDepth 100000 in
theorem A1k.calls (a0 : Int) (r : Int) (w : World) (h : A1k.f a0 = some r) :
  Calls Tryd.prog 52 #[.int .i64 a0] w fun e w' => e = .returned (.int .i64 r) ∧ Below w.heap.size w w' := by
 have HB := ak (Below.refl w.heap.size w); have H : ((some (([0, 7, 9, 12, 64] : List Int) : List Int)).bind fun aa => (if 0 ≤ a0 then (if a0 < (aa.length : Int) then (some (rd aa a0)) else (none)) else (none))) = some r := h; clear h; obtain ⟨aa, ac⟩ : ∃ y_ : List Int, y_ = (([0, 7, 9, 12, 64] : List Int)) := ⟨_, rfl⟩
 replace H : (if 0 ≤ a0 then (if a0 < (aa.length : Int) then (some (rd aa a0)) else (none)) else (none)) = some r := by first | (rw [ac]; with_reducible exact H) | (have H2_ := (Option.bind_some _ _).symm.trans H; rw [ac]; with_reducible exact H2_) | (have H2_ := (Option.bind_some _ _).symm.trans H; with_reducible exact H2_) | with_reducible exact H | (rw [ac]; exact H) | exact H
 have af := ak ac; clear ac
 by_cases c2 : 0 ≤ a0
 ·rw [if_pos c2] at H; have am : decide (0 ≤ a0) = true := decide_eq_true c2; clear c2
  by_cases c3 : a0 < (aa.length : Int)
  ·rw [if_pos c3] at H; have an : decide (a0 < (aa.length : Int)) = true := decide_eq_true c3; clear c3; obtain rfl := Option.some.inj H
   go_enter Tryd.func52, Tryd.ntmps52
   go_wp2_with (first | ((with_reducible refine A0u (N := 3) rfl ?_); refine Kd.R_lit (Kd.int .i64) _ 3 ?hg (N := 3) ?hd (xs := ([0, 7, 9, 12, 64] : List Int)) (inner := [.int .i64 0, .int .i64 7, .int .i64 9, .int .i64 12, .int .i64 64]) (ok := fun _ => True) (okp := fun _ => True) ?hr ?hp (fun _ hk => hk) trivial (Below.refl _ _) (Nat.le_refl _) (by simp) ?_; (case hd => rfl); (case hg => rfl); (case hr => first | (go_simp; done) | (go_simp; rfl)); (case hp => exact (Reps.one (show Kd.M (Kd.int .i64) _ _ _ 0 [.int .i64 0] from rfl) (Reps.one (show Kd.M (Kd.int .i64) _ _ _ 7 [.int .i64 7] from rfl) (Reps.one (show Kd.M (Kd.int .i64) _ _ _ 9 [.int .i64 9] from rfl) (Reps.one (show Kd.M (Kd.int .i64) _ _ _ 12 [.int .i64 12] from rfl) (Reps.one (show Kd.M (Kd.int .i64) _ _ _ 64 [.int .i64 64] from rfl) (Reps.none _ _))))))); intro ao w4 ho5 hb hg_ hnew_; clear hg_ hnew_; (first | rw [← af.out] at ho5 | (simp only [Int.reduceToNat] at ho5; rw [← af.out] at ho5)); have ag := ak (Kd.A17 ho5 (A02 (kl HB))); replace HB := kH HB hb; clear hb ho5; obtain ⟨aq, ar, ap⟩ := Kd.A12 ag.out; subst ap; have ah : 0 ≤ (a0 : Int) := kD; have ae : a0 < (aa.length : Int) := kD; obtain ⟨al, aj, ai⟩ := Kd.A37 (Kd.A1i ag.out).2.2 a0 ah ae; cases aj; replace ah := eq_true ah; (try (have ad := ae; simp only [List.length_drop, List.length_take] at ad; replace ad := eq_true ad)); replace ae := eq_true ae))
   go_ret
   exact ⟨kF, (kl HB)⟩
  ·rw [if_neg c3] at H
   exact absurd H (by simp)
 ·rw [if_neg c2] at H
  exact absurd H (by simp)
def A2r.f (k : Nat) (l0 : List Int) : Option (Int) := (A0r.f k l0).bind fun aa => (if (l0.length : Int) > 0 then (if (l0.length : Int) < 64 then (if 0 < (l0.length : Int) then (if (rd l0 0) = 1 then ((some (([1] : List Int) : List Int)).bind fun ac => (if 0 ≤ (wrap64 ((l0.length : Int) - 1)) then (if ac.length + (wrap64 ((l0.length : Int) - 1) : Int).toNat < 140737488355328 then ((A0r.f k (ac ++ List.replicate (wrap64 ((l0.length : Int) - 1) : Int).toNat 0)).bind fun ad => (some (wrap64 ((wrap64 (aa)) - (wrap64 (IntKind.u64.wrap (2 * ad))))))) else (none)) else (none))) else (some (wrap64 (aa)))) else (none)) else (some (wrap64 (aa)))) else (some (wrap64 (aa))))
set_option maxHeartbeats 8000000 in
set_option maxRecDepth 100000 in
theorem A2r.calls (k : Nat) (A0 : Option Addr) (c0 : Nat) (l0 : List Int) (r : Int) (w : World) (hr0 : Kd.C (Kd.int .u8) w A0 l0.length l0) (hc0 : l0.length ≤ c0) (h : A2r.f k l0 = some r) :
  Calls Tryd.prog 53 #[.slice A0 l0.length c0] w fun e w' => e = .returned (.int .i64 r) ∧ Below w.heap.size w w' := by
 have aw := ak hr0; have a1 := ak hc0; clear hr0 hc0; have HB := ak (Below.refl w.heap.size w); have H : ((A0r.f k l0).bind fun ae => (if (l0.length : Int) > 0 then (if (l0.length : Int) < 64 then (if 0 < (l0.length : Int) then (if (rd l0 0) = 1 then ((some (([1] : List Int) : List Int)).bind fun ag => (if 0 ≤ (wrap64 ((l0.length : Int) - 1)) then (if ag.length + (wrap64 ((l0.length : Int) - 1) : Int).toNat < 140737488355328 then ((A0r.f k (ag ++ List.replicate (wrap64 ((l0.length : Int) - 1) : Int).toNat 0)).bind fun ah => (some (wrap64 ((wrap64 (ae)) - (wrap64 (IntKind.u64.wrap (2 * ah))))))) else (none)) else (none))) else (some (wrap64 (ae)))) else (none)) else (some (wrap64 (ae)))) else (some (wrap64 (ae))))) = some r := h; clear h; replace H := bkH H; obtain ⟨ae, A2, H⟩ := H
 by_cases c3 : (l0.length : Int) > 0
 ·rw [if_pos c3] at H; have a2 : decide (0 < (l0.length : Int)) = true := decide_eq_true c3; have a3 : decide (0 < l0.length) = true := decide_eq_true (by omega); clear c3
  by_cases c4 : (l0.length : Int) < 64
  ·rw [if_pos c4] at H; have a4 : decide ((l0.length : Int) < 64) = true := decide_eq_true c4; have a5 : decide (l0.length < 64) = true := decide_eq_true (by omega); clear c4
   by_cases c5 : 0 < (l0.length : Int)
   ·rw [if_pos c5] at H; have aH : decide (0 < (l0.length : Int)) = true := decide_eq_true c5; have aI : decide (0 < l0.length) = true := decide_eq_true (by omega); clear c5
    by_cases c6 : (rd l0 0) = 1
    ·rw [if_pos c6] at H; obtain ⟨a6, a7⟩ := kqT c6; clear c6; obtain ⟨ag, aj⟩ : ∃ y_ : List Int, y_ = (([1] : List Int)) := ⟨_, rfl⟩
     replace H : (if 0 ≤ (wrap64 ((l0.length : Int) - 1)) then (if ag.length + (wrap64 ((l0.length : Int) - 1) : Int).toNat < 140737488355328 then ((A0r.f k (ag ++ List.replicate (wrap64 ((l0.length : Int) - 1) : Int).toNat 0)).bind fun ah => (some (wrap64 ((wrap64 (ae)) - (wrap64 (IntKind.u64.wrap (2 * ah))))))) else (none)) else (none)) = some r := by first | (rw [aj]; with_reducible exact H) | (have H2_ := (Option.bind_some _ _).symm.trans H; rw [aj]; with_reducible exact H2_) | (have H2_ := (Option.bind_some _ _).symm.trans H; with_reducible exact H2_) | with_reducible exact H | (rw [aj]; exact H) | exact H
     have aq := ak aj; clear aj; obtain ⟨ap, an⟩ : ∃ j_ : Int, (wrap64 ((l0.length : Int) - 1)) = j_ := ⟨_, rfl⟩
     replace H : (if 0 ≤ (ap) then (if ag.length + (ap : Int).toNat < 140737488355328 then ((A0r.f k (ag ++ List.replicate (ap : Int).toNat 0)).bind fun ah => (some (wrap64 ((wrap64 (ae)) - (wrap64 (IntKind.u64.wrap (2 * ah))))))) else (none)) else (none)) = some r := by first | (rw [an] at H; exact H) | (simp only [an] at H ⊢; exact H)
     (try rw [an] at A2); have aD : (IntKind.i64.wrap ((l0.length : Int) - 1)) = ap := (A3a _).trans an
     by_cases c8 : 0 ≤ (ap)
     ·rw [if_pos c8] at H; have aJ := eq_true c8; have aK : decide (0 ≤ (ap)) = true := decide_eq_true c8; clear c8
      by_cases c9 : ag.length + (ap : Int).toNat < 140737488355328
      ·rw [if_pos c9] at H; have LMc9 := ak c9; clear c9; obtain ⟨au, al⟩ : ∃ y_ : List Int, y_ = (ag ++ List.replicate (ap : Int).toNat 0) := ⟨_, rfl⟩
       replace H : ((A0r.f k au).bind fun ah => (some (wrap64 ((wrap64 (ae)) - (wrap64 (IntKind.u64.wrap (2 * ah))))))) = some r := by first | (rw [al]; with_reducible exact H) | (have H2_ := (Option.bind_some _ _).symm.trans H; rw [al]; with_reducible exact H2_) | (have H2_ := (Option.bind_some _ _).symm.trans H; with_reducible exact H2_) | with_reducible exact H | (rw [al]; exact H) | exact H
       have ax := ak al; clear al; replace H := bkH H; obtain ⟨ah, aM, H⟩ := H; obtain rfl := Option.some.inj H
       go_enter Tryd.func53, Tryd.ntmps53
       go_wp2_with (first | ((with_reducible refine A0i (f := 28) rfl ?_); refine A09 (some 5) rfl rfl Tryd.func28 (by kernel_rfl) rfl #[.slice A0 l0.length c0] rfl km ?_; (with_reducible refine (A0r.calls k _ _ l0 ae _ ?aa ?ac A2.out).mono ?_); (case aa => repeat (first | exact aw.out | (with_reducible refine Kd.A1u ?_ _) | (with_reducible refine Kd.A1s ?_ _) | (with_reducible refine Kd.A19 ?_))); (case ac => exact a1.out); rintro e w' ⟨rfl, ⟨nd, rfl⟩⟩; refine ⟨_, rfl, ?_⟩; have am : 0 ≤ (0 : Int) := (by omega); have ai : 0 < (l0.length : Int) := kD; obtain ⟨ay, av, ad⟩ := Kd.A37 aw.out 0 am ai; cases av; have az : (0 < l0.length) = True := eq_true (by omega); (try rw [show ((0 : Int)).toNat = 0 from rfl] at ad); (try rw [Addr.add_zero'] at ad); replace am := eq_true am; (try (have af := ai; simp only [List.length_drop, List.length_take] at af; replace af := eq_true af)); replace ai := eq_true ai) | ((with_reducible refine A0u (N := 22) rfl ?_); (try (refine gate_guard (by rfl) ?_; dsimp only)); refine Kd.R_lit (Kd.int .u8) _ 5 ?hg (N := 22) ?hd (xs := ([1] : List Int)) (inner := [.int .u8 1]) (ok := fun _ => True) (okp := fun _ => True) ?hr ?hp (fun _ hk => hk) trivial (Below.refl _ _) (Nat.le_refl _) (by simp) ?_; (case hd => rfl); (case hg => rfl); (case hr => first | (go_simp; done) | (go_simp; rfl)); (case hp => exact (Reps.one (show Kd.M (Kd.int .u8) _ _ _ 1 [.int .u8 1] from rfl) (Reps.none _ _))); intro a8 aP ho12 hb hg_ hnew_; clear hg_ hnew_; (first | rw [← aq.out] at ho12 | (simp only [Int.reduceToNat] at ho12; rw [← aq.out] at ho12)); have ar := ak (Kd.A17 ho12 (A02 (kl HB))); replace HB := kH HB hb; clear hb ho12) | (at_builtin; refine Kd.A38 (Kd.int .u8) (w0 := w) w.heap.size rfl (.tmp 22) (.tmp 25) 23 3 5 (.int .u8 0) 1 rfl Tryd.underlying23 Tryd.underlying3 info5 rfl (by decide) (by omega) a8 ag 0 (ap : Int) (fun _ => True) rfl rfl rfl ?aF ?aO kD ?aB ?aS ?aL ?_; (case aB => exact (kl HB)); (case aF => exact (fun _ _ => trivial)); (case aO => exact (kr ar)); (case aS => exact (A02 (kl HB))); (case aL => have := LMc9.out; omega); intro aN aQ ho hb hg hat; (try simp only [Int.reduceToNat] at ho); rw [← ax.out] at ho; have aE := ak (hb); have aG := ak (ho); clear HB; clear ar; have HB := aE; have ao := aG; clear aE aG; clear ho hb hg hat; obtain ⟨a9, aA, aC⟩ := Kd.A12 ao.out; subst aC) | ((with_reducible refine A0i (f := 28) rfl ?_); refine A09 (some 27) rfl rfl Tryd.func28 (by kernel_rfl) rfl #[.slice a9 au.length aA] rfl km ?_; (with_reducible refine (A0r.calls k _ _ au ah _ ?aa ?ac aM.out).mono ?_); (case aa => repeat (first | exact (Kd.A1i ao.out).2.2 | (with_reducible refine Kd.A1u ?_ _) | (with_reducible refine Kd.A1s ?_ _) | (with_reducible refine Kd.A19 ?_))); (case ac => exact (Kd.A1i ao.out).2.1); rintro e w' ⟨rfl, ⟨nd, rfl⟩⟩; refine ⟨_, rfl, ?_⟩))
       go_ret
       exact ⟨by first | rfl | (simp [A0o, A0p] <;> rfl) | (simp only [← an]; first | rfl | (simp [A0o, A0p] <;> rfl)) | (simp [*, A0o, A0p] <;> rfl), (kl HB)⟩
      ·rw [if_neg c9] at H
       exact absurd H (by simp)
     ·rw [if_neg c8] at H
      exact absurd H (by simp)
    ·rw [if_neg c6] at H; obtain ⟨a6, a7⟩ := kqF c6; obtain rfl := Option.some.inj H
     go_enter Tryd.func53, Tryd.ntmps53
     go_wp2_with (first | ((with_reducible refine A0i (f := 28) rfl ?_); refine A09 (some 5) rfl rfl Tryd.func28 (by kernel_rfl) rfl #[.slice A0 l0.length c0] rfl km ?_; (with_reducible refine (A0r.calls k _ _ l0 ae _ ?aa ?ac A2.out).mono ?_); (case aa => repeat (first | exact aw.out | (with_reducible refine Kd.A1u ?_ _) | (with_reducible refine Kd.A1s ?_ _) | (with_reducible refine Kd.A19 ?_))); (case ac => exact a1.out); rintro e w' ⟨rfl, ⟨nd, rfl⟩⟩; refine ⟨_, rfl, ?_⟩; have am : 0 ≤ (0 : Int) := (by omega); have ai : 0 < (l0.length : Int) := kD; obtain ⟨ay, av, ad⟩ := Kd.A37 aw.out 0 am ai; cases av; have az : (0 < l0.length) = True := eq_true (by omega); (try rw [show ((0 : Int)).toNat = 0 from rfl] at ad); (try rw [Addr.add_zero'] at ad); replace am := eq_true am; (try (have af := ai; simp only [List.length_drop, List.length_take] at af; replace af := eq_true af)); replace ai := eq_true ai))
     go_ret
     exact ⟨kF, (kl HB)⟩
   ·rw [if_neg c5] at H
    exact absurd H (by simp)
  ·rw [if_neg c4] at H; have a4 : decide ((l0.length : Int) < 64) = false := decide_eq_false c4; have a5 : decide (l0.length < 64) = false := decide_eq_false (by omega); clear c4; obtain rfl := Option.some.inj H
   go_enter Tryd.func53, Tryd.ntmps53
   go_wp2_with (first | ((with_reducible refine A0i (f := 28) rfl ?_); refine A09 (some 5) rfl rfl Tryd.func28 (by kernel_rfl) rfl #[.slice A0 l0.length c0] rfl km ?_; (with_reducible refine (A0r.calls k _ _ l0 ae _ ?aa ?ac A2.out).mono ?_); (case aa => repeat (first | exact aw.out | (with_reducible refine Kd.A1u ?_ _) | (with_reducible refine Kd.A1s ?_ _) | (with_reducible refine Kd.A19 ?_))); (case ac => exact a1.out); rintro e w' ⟨rfl, ⟨nd, rfl⟩⟩; refine ⟨_, rfl, ?_⟩))
   go_ret
   exact ⟨kF, (kl HB)⟩
 ·rw [if_neg c3] at H; have a2 : decide (0 < (l0.length : Int)) = false := decide_eq_false c3; have a3 : decide (0 < l0.length) = false := decide_eq_false (by omega); clear c3; obtain rfl := Option.some.inj H
  go_enter Tryd.func53, Tryd.ntmps53
  go_wp2_with (first | ((with_reducible refine A0i (f := 28) rfl ?_); refine A09 (some 5) rfl rfl Tryd.func28 (by kernel_rfl) rfl #[.slice A0 l0.length c0] rfl km ?_; (with_reducible refine (A0r.calls k _ _ l0 ae _ ?aa ?ac A2.out).mono ?_); (case aa => repeat (first | exact aw.out | (with_reducible refine Kd.A1u ?_ _) | (with_reducible refine Kd.A1s ?_ _) | (with_reducible refine Kd.A19 ?_))); (case ac => exact a1.out); rintro e w' ⟨rfl, ⟨nd, rfl⟩⟩; refine ⟨_, rfl, ?_⟩))
  go_ret
  exact ⟨kF, (kl HB)⟩
def A2s.f (l0 : List Int) (l1 : List Int) : Option (Bool) := if (l0.length : Int) ≥ (l1.length : Int) then (if 0 ≤ (mn (l0.length : Int) (l1.length : Int)) then (if (mn (l0.length : Int) (l1.length : Int)) ≤ (l0.length : Int) then (some ((strOfNums (l0.take ((mn (l0.length : Int) (l1.length : Int)) : Int).toNat)).toList == (strOfNums l1).toList)) else (none)) else (none)) else (some false)
set_option maxHeartbeats 8000000 in
set_option maxRecDepth 100000 in
theorem A2s.calls (A0 : Option Addr) (c0 : Nat) (l0 : List Int) (A1 : Option Addr) (c1 : Nat) (l1 : List Int) (r : Bool) (w : World) (hr0 : Kd.C (Kd.int .u8) w A0 l0.length l0) (hc0 : l0.length ≤ c0) (hr1 : Kd.C (Kd.int .u8) w A1 l1.length l1) (hc1 : l1.length ≤ c1) (h : A2s.f l0 l1 = some r) :
  Calls Tryd.prog 54 #[.slice A0 l0.length c0, .slice A1 l1.length c1] w fun e w' => e = .returned (.bool r) ∧ Below w.heap.size w w' := by
 have au := ak hr0; have av := ak hc0; clear hr0 hc0; have ai := ak hr1; have a1 := ak hc1; clear hr1 hc1; have HB := ak (Below.refl w.heap.size w); have H : (if (l0.length : Int) ≥ (l1.length : Int) then (if 0 ≤ (mn (l0.length : Int) (l1.length : Int)) then (if (mn (l0.length : Int) (l1.length : Int)) ≤ (l0.length : Int) then (some ((strOfNums (l0.take ((mn (l0.length : Int) (l1.length : Int)) : Int).toNat)).toList == (strOfNums l1).toList)) else (none)) else (none)) else (some false)) = some r := h; clear h
 by_cases c3 : (l0.length : Int) ≥ (l1.length : Int)
 ·rw [if_pos c3] at H; have aj : decide ((l1.length : Int) ≤ (l0.length : Int)) = true := decide_eq_true c3; have al : decide (l1.length ≤ l0.length) = true := decide_eq_true (Int.ofNat_le.mp c3); clear c3; obtain ⟨aa, ac⟩ : ∃ j_ : Int, (mn (l0.length : Int) (l1.length : Int)) = j_ := ⟨_, rfl⟩
  replace H : (if 0 ≤ (aa) then (if (aa) ≤ (l0.length : Int) then (some ((strOfNums (l0.take ((aa) : Int).toNat)).toList == (strOfNums l1).toList)) else (none)) else (none)) = some r := by first | (rw [ac] at H; exact H) | (simp only [ac] at H ⊢; exact H)
  (try (have am : 0 ≤ aa := by (rw [← ac]; unfold mn; (repeat' split) <;> omega))); (try (have an : 0 ≤ aa := by omega)); have ae : (if (l1.length : Int) < (l0.length : Int) then (l1.length : Int) else (l0.length : Int)) = aa := ac; (try (have af := ae; simp only [Int.ofNat_lt] at af))
  by_cases c5 : 0 ≤ (aa)
  ·rw [if_pos c5] at H; have aw := eq_true c5; have ax : decide (0 ≤ (aa)) = true := decide_eq_true c5; clear c5
   by_cases c6 : (aa) ≤ (l0.length : Int)
   ·rw [if_pos c6] at H; have ay := eq_true c6; have az : decide ((aa) ≤ (l0.length : Int)) = true := decide_eq_true c6; clear c6; obtain rfl := Option.some.inj H; obtain ⟨a2, ag, _, ah, _⟩ := info_parts info5; obtain ⟨ao, ap, aq⟩ := print_take_of (P := Tryd.prog) (Value.int .u8) 0 23 5 .i64 Tryd.underlying23 ag ah A0 c0 l0 (aa) kD kD av.out; have ad := ak (Kd.A2z (h1 := fun _ => rfl) (ap _ (Kd.A2u au.out))); have ar := ak aq; clear ap aq ag ah; have hcv8 := Kd.C_string (P := Tryd.prog) (A := A0) (c := c0) Tryd.underlying23 Tryd.underlying5 Tryd.underlying9 ad.out
    have hcv8d := fun (m_ : Nat) => Kd.C_string (P := Tryd.prog) (A := A0) (c := c0) Tryd.underlying23 Tryd.underlying5 Tryd.underlying9 (Kd.A1s ad.out m_)
    (try (have hcv8e := Kd.C_string (P := Tryd.prog) (A := A0) (c := c0) Tryd.underlying23 Tryd.underlying5 Tryd.underlying9 (Kd.A19 ad.out))); (try (have hle_ : aa ≤ (l0.length : Int) := kD; have hln_ : (l0.take (aa : Int).toNat).length = (aa : Int).toNat := (by rw [List.length_take]; omega); (try (have hcv8t := hcv8; rw [hln_] at hcv8t)); (try (have hcv8u := hcv8e; rw [hln_] at hcv8u)); clear hle_ hln_)); have hcv9 := Kd.C_string (P := Tryd.prog) (A := A1) (c := c1) Tryd.underlying23 Tryd.underlying5 Tryd.underlying9 ai.out
    have hcv9d := fun (m_ : Nat) => Kd.C_string (P := Tryd.prog) (A := A1) (c := c1) Tryd.underlying23 Tryd.underlying5 Tryd.underlying9 (Kd.A1s ai.out m_)
    (try (have hcv9e := Kd.C_string (P := Tryd.prog) (A := A1) (c := c1) Tryd.underlying23 Tryd.underlying5 Tryd.underlying9 (Kd.A19 ai.out)))
    go_enter Tryd.func54, Tryd.ntmps54
    go_wp2
    repeat ((first | go_quiet (fail) | go_region); try go_wp2)
    go_ret
    exact ⟨by first | rfl | (simp [A0o, A0p] <;> rfl) | (simp only [← ac]; first | rfl | (simp [A0o, A0p] <;> rfl)) | (simp [*, A0o, A0p] <;> rfl), (kl HB)⟩
   ·rw [if_neg c6] at H
    exact absurd H (by simp)
  ·rw [if_neg c5] at H
   exact absurd H (by simp)
 ·rw [if_neg c3] at H; have aj : decide ((l1.length : Int) ≤ (l0.length : Int)) = false := decide_eq_false c3; have al : decide (l1.length ≤ l0.length) = false := decide_eq_false (fun h => c3 (Int.ofNat_le.mpr h)); clear c3; obtain rfl := Option.some.inj H
  go_enter Tryd.func54, Tryd.ntmps54
  go_wp2
  repeat ((first | go_quiet (fail) | go_region); try go_wp2)
  go_ret
  exact ⟨kF, (kl HB)⟩
def A11.l0 : Nat → Int → Int → Int → Int → Option (Bool)
 | 0, _, _, _, _ => none
 | k + 1, x0, x1, x5, x6 => if x6 < x1 then (A11.l0 k x0 x1 (wrap64 (2 * x5)) (wrap64 (x6 + 1))) else (if x0 ≥ (wrap64 (-x5)) then (some (decide (x0 ≤ (wrap64 (x5 - 1))))) else (some false))
def A11.f (k : Nat) (a0 : Int) (a1 : Int) : Option (Bool) := A11.l0 k a0 a1 1 1
set_option maxHeartbeats 8000000 in
set_option maxRecDepth 100000 in
theorem A11.calls (k : Nat) (a0 : Int) (a1 : Int) (r : Bool) (w : World) (h : A11.f k a0 a1 = some r) :
  Calls Tryd.prog 69 #[.int .i64 a0, .int .i64 a1] w fun e w' => e = .returned (.bool r) ∧ A1y w w' := by
 have H : (A11.l0 k a0 a1 1 1) = some r := h; clear h; have H' := ak H; clear H
 go_enter Tryd.func69, Tryd.ntmps69
 go_wp2
 go_loopg [5, 6] k (fun kq v5 v6 w' => ∃ (x5_1 : Int) (x6_1 : Int), v5 = .int .i64 x5_1 ∧ v6 = .int .i64 x6_1 ∧ A0e (A11.l0 kq a0 a1 x5_1 x6_1 = some r) ∧ A0e (kq ≤ k) ∧ A1y w w')
 case atStart => exact ⟨(1), (1), kE, kE, H', ⟨Nat.le_refl _⟩, by repeat (first | exact A1y.refl _ | apply A1y.step)⟩
 case round =>
  clear H'; obtain ⟨x5_1, x6_1, rfl, rfl, HA, ad, ⟨m1, rfl⟩⟩ := hrel
  cases gk with
  | zero => exact absurd HA.out (by simp [A11.l0])
  | succ k1 =>
   have H := HA.out; clear HA; simp only [A11.l0] at H
   by_cases c3 : x6_1 < a1
   ·rw [if_pos c3] at H; have aa : decide (x6_1 < a1) = true := decide_eq_true c3; clear c3; have H' := ak H; clear H
    go_wp2
    go_roundg k1
    case measure => have := ad.out; omega
    case rel => exact ⟨(wrap64 (2 * x5_1)), (wrap64 (x6_1 + 1)), kE, kE, H', ⟨by have := ad.out; omega⟩, by repeat (first | exact A1y.refl _ | apply A1y.step)⟩
   ·rw [if_neg c3] at H; have aa : decide (x6_1 < a1) = false := decide_eq_false c3; clear c3
    by_cases c4 : a0 ≥ (wrap64 (-x5_1))
    ·rw [if_pos c4] at H; have ac : decide ((wrap64 (-x5_1)) ≤ a0) = true := decide_eq_true c4; clear c4; obtain rfl := Option.some.inj H
     go_wp2
     go_ret
     exact ⟨by first | rfl | (simp; done) | (simp [*]; done), by repeat (first | exact A1y.refl _ | apply A1y.step)⟩
    ·rw [if_neg c4] at H; have ac : decide ((wrap64 (-x5_1)) ≤ a0) = false := decide_eq_false c4; clear c4; obtain rfl := Option.some.inj H
     go_wp2
     go_ret
     exact ⟨by first | rfl | (simp; done) | (simp [*]; done), by repeat (first | exact A1y.refl _ | apply A1y.step)⟩
def A1m.l0 : Nat → Int → Int → Option (Int)
 | 0, _, _ => none
 | k + 1, x0, x3 => if x3 < 4 then ((A1k.f x3).bind fun aa => ((A11.f k x0 aa).bind fun ac => (if ac = true then (some x3) else (A1m.l0 k x0 (wrap64 (x3 + 1)))))) else (some 4)
def A1m.f (k : Nat) (a0 : Int) : Option (Int) := if a0 = 0 then (some 0) else (A1m.l0 k a0 1)
set_option maxHeartbeats 8000000 in
set_option maxRecDepth 100000 in
theorem A1m.calls (k : Nat) (a0 : Int) (r : Int) (w : World) (h : A1m.f k a0 = some r) :
  Calls Tryd.prog 65 #[.int .i64 a0] w fun e w' => e = .returned (.int .i64 r) ∧ Below w.heap.size w w' := by
 have HB := ak (Below.refl w.heap.size w); have H : (if a0 = 0 then (some 0) else (A1m.l0 k a0 1)) = some r := h; clear h
 by_cases c2 : a0 = 0
 ·rw [if_pos c2] at H; obtain ⟨ad, ae⟩ := kqT c2; clear c2; obtain rfl := Option.some.inj H
  go_enter Tryd.func65, Tryd.ntmps65
  go_wp2
  go_ret
  exact ⟨kF, (kl HB)⟩
 ·rw [if_neg c2] at H; obtain ⟨ad, ae⟩ := kqF c2; have H' := ak H; clear H
  go_enter Tryd.func65, Tryd.ntmps65
  go_wp2
  go_loopg [3] k (fun kq v3 w' => ∃ (aa : Int), v3 = .int .i64 aa ∧ A0e (A1m.l0 kq a0 aa = some r) ∧ A0e (kq ≤ k) ∧ A0e (Below w.heap.size w w'))
  case atStart => exact ⟨(1), kE, H', ⟨Nat.le_refl _⟩, ⟨(kl HB)⟩⟩
  case round =>
   clear H'; (try clear c2); (try clear ad); (try clear ae); obtain ⟨aa, rfl, HA, ah, HB⟩ := hrel
   cases gk with
   | zero => exact absurd HA.out (by simp [A1m.l0])
   | succ k1 =>
    have H := HA.out; clear HA; simp only [A1m.l0] at H
    by_cases c3 : aa < 4
    ·rw [if_pos c3] at H; have af : decide (aa < 4) = true := decide_eq_true c3; clear c3; replace H := bkH H; obtain ⟨ac, A4, H⟩ := H; replace H := bkH H; obtain ⟨ag, A5, H⟩ := H
     by_cases c6 : ag = true
     ·subst c6
      rw [if_pos rfl] at H; obtain rfl := Option.some.inj H
      go_wp2_with (first | ((with_reducible refine A0i (f := 52) rfl ?_); refine A09 (some 13) rfl rfl Tryd.func52 (by kernel_rfl) rfl #[.int .i64 aa] rfl km ?_; (with_reducible refine (A1k.calls aa ac _ A4.out).mono ?_); rintro e w7 ⟨rfl, hb⟩; refine ⟨_, rfl, ?_⟩; replace HB := kH HB hb; (try clear hb); ) | ((with_reducible refine A0i (f := 69) rfl ?_); refine A09 (some 14) rfl rfl Tryd.func69 (by kernel_rfl) rfl #[.int .i64 a0, .int .i64 ac] rfl km ?_; (with_reducible refine (A11.calls k1 a0 ac true _ A5.out).mono ?_); rintro e w' ⟨rfl, ⟨nd, rfl⟩⟩; refine ⟨_, rfl, ?_⟩))
      go_ret
      exact ⟨kF, (kl HB)⟩
     ·replace c6 := Bool.eq_false_iff.mpr c6; subst c6
      rw [if_neg (show ¬ (false = true) by decide)] at H; have H' := ak H; clear H
      go_wp2_with (first | ((with_reducible refine A0i (f := 52) rfl ?_); refine A09 (some 13) rfl rfl Tryd.func52 (by kernel_rfl) rfl #[.int .i64 aa] rfl km ?_; (with_reducible refine (A1k.calls aa ac _ A4.out).mono ?_); rintro e w8 ⟨rfl, hb⟩; refine ⟨_, rfl, ?_⟩; replace HB := kH HB hb; (try clear hb); ) | ((with_reducible refine A0i (f := 69) rfl ?_); refine A09 (some 14) rfl rfl Tryd.func69 (by kernel_rfl) rfl #[.int .i64 a0, .int .i64 ac] rfl km ?_; (with_reducible refine (A11.calls k1 a0 ac false _ A5.out).mono ?_); rintro e w' ⟨rfl, ⟨nd, rfl⟩⟩; refine ⟨_, rfl, ?_⟩))
      go_roundg k1
      case measure => have := ah.out; omega
      case rel => exact ⟨(wrap64 (aa + 1)), kE, H', ⟨by have := ah.out; omega⟩, ⟨(kl HB)⟩⟩
    ·rw [if_neg c3] at H; have af : decide (aa < 4) = false := decide_eq_false c3; clear c3; obtain rfl := Option.some.inj H
     go_wp2
     go_ret
     exact ⟨kF, (kl HB)⟩
def A1b.l0 : Nat → Int → List Int → Int → Option (List Int)
 | 0, _, _, _ => none
 | k + 1, x0, x5, x6 => if x6 ≥ 0 then (if 0 ≤ x6 then (if x6 < (x5.length : Int) then (A1b.l0 k (IntKind.u64.wrap (Int.tdiv x0 2)) (x5.set (x6 : Int).toNat ((Int.tmod x0 2) % 256)) (wrap64 (x6 - 1))) else (none)) else (none)) else (some x5)
def A1b.f (k : Nat) (a0 : Int) (a1 : Int) : Option (List Int) := if 0 ≤ a1 then (if (a1 : Int).toNat ≤ 281474976710656 then (A1b.l0 k a0 (List.replicate (a1 : Int).toNat 0) (wrap64 (a1 - 1))) else (none)) else (none)
set_option maxHeartbeats 8000000 in
set_option maxRecDepth 100000 in
theorem A1b.calls (k : Nat) (a0 : Int) (a1 : Int) (r : List Int) (w : World) (h : A1b.f k a0 a1 = some r) :
  Calls Tryd.prog 66 #[.int .u64 a0, .int .i64 a1] w fun e w' => ∃ a4 : Value, e = .returned (a4) ∧ Kd.R (Kd.int .u8) 5 w' w.heap.size (fun _ => True) a4 r ∧ Below w.heap.size w w' := by
 have HB := ak (Below.refl w.heap.size w); have H : (if 0 ≤ a1 then (if (a1 : Int).toNat ≤ 281474976710656 then (A1b.l0 k a0 (List.replicate (a1 : Int).toNat 0) (wrap64 (a1 - 1))) else (none)) else (none)) = some r := h; clear h
 by_cases c3 : 0 ≤ a1
 ·rw [if_pos c3] at H; have ap := eq_true c3; have aq : decide (0 ≤ a1) = true := decide_eq_true c3; clear c3
  by_cases c4 : (a1 : Int).toNat ≤ 281474976710656
  ·rw [if_pos c4] at H; have ar := eq_true c4; have au : decide ((a1 : Int).toNat ≤ 281474976710656) = true := decide_eq_true c4; clear c4; obtain ⟨ai, aa⟩ : ∃ y_ : List Int, y_ = (List.replicate (a1 : Int).toNat 0) := ⟨_, rfl⟩
   replace H : (A1b.l0 k a0 ai (wrap64 (a1 - 1))) = some r := by first | (rw [aa]; with_reducible exact H) | (have H2_ := (Option.bind_some _ _).symm.trans H; rw [aa]; with_reducible exact H2_) | (have H2_ := (Option.bind_some _ _).symm.trans H; with_reducible exact H2_) | with_reducible exact H | (rw [aa]; exact H) | exact H
   have ae := ak aa; clear aa; have H' := ak H; clear H
   go_enter Tryd.func66, Tryd.ntmps66
   go_wp2_with (first | ((with_reducible refine A0u (N := 8) rfl ?_); refine Kd.R_make (Kd.int .u8) _ 5 rfl (N := 8) rfl 23 _ _ rfl a1 rfl rfl Tryd.underlying23 (.int .u8 0) 1 info5 rfl (by decide) (by omega) 0 (ok := fun _ => True) (okp := fun _ => True) rfl (fun _ hk => hk) trivial kD (Nat.le_trans (Nat.mul_le_mul_right _ (kD : a1.toNat ≤ 281474976710656)) (by omega)) (Below.refl _ _) (Nat.le_refl _) ?_; intro av w5 ho6 hb hg_ hnew_; clear hg_ hnew_; (first | rw [← ae.out] at ho6 | (simp only [Int.reduceToNat] at ho6; rw [← ae.out] at ho6)); have aj := ak (Kd.A17 ho6 (A02 (kl HB))); replace HB := kH HB hb; clear hb ho6))
   go_loopg [0, 6] k (fun kq v0 v6 w' => ∃ (ac : Int) (x5_1 : List Int) (x6_1 : Int), v0 = .int .u64 ac ∧ v6 = .int .i64 x6_1 ∧ A0e (A1b.l0 kq ac x5_1 x6_1 = some r) ∧ A0e (kq ≤ k) ∧ A0e (Kd.R (Kd.int .u8) 5 w' w.heap.size (fun _ => True) av x5_1) ∧ A0e (Below w.heap.size w w'))
   case atStart => exact ⟨(a0), (ai), (wrap64 (a1 - 1)), kE, kE, H', ⟨Nat.le_refl _⟩, ⟨kr aj⟩, ⟨(kl HB)⟩⟩
   case round =>
    clear H'; (try clear c3); (try clear ap); (try clear aq); (try clear c4); (try clear ar); (try clear au); obtain ⟨ac, x5_1, x6_1, rfl, rfl, HA, a5, HO_5, HB⟩ := hrel
    cases gk with
    | zero => exact absurd HA.out (by simp [A1b.l0])
    | succ k1 =>
     have H := HA.out; clear HA; simp only [A1b.l0] at H
     by_cases c7 : x6_1 ≥ 0
     ·rw [if_pos c7] at H; have aw : decide (0 ≤ x6_1) = true := decide_eq_true c7; clear c7
      by_cases c8 : 0 ≤ x6_1
      ·rw [if_pos c8] at H; have a6 : decide (0 ≤ x6_1) = true := decide_eq_true c8; clear c8
       by_cases c9 : x6_1 < (x5_1.length : Int)
       ·rw [if_pos c9] at H; have a7 : decide (x6_1 < (x5_1.length : Int)) = true := decide_eq_true c9; clear c9; obtain ⟨af, ad⟩ : ∃ y_ : List Int, y_ = (x5_1.set (x6_1 : Int).toNat ((Int.tmod ac 2) % 256)) := ⟨_, rfl⟩
        replace H : (A1b.l0 k1 (IntKind.u64.wrap (Int.tdiv ac 2)) af (wrap64 (x6_1 - 1))) = some r := by first | (rw [ad]; with_reducible exact H) | (have H2_ := (Option.bind_some _ _).symm.trans H; rw [ad]; with_reducible exact H2_) | (have H2_ := (Option.bind_some _ _).symm.trans H; with_reducible exact H2_) | with_reducible exact H | (rw [ad]; exact H) | exact H
        have al := ak ad; clear ad; have H' := ak H; clear H; have ax : 0 ≤ (x6_1 : Int) := kD; have ao : (x6_1 : Int) < ((x5_1.length : Int) : Int) := kD; obtain ⟨ag, ay, am, an, gl10, cl10, HG10⟩ := Kd.R_form HO_5.out (by omega)
        (first | cases am | (injection am with ea_ en_ ec_; (first | subst ea_ | (injection ea_ with ea_; subst ea_)); subst ec_; clear en_))
        have GB10 := ak an; have GG10 := ak HG10; clear an gl10 HG10; obtain ⟨az, a2⟩ := Kd.R_celln 0 HO_5.out (x6_1 : Int) ax ao; replace ax := eq_true ax
        (try (have ah := ao; simp only [List.length_drop, List.length_take] at ah; replace ah := eq_true ah)); replace ao := eq_true ao
        have HP11 := Kd.R_putg HO_5.out (x6_1 : Int) ((Int.tmod ac 2) % 256)
        go_wp2_with (first | ((with_reducible refine gate_store (t := 5) (p := 20) rfl ?_); refine store_event (t := 5) (p := 20) (v := ?vo_w12) (w1 := (wr.setCell ⟨ag, (x6_1 : Int).toNat, none⟩ (.int .u8 ((Int.tmod ac 2) % 256)))) ?hg ?ho ?hn ?hr ?_; (case ho => rfl); (case hg => rfl); (case hn => rfl); (case hr => first | (go_simp; done) | (go_simp; rfl)); intro a3 hw; have hg : wr.grownBy a3 (some ag) := (by rw [hw]; exact HP11.2); have hp_ : Kd.R (Kd.int .u8) 5 a3 w.heap.size (fun _ => True) (.slice (some ⟨ag, 0, none⟩) x5_1.length ay) af := (by rw [hw, al.out]; exact HP11.1); clear HP11; replace HO_5 := ak (hp_); replace HB := ak ((by rw [hw]; exact A0d (HB.out) GB10.out : Below w.heap.size w a3)); clear hg hw hp_))
        go_roundg k1
        case measure => have := a5.out; omega
        case rel => exact ⟨(IntKind.u64.wrap (Int.tdiv ac 2)), (af), (wrap64 (x6_1 - 1)), kE, kE, H', ⟨by have := a5.out; omega⟩, ⟨kr HO_5⟩, ⟨(kl HB)⟩⟩
       ·rw [if_neg c9] at H
        exact absurd H (by simp)
      ·rw [if_neg c8] at H
       exact absurd H (by simp)
     ·rw [if_neg c7] at H; have aw : decide (0 ≤ x6_1) = false := decide_eq_false c7; clear c7; obtain rfl := Option.some.inj H
      go_wp2
      go_ret
      exact ⟨_, kF, by (with_reducible repeat (first | apply Kd.A1g | apply Kd.A1h | apply Kd.A1e)); exact HO_5.out, (kl HB)⟩
  ·rw [if_neg c4] at H
   exact absurd H (by simp)
 ·rw [if_neg c3] at H
  exact absurd H (by simp)
end Go.Proofs.YtiahbcaoikoogabDoor.All
