-- copied by a program of the session
import Derived.Test.YtodocfjbpkicgaaDoorKuAllx19
import Derived.Test.YtodocfjbpkicgaaDoorKuAllx30
section
namespace Go.Proofs.YtodocfjbpkicgaaDoor.All
open Go.RowKit Go.Proofs.YtodocfjbpkicgaaDoorW.PrintWords Go.Proofs.YtodocfjbpkicgaaDoorW.PrintLast Go.Proofs.YtodocfjbpkicgaaDoorW.PrintMore
attribute [local go_sem] A2g A2h A2v A2w A15 A16 A2i A2j
set_option linter.unusedVariables false
set_option linter.unusedSimpArgs false
attribute [local go_sem high] eqA42
def A0x.l0 : Nat → List (S42) → List (S42) → Int → Option (Int)
 | 0, _, _, _ => none
 | k + 1, x0, x1, x5 => if x5 < (x0.length : Int) then (if 0 ≤ x5 then (if x5 < (x1.length : Int) then (if (!(((rd_T42 x0 x5).f0) == ((rd_T42 x1 x5).f0)) || (!(((rd_T42 x0 x5).f1) == ((rd_T42 x1 x5).f1)))) = true then (some 0) else (A0x.l0 k x0 x1 (wrap64 (x5 + 1)))) else (none)) else (none)) else (some 1)
def A0x.f (k : Nat) (l0 : List (S42)) (l1 : List (S42)) : Option (Int) := if (l0.length : Int) = (l1.length : Int) then (A0x.l0 k l0 l1 0) else (some 0)
theorem A0x.A3j : ∀ k, (∀ y0 y1 y2, LeO (A0x.l0 k y0 y1 y2) (A0x.l0 (k + 1) y0 y1 y2))
 | 0 => fun _ _ _ r h => by simp [A0x.l0] at h
 | k + 1 => by
  have ih0 := A0x.A3j k <;> intros <;> (first | unfold A0x.l0) <;> (
   repeat' first
   | (with_reducible exact ih0 _ _ _)
   | (with_reducible exact LeO.refl _)
   | (with_reducible exact LeO.none _)
   | (with_reducible refine LeO.ite ?_ ?_)
   | (with_reducible refine LeO.bind ?_ (fun _ => ?_))
   | exact ih0 _ _ _
   | exact LeO.none _
   | refine LeO.ite ?_ ?_
   | refine LeO.bind ?_ (fun _ => ?_))
theorem A0x.mono : ∀ a0 a1 k, LeO (A0x.f k a0 a1) (A0x.f (k + 1) a0 a1) := by
 intro a0 a1 k
 have ih0 := A0x.A3j k
 unfold A0x.f
 repeat' first
   | (with_reducible exact ih0 _ _ _)
   | (with_reducible exact LeO.refl _)
   | (with_reducible exact LeO.none _)
   | (with_reducible refine LeO.ite ?_ ?_)
   | (with_reducible refine LeO.bind ?_ (fun _ => ?_))
   | exact ih0 _ _ _
   | exact LeO.none _
   | refine LeO.ite ?_ ?_
   | refine LeO.bind ?_ (fun _ => ?_)
set_option maxHeartbeats 8000000 in
set_option maxRecDepth 100000 in
theorem A0x.calls (k : Nat) (A0 : Option Addr) (c0 : Nat) (l0 : List (S42)) (A1 : Option Addr) (c1 : Nat) (l1 : List (S42)) (r : Int) (w : World) (hr0 : Kd.C k42 w A0 l0.length l0) (hc0 : l0.length ≤ c0) (hr1 : Kd.C k42 w A1 l1.length l1) (hc1 : l1.length ≤ c1) (h : A0x.f k l0 l1 = some r) :
  Calls Tryd.prog 16 #[.slice A0 l0.length c0, .slice A1 l1.length c1] w fun e w' => e = .returned (.int .i64 r) ∧ A1v w w' := by
 have hu42 := Tryd.underlying42; have ax := ak hr0; have a3 := ak hc0; clear hr0 hc0; have ay := ak hr1; have a4 := ak hc1; clear hr1 hc1; have H : (if (l0.length : Int) = (l1.length : Int) then (A0x.l0 k l0 l1 0) else (some 0)) = some r := h; clear h
 by_cases c3 : (l0.length : Int) = (l1.length : Int)
 ·rw [if_pos c3] at H; obtain ⟨aq, ar⟩ := kqT c3
  have au : (l0.length == l1.length) = true := by first | simpa using c3 | (simp at c3 ⊢; omega)
  clear c3; have H' := ak H; clear H
  go_enter Tryd.func16, Tryd.ntmps16
  go_wp2
  repeat ((first | go_quiet (fail) | go_region); try go_wp2)
  go_loopg [5] k (fun kq v5 w' => ∃ (x5_1 : Int), v5 = .int .i64 x5_1 ∧ A0d (A0x.l0 kq l0 l1 x5_1 = some r) ∧ A0d (kq ≤ k) ∧ A1v w w')
  case atStart => exact ⟨(0), kE, H', ⟨Nat.le_refl _⟩, by repeat (first | exact A1v.refl _ | apply A1v.step)⟩
  case round =>
   clear H'; obtain ⟨x5_1, rfl, HA, az, ⟨m1, rfl⟩⟩ := hrel
   cases gk with
   | zero => exact absurd HA.out (by simp [A0x.l0])
   | succ k1 =>
    have H := HA.out; clear HA; simp only [A0x.l0] at H
    by_cases c4 : x5_1 < (l0.length : Int)
    ·rw [if_pos c4] at H; have av : decide (x5_1 < (l0.length : Int)) = true := decide_eq_true c4; clear c4
     by_cases c5 : 0 ≤ x5_1
     ·rw [if_pos c5] at H; have a1 : decide (0 ≤ x5_1) = true := decide_eq_true c5; clear c5
      by_cases c6 : x5_1 < (l1.length : Int)
      ·rw [if_pos c6] at H; have a2 : decide (x5_1 < (l1.length : Int)) = true := decide_eq_true c6; clear c6
       by_cases c7 : (!(((rd_T42 l0 x5_1).f0) == ((rd_T42 l1 x5_1).f0)) || (!(((rd_T42 l0 x5_1).f1) == ((rd_T42 l1 x5_1).f1)))) = true
       ·rw [if_pos c7] at H; have aw : (!(((rd_T42 l0 x5_1).f0) == ((rd_T42 l1 x5_1).f0)) || (!(((rd_T42 l0 x5_1).f1) == ((rd_T42 l1 x5_1).f1)))) = true := c7; clear c7; obtain rfl := Option.some.inj H; have af : 0 ≤ (x5_1 : Int) := kD; have ad : x5_1 < (l0.length : Int) := kD; obtain ⟨ao, am, ah, ai⟩ := at_T42 ax.out x5_1 af ad
        cases am
        replace af := eq_true af
        (try (have aa := ad; simp only [List.length_drop, List.length_take] at aa; replace aa := eq_true aa)); replace ad := eq_true ad
        have ag : 0 ≤ (x5_1 : Int) := kD; have ae : x5_1 < (l1.length : Int) := kD; obtain ⟨ap, an, aj, al⟩ := at_T42 ay.out x5_1 ag ae
        cases an
        replace ag := eq_true ag
        (try (have ac := ae; simp only [List.length_drop, List.length_take] at ac; replace ac := eq_true ac)); replace ae := eq_true ae
        go_wp2
        repeat ((first | go_quiet (fail) | go_region); try go_wp2)
        go_ret
        exact ⟨by first | rfl | (simp; done) | (simp [*]; done), by repeat (first | exact A1v.refl _ | apply A1v.step)⟩
       ·rw [if_neg c7] at H
        have aw : (!(((rd_T42 l0 x5_1).f0) == ((rd_T42 l1 x5_1).f0)) || (!(((rd_T42 l0 x5_1).f1) == ((rd_T42 l1 x5_1).f1)))) = false := by simpa using c7
        clear c7; have H' := ak H; clear H; have af : 0 ≤ (x5_1 : Int) := kD; have ad : x5_1 < (l0.length : Int) := kD; obtain ⟨ao, am, ah, ai⟩ := at_T42 ax.out x5_1 af ad
        cases am
        replace af := eq_true af
        (try (have aa := ad; simp only [List.length_drop, List.length_take] at aa; replace aa := eq_true aa)); replace ad := eq_true ad
        have ag : 0 ≤ (x5_1 : Int) := kD; have ae : x5_1 < (l1.length : Int) := kD; obtain ⟨ap, an, aj, al⟩ := at_T42 ay.out x5_1 ag ae
        cases an
        replace ag := eq_true ag
        (try (have ac := ae; simp only [List.length_drop, List.length_take] at ac; replace ac := eq_true ac)); replace ae := eq_true ae
        go_wp2
        repeat ((first | go_quiet (fail) | go_region); try go_wp2)
        go_roundg k1
        case measure => have := az.out; omega
        case rel => exact ⟨(wrap64 (x5_1 + 1)), kE, H', ⟨by have := az.out; omega⟩, by repeat (first | exact A1v.refl _ | apply A1v.step)⟩
      ·rw [if_neg c6] at H
       exact absurd H (by simp)
     ·rw [if_neg c5] at H
      exact absurd H (by simp)
    ·rw [if_neg c4] at H; have av : decide (x5_1 < (l0.length : Int)) = false := decide_eq_false c4; clear c4; obtain rfl := Option.some.inj H
     go_wp2
     repeat ((first | go_quiet (fail) | go_region); try go_wp2)
     go_ret
     exact ⟨by first | rfl | (simp; done) | (simp [*]; done), by repeat (first | exact A1v.refl _ | apply A1v.step)⟩
 ·rw [if_neg c3] at H; obtain ⟨aq, ar⟩ := kqF c3
  have au : (l0.length == l1.length) = false := by first | simpa using c3 | (simp at c3 ⊢; omega)
  obtain rfl := Option.some.inj H
  go_enter Tryd.func16, Tryd.ntmps16
  go_wp2
  repeat ((first | go_quiet (fail) | go_region); try go_wp2)
  go_ret
  exact ⟨by first | rfl | (simp; done) | (simp [*]; done), by repeat (first | exact A1v.refl _ | apply A1v.step)⟩
end Go.Proofs.YtodocfjbpkicgaaDoor.All
end
section
namespace Go.Proofs.YtodocfjbpkicgaaDoor.All
open Go.RowKit Go.Proofs.YtodocfjbpkicgaaDoorW.PrintWords Go.Proofs.YtodocfjbpkicgaaDoorW.PrintLast Go.Proofs.YtodocfjbpkicgaaDoorW.PrintMore
attribute [local go_sem] A2g A2h A2v A2w A15 A16 A2i A2j
set_option linter.unusedVariables false
set_option linter.unusedSimpArgs false
def A1k.f (a0 : Int) : Option (Int) := (some (([0, 7, 9, 12, 64] : List Int) : List Int)).bind fun aa => (if 0 ≤ a0 then (if a0 < (aa.length : Int) then (some (rd aa a0)) else (none)) else (none))
set_option maxHeartbeats 8000000 in
set_option maxRecDepth 100000 in
theorem A1k.calls (a0 : Int) (r : Int) (w : World) (h : A1k.f a0 = some r) :
  Calls Tryd.prog 77 #[.int .i64 a0] w fun e w' => e = .returned (.int .i64 r) ∧ Below w.heap.size w w' := by
 have HB := ak (Below.refl w.heap.size w); have H : ((some (([0, 7, 9, 12, 64] : List Int) : List Int)).bind fun aa => (if 0 ≤ a0 then (if a0 < (aa.length : Int) then (some (rd aa a0)) else (none)) else (none))) = some r := h; clear h; obtain ⟨aa, ac⟩ : ∃ y_ : List Int, y_ = (([0, 7, 9, 12, 64] : List Int)) := ⟨_, rfl⟩
 replace H : (if 0 ≤ a0 then (if a0 < (aa.length : Int) then (some (rd aa a0)) else (none)) else (none)) = some r := by first | (rw [ac]; with_reducible exact H) | (have H2_ := (Option.bind_some _ _).symm.trans H; rw [ac]; with_reducible exact H2_) | (have H2_ := (Option.bind_some _ _).symm.trans H; with_reducible exact H2_) | with_reducible exact H | (rw [ac]; exact H) | exact H
 have af := ak ac; clear ac
 by_cases c2 : 0 ≤ a0
 ·rw [if_pos c2] at H; have am : decide (0 ≤ a0) = true := decide_eq_true c2; clear c2
  by_cases c3 : a0 < (aa.length : Int)
  ·rw [if_pos c3] at H; have an : decide (a0 < (aa.length : Int)) = true := decide_eq_true c3; clear c3; obtain rfl := Option.some.inj H
   go_enter Tryd.func77, Tryd.ntmps77
   go_wp2_with (first | ((with_reducible refine A0v (N := 3) rfl ?_); refine Kd.R_lit (Kd.int .i64) _ 3 ?hg (N := 3) ?hd (xs := ([0, 7, 9, 12, 64] : List Int)) (inner := [.int .i64 0, .int .i64 7, .int .i64 9, .int .i64 12, .int .i64 64]) (ok := fun _ => True) (okp := fun _ => True) ?hr ?hp (fun _ hk => hk) trivial (Below.refl _ _) (Nat.le_refl _) (by simp) ?_; (case hd => rfl); (case hg => rfl); (case hr => first | (go_simp; done) | (go_simp; rfl)); (case hp => exact (Reps.one (show Kd.M (Kd.int .i64) _ _ _ 0 [.int .i64 0] from rfl) (Reps.one (show Kd.M (Kd.int .i64) _ _ _ 7 [.int .i64 7] from rfl) (Reps.one (show Kd.M (Kd.int .i64) _ _ _ 9 [.int .i64 9] from rfl) (Reps.one (show Kd.M (Kd.int .i64) _ _ _ 12 [.int .i64 12] from rfl) (Reps.one (show Kd.M (Kd.int .i64) _ _ _ 64 [.int .i64 64] from rfl) (Reps.none _ _))))))); intro ao w4 ho5 hb hg_ hnew_; clear hg_ hnew_; (first | rw [← af.out] at ho5 | (simp only [Int.reduceToNat] at ho5; rw [← af.out] at ho5)); have ag := ak (Kd.A14 ho5 (A0q (kl HB))); replace HB := kH HB hb; clear hb ho5; obtain ⟨aq, ar, ap⟩ := Kd.A12 ag.out; subst ap; have ah : 0 ≤ (a0 : Int) := kD; have ae : a0 < (aa.length : Int) := kD; obtain ⟨al, aj, ai⟩ := Kd.A30 (Kd.A1a ag.out).2.2 a0 ah ae; cases aj; replace ah := eq_true ah; (try (have ad := ae; simp only [List.length_drop, List.length_take] at ad; replace ad := eq_true ad)); replace ae := eq_true ae))
   go_ret
   exact ⟨kF, (kl HB)⟩
  ·rw [if_neg c3] at H
   exact absurd H (by simp)
 ·rw [if_neg c2] at H
  exact absurd H (by simp)
def A2k.f (k : Nat) (l0 : List Int) : Option (Int) := (A0o.f k l0).bind fun aa => (if (l0.length : Int) > 0 then (if (l0.length : Int) < 64 then (if 0 < (l0.length : Int) then (if (rd l0 0) = 1 then ((some (([1] : List Int) : List Int)).bind fun ac => (if 0 ≤ (wrap64 ((l0.length : Int) - 1)) then (if ac.length + (wrap64 ((l0.length : Int) - 1) : Int).toNat < 140737488355328 then ((A0o.f k (ac ++ List.replicate (wrap64 ((l0.length : Int) - 1) : Int).toNat 0)).bind fun ad => (some (wrap64 ((wrap64 (aa)) - (wrap64 (IntKind.u64.wrap (2 * ad))))))) else (none)) else (none))) else (some (wrap64 (aa)))) else (none)) else (some (wrap64 (aa)))) else (some (wrap64 (aa))))
set_option maxHeartbeats 8000000 in
set_option maxRecDepth 100000 in
theorem A2k.calls (k : Nat) (A0 : Option Addr) (c0 : Nat) (l0 : List Int) (r : Int) (w : World) (hr0 : Kd.C (Kd.int .u8) w A0 l0.length l0) (hc0 : l0.length ≤ c0) (h : A2k.f k l0 = some r) :
  Calls Tryd.prog 78 #[.slice A0 l0.length c0] w fun e w' => e = .returned (.int .i64 r) ∧ Below w.heap.size w w' := by
 have aw := ak hr0; have a1 := ak hc0; clear hr0 hc0; have HB := ak (Below.refl w.heap.size w); have H : ((A0o.f k l0).bind fun ae => (if (l0.length : Int) > 0 then (if (l0.length : Int) < 64 then (if 0 < (l0.length : Int) then (if (rd l0 0) = 1 then ((some (([1] : List Int) : List Int)).bind fun ag => (if 0 ≤ (wrap64 ((l0.length : Int) - 1)) then (if ag.length + (wrap64 ((l0.length : Int) - 1) : Int).toNat < 140737488355328 then ((A0o.f k (ag ++ List.replicate (wrap64 ((l0.length : Int) - 1) : Int).toNat 0)).bind fun ah => (some (wrap64 ((wrap64 (ae)) - (wrap64 (IntKind.u64.wrap (2 * ah))))))) else (none)) else (none))) else (some (wrap64 (ae)))) else (none)) else (some (wrap64 (ae)))) else (some (wrap64 (ae))))) = some r := h; clear h; replace H := bkH H; obtain ⟨ae, A2, H⟩ := H
 by_cases c3 : (l0.length : Int) > 0
 ·rw [if_pos c3] at H; have a2 : decide (0 < (l0.length : Int)) = true := decide_eq_true c3; have a3 : decide (0 < l0.length) = true := decide_eq_true (by omega); clear c3
  by_cases c4 : (l0.length : Int) < 64
  ·rw [if_pos c4] at H; have a4 : decide ((l0.length : Int) < 64) = true := decide_eq_true c4; have a5 : decide (l0.length < 64) = true := decide_eq_true (by omega); clear c4
   by_cases c5 : 0 < (l0.length : Int)
   ·rw [if_pos c5] at H; have aH : decide (0 < (l0.length : Int)) = true := decide_eq_true c5; have aI : decide (0 < l0.length) = true := decide_eq_true (by omega); clear c5
    by_cases c6 : (rd l0 0) = 1
    ·rw [if_pos c6] at H; obtain ⟨a6, a7⟩ := kqT c6; clear c6; obtain ⟨ag, aj⟩ : ∃ y_ : List Int, y_ = (([1] : List Int)) := ⟨_, rfl⟩
     replace H : (if 0 ≤ (wrap64 ((l0.length : Int) - 1)) then (if ag.length + (wrap64 ((l0.length : Int) - 1) : Int).toNat < 140737488355328 then ((A0o.f k (ag ++ List.replicate (wrap64 ((l0.length : Int) - 1) : Int).toNat 0)).bind fun ah => (some (wrap64 ((wrap64 (ae)) - (wrap64 (IntKind.u64.wrap (2 * ah))))))) else (none)) else (none)) = some r := by first | (rw [aj]; with_reducible exact H) | (have H2_ := (Option.bind_some _ _).symm.trans H; rw [aj]; with_reducible exact H2_) | (have H2_ := (Option.bind_some _ _).symm.trans H; with_reducible exact H2_) | with_reducible exact H | (rw [aj]; exact H) | exact H
     have aq := ak aj; clear aj; obtain ⟨ap, an⟩ : ∃ j_ : Int, (wrap64 ((l0.length : Int) - 1)) = j_ := ⟨_, rfl⟩
     replace H : (if 0 ≤ (ap) then (if ag.length + (ap : Int).toNat < 140737488355328 then ((A0o.f k (ag ++ List.replicate (ap : Int).toNat 0)).bind fun ah => (some (wrap64 ((wrap64 (ae)) - (wrap64 (IntKind.u64.wrap (2 * ah))))))) else (none)) else (none)) = some r := by first | (rw [an] at H; exact H) | (simp only [an] at H ⊢; exact H)
     (try rw [an] at A2); have aD : (IntKind.i64.wrap ((l0.length : Int) - 1)) = ap := (A23 _).trans an
     by_cases c8 : 0 ≤ (ap)
     ·rw [if_pos c8] at H; have aJ := eq_true c8; have aK : decide (0 ≤ (ap)) = true := decide_eq_true c8; clear c8
      by_cases c9 : ag.length + (ap : Int).toNat < 140737488355328
      ·rw [if_pos c9] at H; have LMc9 := ak c9; clear c9; obtain ⟨au, al⟩ : ∃ y_ : List Int, y_ = (ag ++ List.replicate (ap : Int).toNat 0) := ⟨_, rfl⟩
       replace H : ((A0o.f k au).bind fun ah => (some (wrap64 ((wrap64 (ae)) - (wrap64 (IntKind.u64.wrap (2 * ah))))))) = some r := by first | (rw [al]; with_reducible exact H) | (have H2_ := (Option.bind_some _ _).symm.trans H; rw [al]; with_reducible exact H2_) | (have H2_ := (Option.bind_some _ _).symm.trans H; with_reducible exact H2_) | with_reducible exact H | (rw [al]; exact H) | exact H
       have ax := ak al; clear al; replace H := bkH H; obtain ⟨ah, aM, H⟩ := H; obtain rfl := Option.some.inj H
       go_enter Tryd.func78, Tryd.ntmps78
       go_wp2_with (first | ((with_reducible refine A0j (f := 45) rfl ?_); refine A1f (some 5) rfl rfl Tryd.func45 (by kernel_rfl) rfl #[.slice A0 l0.length c0] rfl km ?_; (with_reducible refine (A0o.calls k _ _ l0 ae _ ?aa ?ac A2.out).mono ?_); (case aa => repeat (first | exact aw.out | (with_reducible refine Kd.A1s ?_ _) | (with_reducible refine Kd.A1q ?_ _) | (with_reducible refine Kd.A17 ?_))); (case ac => exact a1.out); rintro e w' ⟨rfl, ⟨nd, rfl⟩⟩; refine ⟨_, rfl, ?_⟩; have am : 0 ≤ (0 : Int) := (by omega); have ai : 0 < (l0.length : Int) := kD; obtain ⟨ay, av, ad⟩ := Kd.A30 aw.out 0 am ai; cases av; have az : (0 < l0.length) = True := eq_true (by omega); (try rw [show ((0 : Int)).toNat = 0 from rfl] at ad); (try rw [Addr.add_zero'] at ad); replace am := eq_true am; (try (have af := ai; simp only [List.length_drop, List.length_take] at af; replace af := eq_true af)); replace ai := eq_true ai) | ((with_reducible refine A0v (N := 22) rfl ?_); (try (refine A3t (by rfl) ?_; dsimp only)); refine Kd.R_lit (Kd.int .u8) _ 5 ?hg (N := 22) ?hd (xs := ([1] : List Int)) (inner := [.int .u8 1]) (ok := fun _ => True) (okp := fun _ => True) ?hr ?hp (fun _ hk => hk) trivial (Below.refl _ _) (Nat.le_refl _) (by simp) ?_; (case hd => rfl); (case hg => rfl); (case hr => first | (go_simp; done) | (go_simp; rfl)); (case hp => exact (Reps.one (show Kd.M (Kd.int .u8) _ _ _ 1 [.int .u8 1] from rfl) (Reps.none _ _))); intro a8 aP ho12 hb hg_ hnew_; clear hg_ hnew_; (first | rw [← aq.out] at ho12 | (simp only [Int.reduceToNat] at ho12; rw [← aq.out] at ho12)); have ar := ak (Kd.A14 ho12 (A0q (kl HB))); replace HB := kH HB hb; clear hb ho12) | (at_builtin; refine Kd.A4a (Kd.int .u8) (w0 := w) w.heap.size rfl (.tmp 22) (.tmp 25) 22 3 5 (.int .u8 0) 1 rfl Tryd.underlying22 Tryd.underlying3 info5 rfl (by decide) (by omega) a8 ag 0 (ap : Int) (fun _ => True) rfl rfl rfl ?aF ?aO kD ?aB ?aS ?aL ?_; (case aB => exact (kl HB)); (case aF => exact (fun _ _ => trivial)); (case aO => exact (kr ar)); (case aS => exact (A0q (kl HB))); (case aL => have := LMc9.out; omega); intro aN aQ ho hb hg hat; (try simp only [Int.reduceToNat] at ho); rw [← ax.out] at ho; have aE := ak (hb); have aG := ak (ho); clear HB; clear ar; have HB := aE; have ao := aG; clear aE aG; clear ho hb hg hat; obtain ⟨a9, aA, aC⟩ := Kd.A12 ao.out; subst aC) | ((with_reducible refine A0j (f := 45) rfl ?_); refine A1f (some 27) rfl rfl Tryd.func45 (by kernel_rfl) rfl #[.slice a9 au.length aA] rfl km ?_; (with_reducible refine (A0o.calls k _ _ au ah _ ?aa ?ac aM.out).mono ?_); (case aa => repeat (first | exact (Kd.A1a ao.out).2.2 | (with_reducible refine Kd.A1s ?_ _) | (with_reducible refine Kd.A1q ?_ _) | (with_reducible refine Kd.A17 ?_))); (case ac => exact (Kd.A1a ao.out).2.1); rintro e w' ⟨rfl, ⟨nd, rfl⟩⟩; refine ⟨_, rfl, ?_⟩))
       go_ret
       exact ⟨by first | rfl | (simp [A0m, A0n] <;> rfl) | (simp only [← an]; first | rfl | (simp [A0m, A0n] <;> rfl)) | (simp [*, A0m, A0n] <;> rfl), (kl HB)⟩
      ·rw [if_neg c9] at H
       exact absurd H (by simp)
     ·rw [if_neg c8] at H
      exact absurd H (by simp)
    ·rw [if_neg c6] at H; obtain ⟨a6, a7⟩ := kqF c6; obtain rfl := Option.some.inj H
     go_enter Tryd.func78, Tryd.ntmps78
     go_wp2_with (first | ((with_reducible refine A0j (f := 45) rfl ?_); refine A1f (some 5) rfl rfl Tryd.func45 (by kernel_rfl) rfl #[.slice A0 l0.length c0] rfl km ?_; (with_reducible refine (A0o.calls k _ _ l0 ae _ ?aa ?ac A2.out).mono ?_); (case aa => repeat (first | exact aw.out | (with_reducible refine Kd.A1s ?_ _) | (with_reducible refine Kd.A1q ?_ _) | (with_reducible refine Kd.A17 ?_))); (case ac => exact a1.out); rintro e w' ⟨rfl, ⟨nd, rfl⟩⟩; refine ⟨_, rfl, ?_⟩; have am : 0 ≤ (0 : Int) := (by omega); have ai : 0 < (l0.length : Int) := kD; obtain ⟨ay, av, ad⟩ := Kd.A30 aw.out 0 am ai; cases av; have az : (0 < l0.length) = True := eq_true (by omega); (try rw [show ((0 : Int)).toNat = 0 from rfl] at ad); (try rw [Addr.add_zero'] at ad); replace am := eq_true am; (try (have af := ai; simp only [List.length_drop, List.length_take] at af; replace af := eq_true af)); replace ai := eq_true ai))
     go_ret
     exact ⟨kF, (kl HB)⟩
   ·rw [if_neg c5] at H
    exact absurd H (by simp)
  ·rw [if_neg c4] at H; have a4 : decide ((l0.length : Int) < 64) = false := decide_eq_false c4; have a5 : decide (l0.length < 64) = false := decide_eq_false (by omega); clear c4; obtain rfl := Option.some.inj H
   go_enter Tryd.func78, Tryd.ntmps78
   go_wp2_with (first | ((with_reducible refine A0j (f := 45) rfl ?_); refine A1f (some 5) rfl rfl Tryd.func45 (by kernel_rfl) rfl #[.slice A0 l0.length c0] rfl km ?_; (with_reducible refine (A0o.calls k _ _ l0 ae _ ?aa ?ac A2.out).mono ?_); (case aa => repeat (first | exact aw.out | (with_reducible refine Kd.A1s ?_ _) | (with_reducible refine Kd.A1q ?_ _) | (with_reducible refine Kd.A17 ?_))); (case ac => exact a1.out); rintro e w' ⟨rfl, ⟨nd, rfl⟩⟩; refine ⟨_, rfl, ?_⟩))
   go_ret
   exact ⟨kF, (kl HB)⟩
 ·rw [if_neg c3] at H; have a2 : decide (0 < (l0.length : Int)) = false := decide_eq_false c3; have a3 : decide (0 < l0.length) = false := decide_eq_false (by omega); clear c3; obtain rfl := Option.some.inj H
  go_enter Tryd.func78, Tryd.ntmps78
  go_wp2_with (first | ((with_reducible refine A0j (f := 45) rfl ?_); refine A1f (some 5) rfl rfl Tryd.func45 (by kernel_rfl) rfl #[.slice A0 l0.length c0] rfl km ?_; (with_reducible refine (A0o.calls k _ _ l0 ae _ ?aa ?ac A2.out).mono ?_); (case aa => repeat (first | exact aw.out | (with_reducible refine Kd.A1s ?_ _) | (with_reducible refine Kd.A1q ?_ _) | (with_reducible refine Kd.A17 ?_))); (case ac => exact a1.out); rintro e w' ⟨rfl, ⟨nd, rfl⟩⟩; refine ⟨_, rfl, ?_⟩))
  go_ret
  exact ⟨kF, (kl HB)⟩
def A2l.f (l0 : List Int) (l1 : List Int) : Option (Bool) := if (l0.length : Int) ≥ (l1.length : Int) then (if 0 ≤ (mn (l0.length : Int) (l1.length : Int)) then (if (mn (l0.length : Int) (l1.length : Int)) ≤ (l0.length : Int) then (some ((strOfNums (l0.take ((mn (l0.length : Int) (l1.length : Int)) : Int).toNat)).toList == (strOfNums l1).toList)) else (none)) else (none)) else (some false)
set_option maxHeartbeats 8000000 in
set_option maxRecDepth 100000 in
theorem A2l.calls (A0 : Option Addr) (c0 : Nat) (l0 : List Int) (A1 : Option Addr) (c1 : Nat) (l1 : List Int) (r : Bool) (w : World) (hr0 : Kd.C (Kd.int .u8) w A0 l0.length l0) (hc0 : l0.length ≤ c0) (hr1 : Kd.C (Kd.int .u8) w A1 l1.length l1) (hc1 : l1.length ≤ c1) (h : A2l.f l0 l1 = some r) :
  Calls Tryd.prog 79 #[.slice A0 l0.length c0, .slice A1 l1.length c1] w fun e w' => e = .returned (.bool r) ∧ Below w.heap.size w w' := by
 have au := ak hr0; have av := ak hc0; clear hr0 hc0; have ai := ak hr1; have a1 := ak hc1; clear hr1 hc1; have HB := ak (Below.refl w.heap.size w); have H : (if (l0.length : Int) ≥ (l1.length : Int) then (if 0 ≤ (mn (l0.length : Int) (l1.length : Int)) then (if (mn (l0.length : Int) (l1.length : Int)) ≤ (l0.length : Int) then (some ((strOfNums (l0.take ((mn (l0.length : Int) (l1.length : Int)) : Int).toNat)).toList == (strOfNums l1).toList)) else (none)) else (none)) else (some false)) = some r := h; clear h
 by_cases c3 : (l0.length : Int) ≥ (l1.length : Int)
 ·rw [if_pos c3] at H; have aj : decide ((l1.length : Int) ≤ (l0.length : Int)) = true := decide_eq_true c3; have al : decide (l1.length ≤ l0.length) = true := decide_eq_true (Int.ofNat_le.mp c3); clear c3; obtain ⟨aa, ac⟩ : ∃ j_ : Int, (mn (l0.length : Int) (l1.length : Int)) = j_ := ⟨_, rfl⟩
  replace H : (if 0 ≤ (aa) then (if (aa) ≤ (l0.length : Int) then (some ((strOfNums (l0.take ((aa) : Int).toNat)).toList == (strOfNums l1).toList)) else (none)) else (none)) = some r := by first | (rw [ac] at H; exact H) | (simp only [ac] at H ⊢; exact H)
  (try (have am : 0 ≤ aa := by (rw [← ac]; unfold mn; (repeat' split) <;> omega))); (try (have an : 0 ≤ aa := by omega)); have ae : (if (l1.length : Int) < (l0.length : Int) then (l1.length : Int) else (l0.length : Int)) = aa := ac; (try (have af := ae; simp only [Int.ofNat_lt] at af))
  by_cases c5 : 0 ≤ (aa)
  ·rw [if_pos c5] at H; have aw := eq_true c5; have ax : decide (0 ≤ (aa)) = true := decide_eq_true c5; clear c5
   by_cases c6 : (aa) ≤ (l0.length : Int)
   ·rw [if_pos c6] at H; have ay := eq_true c6; have az : decide ((aa) ≤ (l0.length : Int)) = true := decide_eq_true c6; clear c6; obtain rfl := Option.some.inj H; obtain ⟨a2, ag, _, ah, _⟩ := info_parts info5; obtain ⟨ao, ap, aq⟩ := print_take_of (P := Tryd.prog) (Value.int .u8) 0 22 5 .i64 Tryd.underlying22 ag ah A0 c0 l0 (aa) kD kD av.out; have ad := ak (Kd.A2o (h1 := fun _ => rfl) (ap _ (Kd.A2p au.out))); have ar := ak aq; clear ap aq ag ah; have hcv8 := Kd.C_string (P := Tryd.prog) (A := A0) (c := c0) Tryd.underlying22 Tryd.underlying5 Tryd.underlying9 ad.out
    have hcv8d := fun (m_ : Nat) => Kd.C_string (P := Tryd.prog) (A := A0) (c := c0) Tryd.underlying22 Tryd.underlying5 Tryd.underlying9 (Kd.A1q ad.out m_)
    (try (have hcv8e := Kd.C_string (P := Tryd.prog) (A := A0) (c := c0) Tryd.underlying22 Tryd.underlying5 Tryd.underlying9 (Kd.A17 ad.out))); (try (have hle_ : aa ≤ (l0.length : Int) := kD; have hln_ : (l0.take (aa : Int).toNat).length = (aa : Int).toNat := (by rw [List.length_take]; omega); (try (have hcv8t := hcv8; rw [hln_] at hcv8t)); (try (have hcv8u := hcv8e; rw [hln_] at hcv8u)); clear hle_ hln_)); have hcv9 := Kd.C_string (P := Tryd.prog) (A := A1) (c := c1) Tryd.underlying22 Tryd.underlying5 Tryd.underlying9 ai.out
    have hcv9d := fun (m_ : Nat) => Kd.C_string (P := Tryd.prog) (A := A1) (c := c1) Tryd.underlying22 Tryd.underlying5 Tryd.underlying9 (Kd.A1q ai.out m_)
    (try (have hcv9e := Kd.C_string (P := Tryd.prog) (A := A1) (c := c1) Tryd.underlying22 Tryd.underlying5 Tryd.underlying9 (Kd.A17 ai.out)))
    go_enter Tryd.func79, Tryd.ntmps79
    go_wp2
    repeat ((first | go_quiet (fail) | go_region); try go_wp2)
    go_ret
    exact ⟨by first | rfl | (simp [A0m, A0n] <;> rfl) | (simp only [← ac]; first | rfl | (simp [A0m, A0n] <;> rfl)) | (simp [*, A0m, A0n] <;> rfl), (kl HB)⟩
   ·rw [if_neg c6] at H
    exact absurd H (by simp)
  ·rw [if_neg c5] at H
   exact absurd H (by simp)
 ·rw [if_neg c3] at H; have aj : decide ((l1.length : Int) ≤ (l0.length : Int)) = false := decide_eq_false c3; have al : decide (l1.length ≤ l0.length) = false := decide_eq_false (fun h => c3 (Int.ofNat_le.mpr h)); clear c3; obtain rfl := Option.some.inj H
  go_enter Tryd.func79, Tryd.ntmps79
  go_wp2
  repeat ((first | go_quiet (fail) | go_region); try go_wp2)
  go_ret
  exact ⟨kF, (kl HB)⟩
def A1y.l0 : Nat → Int → Int → Int → Int → Option (Bool)
 | 0, _, _, _, _ => none
 | k + 1, x0, x1, x5, x6 => if x6 < x1 then (A1y.l0 k x0 x1 (wrap64 (2 * x5)) (wrap64 (x6 + 1))) else (if x0 ≥ (wrap64 (-x5)) then (some (decide (x0 ≤ (wrap64 (x5 - 1))))) else (some false))
def A1y.f (k : Nat) (a0 : Int) (a1 : Int) : Option (Bool) := A1y.l0 k a0 a1 1 1
set_option maxHeartbeats 8000000 in
set_option maxRecDepth 100000 in
theorem A1y.calls (k : Nat) (a0 : Int) (a1 : Int) (r : Bool) (w : World) (h : A1y.f k a0 a1 = some r) :
  Calls Tryd.prog 119 #[.int .i64 a0, .int .i64 a1] w fun e w' => e = .returned (.bool r) ∧ A1v w w' := by
 have H : (A1y.l0 k a0 a1 1 1) = some r := h; clear h; have H' := ak H; clear H
 go_enter Tryd.func119, Tryd.ntmps119
 go_wp2
 go_loopg [5, 6] k (fun kq v5 v6 w' => ∃ (x5_1 : Int) (x6_1 : Int), v5 = .int .i64 x5_1 ∧ v6 = .int .i64 x6_1 ∧ A0d (A1y.l0 kq a0 a1 x5_1 x6_1 = some r) ∧ A0d (kq ≤ k) ∧ A1v w w')
 case atStart => exact ⟨(1), (1), kE, kE, H', ⟨Nat.le_refl _⟩, by repeat (first | exact A1v.refl _ | apply A1v.step)⟩
 case round =>
  clear H'; obtain ⟨x5_1, x6_1, rfl, rfl, HA, ad, ⟨m1, rfl⟩⟩ := hrel
  cases gk with
  | zero => exact absurd HA.out (by simp [A1y.l0])
  | succ k1 =>
   have H := HA.out; clear HA; simp only [A1y.l0] at H
   by_cases c3 : x6_1 < a1
   ·rw [if_pos c3] at H; have aa : decide (x6_1 < a1) = true := decide_eq_true c3; clear c3; have H' := ak H; clear H
    go_wp2
    go_roundg k1
    case measure => have := ad.out; omega
    case rel => exact ⟨(wrap64 (2 * x5_1)), (wrap64 (x6_1 + 1)), kE, kE, H', ⟨by have := ad.out; omega⟩, by repeat (first | exact A1v.refl _ | apply A1v.step)⟩
   ·rw [if_neg c3] at H; have aa : decide (x6_1 < a1) = false := decide_eq_false c3; clear c3
    by_cases c4 : a0 ≥ (wrap64 (-x5_1))
    ·rw [if_pos c4] at H; have ac : decide ((wrap64 (-x5_1)) ≤ a0) = true := decide_eq_true c4; clear c4; obtain rfl := Option.some.inj H
     go_wp2
     go_ret
     exact ⟨by first | rfl | (simp; done) | (simp [*]; done), by repeat (first | exact A1v.refl _ | apply A1v.step)⟩
    ·rw [if_neg c4] at H; have ac : decide ((wrap64 (-x5_1)) ≤ a0) = false := decide_eq_false c4; clear c4; obtain rfl := Option.some.inj H
     go_wp2
     go_ret
     exact ⟨by first | rfl | (simp; done) | (simp [*]; done), by repeat (first | exact A1v.refl _ | apply A1v.step)⟩
def A1m.l0 : Nat → Int → Int → Option (Int)
 | 0, _, _ => none
 | k + 1, x0, x3 => if x3 < 4 then ((A1k.f x3).bind fun aa => ((A1y.f k x0 aa).bind fun ac => (if ac = true then (some x3) else (A1m.l0 k x0 (wrap64 (x3 + 1)))))) else (some 4)
def A1m.f (k : Nat) (a0 : Int) : Option (Int) := if a0 = 0 then (some 0) else (A1m.l0 k a0 1)
set_option maxHeartbeats 8000000 in
set_option maxRecDepth 100000 in
theorem A1m.calls (k : Nat) (a0 : Int) (r : Int) (w : World) (h : A1m.f k a0 = some r) :
  Calls Tryd.prog 105 #[.int .i64 a0] w fun e w' => e = .returned (.int .i64 r) ∧ Below w.heap.size w w' := by
 have HB := ak (Below.refl w.heap.size w); have H : (if a0 = 0 then (some 0) else (A1m.l0 k a0 1)) = some r := h; clear h
 by_cases c2 : a0 = 0
 ·rw [if_pos c2] at H; obtain ⟨ad, ae⟩ := kqT c2; clear c2; obtain rfl := Option.some.inj H
  go_enter Tryd.func105, Tryd.ntmps105
  go_wp2
  go_ret
  exact ⟨kF, (kl HB)⟩
 ·rw [if_neg c2] at H; obtain ⟨ad, ae⟩ := kqF c2; have H' := ak H; clear H
  go_enter Tryd.func105, Tryd.ntmps105
  go_wp2
  go_loopg [3] k (fun kq v3 w' => ∃ (aa : Int), v3 = .int .i64 aa ∧ A0d (A1m.l0 kq a0 aa = some r) ∧ A0d (kq ≤ k) ∧ A0d (Below w.heap.size w w'))
  case atStart => exact ⟨(1), kE, H', ⟨Nat.le_refl _⟩, ⟨(kl HB)⟩⟩
  case round =>
   clear H'; obtain ⟨aa, rfl, HA, ah, HB⟩ := hrel
   cases gk with
   | zero => exact absurd HA.out (by simp [A1m.l0])
   | succ k1 =>
    have H := HA.out; clear HA; simp only [A1m.l0] at H
    by_cases c3 : aa < 4
    ·rw [if_pos c3] at H; have af : decide (aa < 4) = true := decide_eq_true c3; clear c3; replace H := bkH H; obtain ⟨ac, A4, H⟩ := H; replace H := bkH H; obtain ⟨ag, A5, H⟩ := H
     by_cases c6 : ag = true
     ·subst c6
      rw [if_pos rfl] at H; obtain rfl := Option.some.inj H
      go_wp2_with (first | ((with_reducible refine A0j (f := 77) rfl ?_); refine A1f (some 13) rfl rfl Tryd.func77 (by kernel_rfl) rfl #[.int .i64 aa] rfl km ?_; (with_reducible refine (A1k.calls aa ac _ A4.out).mono ?_); rintro e w7 ⟨rfl, hb⟩; refine ⟨_, rfl, ?_⟩; replace HB := kH HB hb; ) | ((with_reducible refine A0j (f := 119) rfl ?_); refine A1f (some 14) rfl rfl Tryd.func119 (by kernel_rfl) rfl #[.int .i64 a0, .int .i64 ac] rfl km ?_; (with_reducible refine (A1y.calls k1 a0 ac true _ A5.out).mono ?_); rintro e w' ⟨rfl, ⟨nd, rfl⟩⟩; refine ⟨_, rfl, ?_⟩))
      go_ret
      exact ⟨kF, (kl HB)⟩
     ·replace c6 := Bool.eq_false_iff.mpr c6; subst c6
      rw [if_neg (show ¬ (false = true) by decide)] at H; have H' := ak H; clear H
      go_wp2_with (first | ((with_reducible refine A0j (f := 77) rfl ?_); refine A1f (some 13) rfl rfl Tryd.func77 (by kernel_rfl) rfl #[.int .i64 aa] rfl km ?_; (with_reducible refine (A1k.calls aa ac _ A4.out).mono ?_); rintro e w8 ⟨rfl, hb⟩; refine ⟨_, rfl, ?_⟩; replace HB := kH HB hb; ) | ((with_reducible refine A0j (f := 119) rfl ?_); refine A1f (some 14) rfl rfl Tryd.func119 (by kernel_rfl) rfl #[.int .i64 a0, .int .i64 ac] rfl km ?_; (with_reducible refine (A1y.calls k1 a0 ac false _ A5.out).mono ?_); rintro e w' ⟨rfl, ⟨nd, rfl⟩⟩; refine ⟨_, rfl, ?_⟩))
      go_roundg k1
      case measure => have := ah.out; omega
      case rel => exact ⟨(wrap64 (aa + 1)), kE, H', ⟨by have := ah.out; omega⟩, ⟨(kl HB)⟩⟩
    ·rw [if_neg c3] at H; have af : decide (aa < 4) = false := decide_eq_false c3; clear c3; obtain rfl := Option.some.inj H
     go_wp2
     go_ret
     exact ⟨kF, (kl HB)⟩
def A08.l0 : Nat → Int → List Int → Int → Option (List Int)
 | 0, _, _, _ => none
 | k + 1, x0, x5, x6 => if x6 ≥ 0 then (if 0 ≤ x6 then (if x6 < (x5.length : Int) then (A08.l0 k (IntKind.u64.wrap (Int.tdiv x0 2)) (x5.set (x6 : Int).toNat ((Int.tmod x0 2) % 256)) (wrap64 (x6 - 1))) else (none)) else (none)) else (some x5)
def A08.f (k : Nat) (a0 : Int) (a1 : Int) : Option (List Int) := if 0 ≤ a1 then (if (a1 : Int).toNat ≤ 281474976710656 then (A08.l0 k a0 (List.replicate (a1 : Int).toNat 0) (wrap64 (a1 - 1))) else (none)) else (none)
set_option maxHeartbeats 8000000 in
set_option maxRecDepth 100000 in
theorem A08.calls (k : Nat) (a0 : Int) (a1 : Int) (r : List Int) (w : World) (h : A08.f k a0 a1 = some r) :
  Calls Tryd.prog 106 #[.int .u64 a0, .int .i64 a1] w fun e w' => ∃ ay : Value, e = .returned (ay) ∧ Kd.R (Kd.int .u8) 5 w' w.heap.size (fun _ => True) ay r ∧ Below w.heap.size w w' := by
 have HB := ak (Below.refl w.heap.size w); have H : (if 0 ≤ a1 then (if (a1 : Int).toNat ≤ 281474976710656 then (A08.l0 k a0 (List.replicate (a1 : Int).toNat 0) (wrap64 (a1 - 1))) else (none)) else (none)) = some r := h; clear h
 by_cases c3 : 0 ≤ a1
 ·rw [if_pos c3] at H; have a2 := eq_true c3; have a3 : decide (0 ≤ a1) = true := decide_eq_true c3; clear c3
  by_cases c4 : (a1 : Int).toNat ≤ 281474976710656
  ·rw [if_pos c4] at H; have a4 := eq_true c4; have a5 : decide ((a1 : Int).toNat ≤ 281474976710656) = true := decide_eq_true c4; clear c4; obtain ⟨ai, aa⟩ : ∃ y_ : List Int, y_ = (List.replicate (a1 : Int).toNat 0) := ⟨_, rfl⟩
   replace H : (A08.l0 k a0 ai (wrap64 (a1 - 1))) = some r := by first | (rw [aa]; with_reducible exact H) | (have H2_ := (Option.bind_some _ _).symm.trans H; rw [aa]; with_reducible exact H2_) | (have H2_ := (Option.bind_some _ _).symm.trans H; with_reducible exact H2_) | with_reducible exact H | (rw [aa]; exact H) | exact H
   have ae := ak aa; clear aa; have H' := ak H; clear H
   go_enter Tryd.func106, Tryd.ntmps106
   go_wp2_with (first | ((with_reducible refine A0v (N := 8) rfl ?_); refine Kd.R_make (Kd.int .u8) _ 5 rfl (N := 8) rfl 22 _ _ rfl a1 rfl rfl Tryd.underlying22 (.int .u8 0) 1 info5 rfl (by decide) (by omega) 0 (ok := fun _ => True) (okp := fun _ => True) rfl (fun _ hk => hk) trivial kD (Nat.le_trans (Nat.mul_le_mul_right _ (kD : a1.toNat ≤ 281474976710656)) (by omega)) (Below.refl _ _) (Nat.le_refl _) ?_; intro ap w5 ho6 hb hg_ hnew_; clear hg_ hnew_; (first | rw [← ae.out] at ho6 | (simp only [Int.reduceToNat] at ho6; rw [← ae.out] at ho6)); have aj := ak (Kd.A14 ho6 (A0q (kl HB))); replace HB := kH HB hb; clear hb ho6))
   go_loopg [0, 6] k (fun kq v0 v6 w' => ∃ (ac : Int) (x5_1 : List Int) (x6_1 : Int), v0 = .int .u64 ac ∧ v6 = .int .i64 x6_1 ∧ A0d (A08.l0 kq ac x5_1 x6_1 = some r) ∧ A0d (kq ≤ k) ∧ A0d (Kd.R (Kd.int .u8) 5 w' w.heap.size (fun _ => True) ap x5_1) ∧ A0d (Below w.heap.size w w'))
   case atStart => exact ⟨(a0), (ai), (wrap64 (a1 - 1)), kE, kE, H', ⟨Nat.le_refl _⟩, ⟨kr aj⟩, ⟨(kl HB)⟩⟩
   case round =>
    clear H'; obtain ⟨ac, x5_1, x6_1, rfl, rfl, HA, az, HO_5, HB⟩ := hrel
    cases gk with
    | zero => exact absurd HA.out (by simp [A08.l0])
    | succ k1 =>
     have H := HA.out; clear HA; simp only [A08.l0] at H
     by_cases c7 : x6_1 ≥ 0
     ·rw [if_pos c7] at H; have aq : decide (0 ≤ x6_1) = true := decide_eq_true c7; clear c7
      by_cases c8 : 0 ≤ x6_1
      ·rw [if_pos c8] at H; have a6 : decide (0 ≤ x6_1) = true := decide_eq_true c8; clear c8
       by_cases c9 : x6_1 < (x5_1.length : Int)
       ·rw [if_pos c9] at H; have a7 : decide (x6_1 < (x5_1.length : Int)) = true := decide_eq_true c9; clear c9; obtain ⟨af, ad⟩ : ∃ y_ : List Int, y_ = (x5_1.set (x6_1 : Int).toNat ((Int.tmod ac 2) % 256)) := ⟨_, rfl⟩
        replace H : (A08.l0 k1 (IntKind.u64.wrap (Int.tdiv ac 2)) af (wrap64 (x6_1 - 1))) = some r := by first | (rw [ad]; with_reducible exact H) | (have H2_ := (Option.bind_some _ _).symm.trans H; rw [ad]; with_reducible exact H2_) | (have H2_ := (Option.bind_some _ _).symm.trans H; with_reducible exact H2_) | with_reducible exact H | (rw [ad]; exact H) | exact H
        have al := ak ad; clear ad; have H' := ak H; clear H; have ar : 0 ≤ (x6_1 : Int) := kD; have ao : (x6_1 : Int) < ((x5_1.length : Int) : Int) := kD; obtain ⟨ag, au, am, an, gl10, cl10, HG10⟩ := Kd.R_form HO_5.out (by omega)
        (first | cases am | (injection am with ea_ en_ ec_; (first | subst ea_ | (injection ea_ with ea_; subst ea_)); subst ec_; clear en_))
        have GB10 := ak an; have GG10 := ak HG10; clear an gl10 HG10; obtain ⟨av, aw⟩ := Kd.R_celln 0 HO_5.out (x6_1 : Int) ar ao; replace ar := eq_true ar
        (try (have ah := ao; simp only [List.length_drop, List.length_take] at ah; replace ah := eq_true ah)); replace ao := eq_true ao
        have HP11 := Kd.R_putg HO_5.out (x6_1 : Int) ((Int.tmod ac 2) % 256)
        go_wp2_with (first | ((with_reducible refine gate_store (t := 5) (p := 20) rfl ?_); refine store_event (t := 5) (p := 20) (v := ?vo_w12) (w1 := (wr.setCell ⟨ag, (x6_1 : Int).toNat, none⟩ (.int .u8 ((Int.tmod ac 2) % 256)))) ?hg ?ho ?hn ?hr ?_; (case ho => rfl); (case hg => rfl); (case hn => rfl); (case hr => first | (go_simp; done) | (go_simp; rfl)); intro ax hw; have hg : wr.grownBy ax (some ag) := (by rw [hw]; exact HP11.2); have hp_ : Kd.R (Kd.int .u8) 5 ax w.heap.size (fun _ => True) (.slice (some ⟨ag, 0, none⟩) x5_1.length au) af := (by rw [hw, al.out]; exact HP11.1); clear HP11; replace HO_5 := ak (hp_); replace HB := ak ((by rw [hw]; exact A09 (HB.out) GB10.out : Below w.heap.size w ax)); clear hg hw hp_))
        go_roundg k1
        case measure => have := az.out; omega
        case rel => exact ⟨(IntKind.u64.wrap (Int.tdiv ac 2)), (af), (wrap64 (x6_1 - 1)), kE, kE, H', ⟨by have := az.out; omega⟩, ⟨kr HO_5⟩, ⟨(kl HB)⟩⟩
       ·rw [if_neg c9] at H
        exact absurd H (by simp)
      ·rw [if_neg c8] at H
       exact absurd H (by simp)
     ·rw [if_neg c7] at H; have aq : decide (0 ≤ x6_1) = false := decide_eq_false c7; clear c7; obtain rfl := Option.some.inj H
      go_wp2
      go_ret
      exact ⟨_, kF, by (with_reducible repeat (first | apply Kd.A1c | apply Kd.A1d | apply Kd.A06)); exact HO_5.out, (kl HB)⟩
  ·rw [if_neg c4] at H
   exact absurd H (by simp)
 ·rw [if_neg c3] at H
  exact absurd H (by simp)
def A1x.f (ac : Int) (a0_1 : Int) (ad : Int) (ae : Int) (af : Int) (ag : Int) (ah : Int) (ai : Int) : Option (Int × Int × Int × Int × Int × Int × Int × Int) := (A3s.f ag ah ai).bind fun aa => (some (ac, a0_1, ad, ae, af, aa.1, aa.2.1, aa.2.2))
def A1x.T1 : Bool × List (List Nat × List Nat) := (true, [([], []), ([0], [0]), ([], []), ([2], [2]), ([], []), ([4], [4]), ([], []), ([6], [6]), ([], []), ([8], [8]), ([], []), ([10], [10]), ([11], [11]), ([1, 3, 5, 7, 9, 12], [1, 3, 5, 7, 9, 12]), ([13, 12, 0, 1, 2, 3, 4, 5, 6, 7, 8, 9, 10, 11, 12, 13], [13])])
def A1x.B1 : List Nat := [0, 1, 0, 4, 0, 16, 0, 64, 0, 256, 0, 1024, 3072, 8191, 16383]
theorem A1x.tab1 : rtab .any (opsOf Tryd.f17 1) = A1x.T1 := by kernel_rfl
theorem A1x.bits1 : A3f A1x.T1.2 A1x.B1 = true := by kernel_rfl
set_option maxHeartbeats 8000000 in
set_option maxRecDepth 100000 in
theorem A1x.calls (ai : Int) (a0_1 : Int) (aj : Int) (al : Int) (am : Int) (af : Int) (ag : Int) (ah : Int) (r1 : Int) (r2 : Int) (r3 : Int) (r4 : Int) (r5 : Int) (r6 : Int) (r7 : Int) (r8 : Int) (w : World) (h : A1x.f ai a0_1 aj al am af ag ah = some (r1, r2, r3, r4, r5, r6, r7, r8)) :
  Calls Tryd.prog 17 #[.agg #[.int .i64 ai, .int .i64 a0_1, .int .i64 aj, .int .u64 al, .int .u64 am, .int .u64 af, .int .i64 ag, .int .i64 ah]] w fun e w' => e = .returned (.agg #[.int .i64 r1, .int .i64 r2, .int .i64 r3, .int .u64 r4, .int .u64 r5, .int .u64 r6, .int .i64 r7, .int .i64 r8]) ∧ Below w.heap.size w w' := by
 have hu32 := Tryd.underlying32; have hu35 := Tryd.underlying35; have hu30 := Tryd.underlying30; have HB := ak (Below.refl w.heap.size w); have H : ((A3s.f af ag ah).bind fun ap => (some (ai, a0_1, aj, al, am, ap.1, ap.2.1, ap.2.2))) = some (r1, r2, r3, r4, r5, r6, r7, r8) := h; clear h; replace H := bkH H; obtain ⟨⟨aq, ar, au⟩, A2, H⟩ := H; (try dsimp only at H); simp only [Option.some.injEq, Prod.mk.injEq] at H; obtain ⟨rfl, rfl, rfl, rfl, rfl, rfl, rfl, rfl⟩ := H
 go_enter Tryd.func17, Tryd.ntmps17
 try go_wp2_with (first | ((with_reducible refine A0v (N := 1) rfl ?_); refine bxe 1 #[.int .i64 ai, .int .i64 a0_1, .int .i64 aj, .int .u64 al, .int .u64 am, .int .u64 af, .int .i64 ag, .int .i64 ah] 32 (h := ?_); intro ad hg w3 hbox hb; have ae := ak (hbox); have ax := kG hg HB; have ay := kG hg HB; replace HB := kH HB hb; clear hb hbox hg) | ((with_reducible refine A0v (N := 2) rfl ?_); refine bxe 2 #[.int .i64 0, .int .i64 0, .int .i64 0, .int .u64 0, .int .u64 0, .int .u64 0, .int .i64 0, .int .i64 0] 35 (h := ?_); intro ac hg w4 hbox hb; have aa := ak (hbox); have az := kG hg HB; have a1 := kG hg HB; replace HB := kH HB hb; obtain ⟨an, ao⟩ := kN hg ae; replace ae := kB ae hb; clear hb hbox hg))
 replace ae := ak (A0i ae.out); replace aa := ak (A0i aa.out); replace HB := ak (A0p HB.out)
 refine A2a (n := 15) (S := fun w' => w'.cell? ⟨ad, 0, none⟩ = some (.int .i64 ai) ∧ w'.cell? ⟨ad, 1, none⟩ = some (.int .i64 a0_1) ∧ w'.cell? ⟨ad, 2, none⟩ = some (.int .i64 aj) ∧ w'.cell? ⟨ad, 3, none⟩ = some (.int .u64 al) ∧ w'.cell? ⟨ad, 4, none⟩ = some (.int .u64 am) ∧ w'.cell? ⟨ad, 5, none⟩ = some (.int .u64 af) ∧ w'.cell? ⟨ad, 6, none⟩ = some (.int .i64 ag) ∧ w'.cell? ⟨ad, 7, none⟩ = some (.int .i64 ah)) (ds := []) (bl 15 0) (by kernel_rfl) rfl rfl kz (fun hHeld => ?_); refine A11 A1x.tab1 A1x.bits1 (fun HT_ HW_ => ?_)
 generalize w4.drew = w5 at ae aa HB hHeld ⊢; refine pu 0 (some 3) (bl 15 1) (h := ?_); refine pu 2 (some 5) (bl 15 5) (h := ?_); refine pu 4 (some 7) (bl 15 21) (h := ?_); refine pu 6 (some 9) (bl 15 85) (h := ?_); refine pu 8 (some 11) (bl 15 341) (h := ?_); refine pu 10 (some 13) (bl 15 1365) (h := ?_); refine ta 1 (some 4) (bl 15 1367) (h := ?_); refine ta 3 (some 6) (bl 15 1375) (h := ?_); refine ta 5 (some 8) (bl 15 1407) (h := ?_); refine ta 7 (some 10) (bl 15 1535) (h := ?_); refine ta 9 (some 12) (bl 15 2047) (h := ?_); refine ta 11 (some 14) (bl 15 4095) (h := ?_); refine one_ (i := 12) (N := some 15) (bl 15 8191) rfl rfl (A1z HT_.out (by kernel_rfl)) (by decide) (fun K hK => ?_); refine A3u Tryd.func49 (by kernel_rfl) rfl #[.agg #[.int .u64 af, .int .i64 ag, .int .i64 ah]] (by rfl) rfl rfl km ?_
 with_reducible refine (A3s.calls af ag ah aq ar au _ A2.out).mono ?_
 rintro e w6 ⟨rfl, hb⟩; refine ⟨_, rfl, ?_⟩; replace ae := kB ae hb; replace aa := kB aa hb; replace HB := kH HB hb; refine hK.out _ _ kz (fun hHeld => ?_); clear hK K; refine nm (some 15) (h := ?_)
 refine pu 13 (some 16) (bl 15 16383) (h := ?_); refine one_ (i := 14) (N := none) (bl 15 32767) rfl rfl (A1z HT_.out (by kernel_rfl)) (by decide) (fun K hK => ?_); have aF : w6.cell? ⟨ac, 0, none⟩ = some (.int .i64 0) := (A05 aa.out 0).trans rfl; have a7 := A0c aa.out 0; have av := an.out; have aw := ao.out; have aG : w6.cell? ⟨ac, 1, none⟩ = some (.int .i64 0) := (A05 aa.out 1).trans rfl; have a8 := A0c aa.out 1; have aH : w6.cell? ⟨ac, 2, none⟩ = some (.int .i64 0) := (A05 aa.out 2).trans rfl; have a9 := A0c aa.out 2; have aA : w6.cell? ⟨ac, 3, none⟩ = some (.int .u64 0) := (A05 aa.out 3).trans rfl; have a2 := A0c aa.out 3; have aB : w6.cell? ⟨ac, 4, none⟩ = some (.int .u64 0) := (A05 aa.out 4).trans rfl; have a3 := A0c aa.out 4; have aC : w6.cell? ⟨ac, 5, none⟩ = some (.int .u64 0) := (A05 aa.out 5).trans rfl; have a4 := A0c aa.out 5; have aD : w6.cell? ⟨ac, 6, none⟩ = some (.int .i64 0) := (A05 aa.out 6).trans rfl; have a5 := A0c aa.out 6; have aE : w6.cell? ⟨ac, 7, none⟩ = some (.int .i64 0) := (A05 aa.out 7).trans rfl; have a6 := A0c aa.out 7; refine A28 (w1 := ?_) (by rfl) rfl ?_ ?_
 rotate_left
 ·go_simp
  rfl
 refine hK.out _ _ (ks hHeld) (fun hHeld => ?_); clear hK K; refine A2z (A2r HT_.out (by kernel_rfl)) ?_
 try go_wp2
 refine bodyPost_ret (results_cell_row rfl _ _ ac 35 #[.int .i64 ai, .int .i64 a0_1, .int .i64 aj, .int .u64 al, .int .u64 am, .int .u64 aq, .int .i64 ar, .int .i64 au] (0, 0) _ rfl (kb aa) Tryd.underlying35 rfl (by kernel_rfl)) rfl ?_
 exact ⟨kF, (kl HB)⟩
end Go.Proofs.YtodocfjbpkicgaaDoor.All
end
