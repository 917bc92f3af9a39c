-- copied by a program of the session
import Derived.Test.YtiahbcaoikoogaaDoorKtAllx16
import Derived.Test.YtiahbcaoikoogaaDoorKtAllx30
namespace Go.Proofs.YtiahbcaoikoogaaDoor.All
open Go.RowKit Go.Proofs.YtiahbcaoikoogaaDoorW.PrintWords Go.Proofs.YtiahbcaoikoogaaDoorW.PrintLast Go.Proofs.YtiahbcaoikoogaaDoorW.PrintMore
attribute [local go_sem] A2f A2g A2w A2x A18 A19 A2h A2i
set_option linter.unusedVariables false
set_option linter.unusedSimpArgs false
def A2m.f (k : Nat) (l0 : List Int) : Option (Int) := (A0o.f k l0).bind fun aa => (if (l0.length : Int) > 0 then (if (l0.length : Int) < 64 then (if 0 < (l0.length : Int) then (if (rd l0 0) = 1 then ((some (([1] : List Int) : List Int)).bind fun ac => (if 0 ≤ (wrap64 ((l0.length : Int) - 1)) then (if ac.length + (wrap64 ((l0.length : Int) - 1) : Int).toNat < 140737488355328 then ((A0o.f k (ac ++ List.replicate (wrap64 ((l0.length : Int) - 1) : Int).toNat 0)).bind fun ad => (some (wrap64 ((wrap64 (aa)) - (wrap64 (IntKind.u64.wrap (2 * ad))))))) else (none)) else (none))) else (some (wrap64 (aa)))) else (none)) else (some (wrap64 (aa)))) else (some (wrap64 (aa))))
set_option maxHeartbeats 8000000 in
set_option maxRecDepth 100000 in
theorem A2m.calls (k : Nat) (A0 : Option Addr) (c0 : Nat) (l0 : List Int) (r : Int) (w : World) (hr0 : Kd.C (Kd.int .u8) w A0 l0.length l0) (hc0 : l0.length ≤ c0) (h : A2m.f k l0 = some r) :
  Calls Tryd.prog 70 #[.slice A0 l0.length c0] w fun e w' => e = .returned (.int .i64 r) ∧ Below w.heap.size w w' := by
 have aw := ak hr0; have a1 := ak hc0; clear hr0 hc0; have HB := ak (Below.refl w.heap.size w); have H : ((A0o.f k l0).bind fun ae => (if (l0.length : Int) > 0 then (if (l0.length : Int) < 64 then (if 0 < (l0.length : Int) then (if (rd l0 0) = 1 then ((some (([1] : List Int) : List Int)).bind fun ag => (if 0 ≤ (wrap64 ((l0.length : Int) - 1)) then (if ag.length + (wrap64 ((l0.length : Int) - 1) : Int).toNat < 140737488355328 then ((A0o.f k (ag ++ List.replicate (wrap64 ((l0.length : Int) - 1) : Int).toNat 0)).bind fun ah => (some (wrap64 ((wrap64 (ae)) - (wrap64 (IntKind.u64.wrap (2 * ah))))))) else (none)) else (none))) else (some (wrap64 (ae)))) else (none)) else (some (wrap64 (ae)))) else (some (wrap64 (ae))))) = some r := h; clear h; replace H := bkH H; obtain ⟨ae, A2, H⟩ := H
 by_cases c3 : (l0.length : Int) > 0
 ·rw [if_pos c3] at H; have a2 : decide (0 < (l0.length : Int)) = true := decide_eq_true c3; have a3 : decide (0 < l0.length) = true := decide_eq_true (by omega); clear c3
  by_cases c4 : (l0.length : Int) < 64
  ·rw [if_pos c4] at H; have a4 : decide ((l0.length : Int) < 64) = true := decide_eq_true c4; have a5 : decide (l0.length < 64) = true := decide_eq_true (by omega); clear c4
   by_cases c5 : 0 < (l0.length : Int)
   ·rw [if_pos c5] at H; have aH : decide (0 < (l0.length : Int)) = true := decide_eq_true c5; have aI : decide (0 < l0.length) = true := decide_eq_true (by omega); clear c5
    by_cases c6 : (rd l0 0) = 1
    ·rw [if_pos c6] at H; obtain ⟨a6, a7⟩ := kqT c6; clear c6; obtain ⟨ag, aj⟩ : ∃ y_ : List Int, y_ = (([1] : List Int)) := ⟨_, rfl⟩
     replace H : (if 0 ≤ (wrap64 ((l0.length : Int) - 1)) then (if ag.length + (wrap64 ((l0.length : Int) - 1) : Int).toNat < 140737488355328 then ((A0o.f k (ag ++ List.replicate (wrap64 ((l0.length : Int) - 1) : Int).toNat 0)).bind fun ah => (some (wrap64 ((wrap64 (ae)) - (wrap64 (IntKind.u64.wrap (2 * ah))))))) else (none)) else (none)) = some r := by first | (rw [aj]; with_reducible exact H) | (have H2_ := (Option.bind_some _ _).symm.trans H; rw [aj]; with_reducible exact H2_) | (have H2_ := (Option.bind_some _ _).symm.trans H; with_reducible exact H2_) | with_reducible exact H | (rw [aj]; exact H) | exact H
     have ap := ak aj; clear aj; obtain ⟨aq, an⟩ : ∃ j_ : Int, (wrap64 ((l0.length : Int) - 1)) = j_ := ⟨_, rfl⟩
     replace H : (if 0 ≤ (aq) then (if ag.length + (aq : Int).toNat < 140737488355328 then ((A0o.f k (ag ++ List.replicate (aq : Int).toNat 0)).bind fun ah => (some (wrap64 ((wrap64 (ae)) - (wrap64 (IntKind.u64.wrap (2 * ah))))))) else (none)) else (none)) = some r := by first | (rw [an] at H; exact H) | (simp only [an] at H ⊢; exact H)
     (try rw [an] at A2); have aD : (IntKind.i64.wrap ((l0.length : Int) - 1)) = aq := (A11 _).trans an
     by_cases c8 : 0 ≤ (aq)
     ·rw [if_pos c8] at H; have aJ := eq_true c8; have aK := decide_eq_true c8; clear c8
      by_cases c9 : ag.length + (aq : Int).toNat < 140737488355328
      ·rw [if_pos c9] at H; have LMc9 := ak c9; clear c9; obtain ⟨au, al⟩ : ∃ y_ : List Int, y_ = (ag ++ List.replicate (aq : Int).toNat 0) := ⟨_, rfl⟩
       replace H : ((A0o.f k au).bind fun ah => (some (wrap64 ((wrap64 (ae)) - (wrap64 (IntKind.u64.wrap (2 * ah))))))) = some r := by first | (rw [al]; with_reducible exact H) | (have H2_ := (Option.bind_some _ _).symm.trans H; rw [al]; with_reducible exact H2_) | (have H2_ := (Option.bind_some _ _).symm.trans H; with_reducible exact H2_) | with_reducible exact H | (rw [al]; exact H) | exact H
       have ax := ak al; clear al; replace H := bkH H; obtain ⟨ah, aM, H⟩ := H; obtain rfl := Option.some.inj H
       go_enter Tryd.func70, Tryd.ntmps70
       go_wp2_with (first | ((with_reducible refine A0h (f := 50) rfl ?_); refine A1b (some 5) rfl rfl Tryd.func50 (by kernel_rfl) rfl #[.slice A0 l0.length c0] rfl km ?_; (with_reducible refine (A0o.calls k _ _ l0 ae _ ?aa ?ac A2.out).mono ?_); (case aa => repeat (first | exact aw.out | (with_reducible refine Kd.A1e ?_ _) | (with_reducible refine Kd.A1d ?_ _) | (with_reducible refine Kd.A1v ?_))); (case ac => exact a1.out); rintro e w' ⟨rfl, ⟨nd, rfl⟩⟩; refine ⟨_, rfl, ?_⟩; have am : 0 ≤ (0 : Int) := (by omega); have ai : 0 < (l0.length : Int) := kD; obtain ⟨ay, av, ad⟩ := Kd.A33 aw.out 0 am ai; cases av; have az : (0 < l0.length) = True := eq_true (by omega); (try rw [show ((0 : Int)).toNat = 0 from rfl] at ad); (try rw [Addr.add_zero'] at ad); replace am := eq_true am; (try (have af := ai; simp only [List.length_drop, List.length_take] at af; replace af := eq_true af)); replace ai := eq_true ai) | ((with_reducible refine A0q (N := 22) rfl ?_); (try (refine A25 (by rfl) ?_; dsimp only)); refine Kd.R_lit (Kd.int .u8) _ 5 ?hg (N := 22) ?hd (xs := ([1] : List Int)) (inner := [.int .u8 1]) (ok := fun _ => True) (okp := fun _ => True) ?hr ?hp (fun _ hk => hk) trivial (Below.refl _ _) (Nat.le_refl _) (by simp) ?_; (case hd => rfl); (case hg => rfl); (case hr => first | (go_simp; done) | (go_simp; rfl)); (case hp => exact (Reps.one (show Kd.M (Kd.int .u8) _ _ _ 1 [.int .u8 1] from rfl) (Reps.none _ _))); intro a8 aP ho12 hb hg_ hnew_; clear hg_ hnew_; (first | rw [← ap.out] at ho12 | (simp only [Int.reduceToNat] at ho12; rw [← ap.out] at ho12)); have ar := ak (Kd.A1t ho12 (A0n (kl HB))); replace HB := kH HB hb; clear hb ho12) | (at_builtin; refine Kd.A38 (Kd.int .u8) (w0 := w) w.heap.size rfl (.tmp 22) (.tmp 25) 25 3 5 (.int .u8 0) 1 rfl Tryd.underlying25 Tryd.underlying3 info5 rfl (by decide) (by omega) a8 ag 0 (aq : Int) (fun _ => True) rfl rfl rfl ?aF ?aO kD ?aB ?aS ?aL ?_; (case aB => exact (kl HB)); (case aF => exact (fun _ _ => trivial)); (case aO => exact (kr ar)); (case aS => exact (A0n (kl HB))); (case aL => have := LMc9.out; omega); intro aN aQ ho hb hg hat; (try simp only [Int.reduceToNat] at ho); rw [← ax.out] at ho; have aE := ak (hb); have aG := ak (ho); clear HB; clear ar; have HB := aE; have ao := aG; clear aE aG; clear ho hb hg hat; obtain ⟨a9, aA, aC⟩ := Kd.A1w ao.out; subst aC) | ((with_reducible refine A0h (f := 50) rfl ?_); refine A1b (some 27) rfl rfl Tryd.func50 (by kernel_rfl) rfl #[.slice a9 au.length aA] rfl km ?_; (with_reducible refine (A0o.calls k _ _ au ah _ ?aa ?ac aM.out).mono ?_); (case aa => repeat (first | exact (Kd.A06 ao.out).2.2 | (with_reducible refine Kd.A1e ?_ _) | (with_reducible refine Kd.A1d ?_ _) | (with_reducible refine Kd.A1v ?_))); (case ac => exact (Kd.A06 ao.out).2.1); rintro e w' ⟨rfl, ⟨nd, rfl⟩⟩; refine ⟨_, rfl, ?_⟩))
       go_ret
       exact ⟨by first | rfl | (simp [A0v, A0w] <;> rfl) | (simp only [← an]; first | rfl | (simp [A0v, A0w] <;> rfl)) | (simp [*, A0v, A0w] <;> rfl), (kl HB)⟩
      ·rw [if_neg c9] at H
       exact absurd H (by simp)
     ·rw [if_neg c8] at H
      exact absurd H (by simp)
    ·rw [if_neg c6] at H; obtain ⟨a6, a7⟩ := kqF c6; obtain rfl := Option.some.inj H
     go_enter Tryd.func70, Tryd.ntmps70
     go_wp2_with (first | ((with_reducible refine A0h (f := 50) rfl ?_); refine A1b (some 5) rfl rfl Tryd.func50 (by kernel_rfl) rfl #[.slice A0 l0.length c0] rfl km ?_; (with_reducible refine (A0o.calls k _ _ l0 ae _ ?aa ?ac A2.out).mono ?_); (case aa => repeat (first | exact aw.out | (with_reducible refine Kd.A1e ?_ _) | (with_reducible refine Kd.A1d ?_ _) | (with_reducible refine Kd.A1v ?_))); (case ac => exact a1.out); rintro e w' ⟨rfl, ⟨nd, rfl⟩⟩; refine ⟨_, rfl, ?_⟩; have am : 0 ≤ (0 : Int) := (by omega); have ai : 0 < (l0.length : Int) := kD; obtain ⟨ay, av, ad⟩ := Kd.A33 aw.out 0 am ai; cases av; have az : (0 < l0.length) = True := eq_true (by omega); (try rw [show ((0 : Int)).toNat = 0 from rfl] at ad); (try rw [Addr.add_zero'] at ad); replace am := eq_true am; (try (have af := ai; simp only [List.length_drop, List.length_take] at af; replace af := eq_true af)); replace ai := eq_true ai))
     go_ret
     exact ⟨kF, (kl HB)⟩
   ·rw [if_neg c5] at H
    exact absurd H (by simp)
  ·rw [if_neg c4] at H; have a4 : decide ((l0.length : Int) < 64) = false := decide_eq_false c4; have a5 : decide (l0.length < 64) = false := decide_eq_false (by omega); clear c4; obtain rfl := Option.some.inj H
   go_enter Tryd.func70, Tryd.ntmps70
   go_wp2_with (first | ((with_reducible refine A0h (f := 50) rfl ?_); refine A1b (some 5) rfl rfl Tryd.func50 (by kernel_rfl) rfl #[.slice A0 l0.length c0] rfl km ?_; (with_reducible refine (A0o.calls k _ _ l0 ae _ ?aa ?ac A2.out).mono ?_); (case aa => repeat (first | exact aw.out | (with_reducible refine Kd.A1e ?_ _) | (with_reducible refine Kd.A1d ?_ _) | (with_reducible refine Kd.A1v ?_))); (case ac => exact a1.out); rintro e w' ⟨rfl, ⟨nd, rfl⟩⟩; refine ⟨_, rfl, ?_⟩))
   go_ret
   exact ⟨kF, (kl HB)⟩
 ·rw [if_neg c3] at H; have a2 : decide (0 < (l0.length : Int)) = false := decide_eq_false c3; have a3 : decide (0 < l0.length) = false := decide_eq_false (by omega); clear c3; obtain rfl := Option.some.inj H
  go_enter Tryd.func70, Tryd.ntmps70
  go_wp2_with (first | ((with_reducible refine A0h (f := 50) rfl ?_); refine A1b (some 5) rfl rfl Tryd.func50 (by kernel_rfl) rfl #[.slice A0 l0.length c0] rfl km ?_; (with_reducible refine (A0o.calls k _ _ l0 ae _ ?aa ?ac A2.out).mono ?_); (case aa => repeat (first | exact aw.out | (with_reducible refine Kd.A1e ?_ _) | (with_reducible refine Kd.A1d ?_ _) | (with_reducible refine Kd.A1v ?_))); (case ac => exact a1.out); rintro e w' ⟨rfl, ⟨nd, rfl⟩⟩; refine ⟨_, rfl, ?_⟩))
  go_ret
  exact ⟨kF, (kl HB)⟩
def A2n.f (l0 : List Int) (l1 : List Int) : Option (Bool) := if (l0.length : Int) ≥ (l1.length : Int) then (if 0 ≤ (mn (l0.length : Int) (l1.length : Int)) then (if (mn (l0.length : Int) (l1.length : Int)) ≤ (l0.length : Int) then (some ((strOfNums (l0.take ((mn (l0.length : Int) (l1.length : Int)) : Int).toNat)).toList == (strOfNums l1).toList)) else (none)) else (none)) else (some false)
set_option maxHeartbeats 8000000 in
set_option maxRecDepth 100000 in
theorem A2n.calls (A0 : Option Addr) (c0 : Nat) (l0 : List Int) (A1 : Option Addr) (c1 : Nat) (l1 : List Int) (r : Bool) (w : World) (hr0 : Kd.C (Kd.int .u8) w A0 l0.length l0) (hc0 : l0.length ≤ c0) (hr1 : Kd.C (Kd.int .u8) w A1 l1.length l1) (hc1 : l1.length ≤ c1) (h : A2n.f l0 l1 = some r) :
  Calls Tryd.prog 71 #[.slice A0 l0.length c0, .slice A1 l1.length c1] w fun e w' => e = .returned (.bool r) ∧ Below w.heap.size w w' := by
 have au := ak hr0; have av := ak hc0; clear hr0 hc0; have ai := ak hr1; have a1 := ak hc1; clear hr1 hc1; have HB := ak (Below.refl w.heap.size w); have H : (if (l0.length : Int) ≥ (l1.length : Int) then (if 0 ≤ (mn (l0.length : Int) (l1.length : Int)) then (if (mn (l0.length : Int) (l1.length : Int)) ≤ (l0.length : Int) then (some ((strOfNums (l0.take ((mn (l0.length : Int) (l1.length : Int)) : Int).toNat)).toList == (strOfNums l1).toList)) else (none)) else (none)) else (some false)) = some r := h; clear h
 by_cases c3 : (l0.length : Int) ≥ (l1.length : Int)
 ·rw [if_pos c3] at H; have aj : decide ((l1.length : Int) ≤ (l0.length : Int)) = true := decide_eq_true c3; have al : decide (l1.length ≤ l0.length) = true := decide_eq_true (Int.ofNat_le.mp c3); clear c3; obtain ⟨aa, ac⟩ : ∃ j_ : Int, (mn (l0.length : Int) (l1.length : Int)) = j_ := ⟨_, rfl⟩
  replace H : (if 0 ≤ (aa) then (if (aa) ≤ (l0.length : Int) then (some ((strOfNums (l0.take ((aa) : Int).toNat)).toList == (strOfNums l1).toList)) else (none)) else (none)) = some r := by first | (rw [ac] at H; exact H) | (simp only [ac] at H ⊢; exact H)
  (try (have am : 0 ≤ aa := by (rw [← ac]; unfold mn; (repeat' split) <;> omega))); (try (have an : 0 ≤ aa := by omega)); have ae : (if (l1.length : Int) < (l0.length : Int) then (l1.length : Int) else (l0.length : Int)) = aa := ac; (try (have af := ae; simp only [Int.ofNat_lt] at af))
  by_cases c5 : 0 ≤ (aa)
  ·rw [if_pos c5] at H; have aw := eq_true c5; have ax : decide (0 ≤ (aa)) = true := decide_eq_true c5; clear c5
   by_cases c6 : (aa) ≤ (l0.length : Int)
   ·rw [if_pos c6] at H; have ay := eq_true c6; have az : decide ((aa) ≤ (l0.length : Int)) = true := decide_eq_true c6; clear c6; obtain rfl := Option.some.inj H; obtain ⟨a2, ag, _, ah, _⟩ := info_parts info5; obtain ⟨ao, ap, aq⟩ := print_take_of (P := Tryd.prog) (Value.int .u8) 0 25 5 .i64 Tryd.underlying25 ag ah A0 c0 l0 (aa) kD kD av.out; have ad := ak (Kd.A26 (h1 := fun _ => rfl) (ap _ (Kd.A2z au.out))); have ar := ak aq; clear ap aq ag ah; have hcv8 := Kd.A3z (P := Tryd.prog) (A := A0) (c := c0) Tryd.underlying25 Tryd.underlying5 Tryd.underlying9 ad.out
    have hcv8d := fun (m_ : Nat) => Kd.A3z (P := Tryd.prog) (A := A0) (c := c0) Tryd.underlying25 Tryd.underlying5 Tryd.underlying9 (Kd.A1d ad.out m_)
    (try (have hcv8e := Kd.A3z (P := Tryd.prog) (A := A0) (c := c0) Tryd.underlying25 Tryd.underlying5 Tryd.underlying9 (Kd.A1v ad.out))); (try (have hle_ : aa ≤ (l0.length : Int) := kD; have hln_ : (l0.take (aa : Int).toNat).length = (aa : Int).toNat := (by rw [List.length_take]; omega); (try (have hcv8t := hcv8; rw [hln_] at hcv8t)); (try (have hcv8u := hcv8e; rw [hln_] at hcv8u)); clear hle_ hln_)); have hcv9 := Kd.A3z (P := Tryd.prog) (A := A1) (c := c1) Tryd.underlying25 Tryd.underlying5 Tryd.underlying9 ai.out
    have hcv9d := fun (m_ : Nat) => Kd.A3z (P := Tryd.prog) (A := A1) (c := c1) Tryd.underlying25 Tryd.underlying5 Tryd.underlying9 (Kd.A1d ai.out m_)
    (try (have hcv9e := Kd.A3z (P := Tryd.prog) (A := A1) (c := c1) Tryd.underlying25 Tryd.underlying5 Tryd.underlying9 (Kd.A1v ai.out)))
    go_enter Tryd.func71, Tryd.ntmps71
    go_wp2
    repeat ((first | go_quiet (fail) | go_region); try go_wp2)
    go_ret
    exact ⟨by first | rfl | (simp [A0v, A0w] <;> rfl) | (simp only [← ac]; first | rfl | (simp [A0v, A0w] <;> rfl)) | (simp [*, A0v, A0w] <;> rfl), (kl HB)⟩
   ·rw [if_neg c6] at H
    exact absurd H (by simp)
  ·rw [if_neg c5] at H
   exact absurd H (by simp)
 ·rw [if_neg c3] at H; have aj : decide ((l1.length : Int) ≤ (l0.length : Int)) = false := decide_eq_false c3; have al : decide (l1.length ≤ l0.length) = false := decide_eq_false (fun h => c3 (Int.ofNat_le.mpr h)); clear c3; obtain rfl := Option.some.inj H
  go_enter Tryd.func71, Tryd.ntmps71
  go_wp2
  repeat ((first | go_quiet (fail) | go_region); try go_wp2)
  go_ret
  exact ⟨kF, (kl HB)⟩
mutual
def A02.j1 : Nat → List Int → Int → Option (Int × Int × Int)
 | 0, _, _ => none
 | k + 1, x0, x5 => (A1i.f x5).bind fun aa => (if (x0.length : Int) < (wrap64 ((mn (wrap64 (x5 + 1)) 4) + aa)) then (some (0, 0, 2)) else (if 0 ≤ (mn (wrap64 (x5 + 1)) 4) then (if (mn (wrap64 (x5 + 1)) 4) ≤ (wrap64 ((mn (wrap64 (x5 + 1)) 4) + aa)) then (if (wrap64 ((mn (wrap64 (x5 + 1)) 4) + aa)) ≤ (x0.length : Int) then ((A2m.f k ((x0.take ((wrap64 ((mn (wrap64 (x5 + 1)) 4) + aa)) : Int).toNat).drop ((mn (wrap64 (x5 + 1)) 4) : Int).toNat)).bind fun ac => ((A09.f k ac).bind fun ad => ((A2n.f x0 ad).bind fun ae => (if ae = true then ((A09.f k ac).bind fun af => (if (af.length : Int) = (wrap64 ((mn (wrap64 (x5 + 1)) 4) + aa)) then (some (ac, wrap64 ((mn (wrap64 (x5 + 1)) 4) + aa), 0)) else (some (0, 0, 3)))) else (some (0, 0, 3)))))) else (none)) else (none)) else (none)))
def A02.l0 : Nat → List Int → Int → Option (Int × Int × Int)
 | 0, _, _ => none
 | k + 1, x0, x5 => if x5 < (x0.length : Int) then (if x5 < 4 then (if 0 ≤ x5 then (if (rd x0 x5) = 1 then (A02.l0 k x0 (wrap64 (x5 + 1))) else (A02.j1 k x0 x5)) else (none)) else (A02.j1 k x0 x5)) else (A02.j1 k x0 x5)
end
def A02.f (k : Nat) (l0 : List Int) : Option (Int × Int × Int) := A02.l0 k l0 0
set_option maxHeartbeats 8000000 in
set_option maxRecDepth 100000 in
theorem A02.calls (k : Nat) (A0 : Option Addr) (c0 : Nat) (l0 : List Int) (r1 : Int) (r2 : Int) (r3 : Int) (w : World) (hr0 : Kd.C (Kd.int .u8) w A0 l0.length l0) (hc0 : l0.length ≤ c0) (h : A02.f k l0 = some (r1, r2, r3)) :
  Calls Tryd.prog 60 #[.slice A0 l0.length c0] w fun e w' => e = .returned (.tuple #[.int .i64 r1, .int .i64 r2, .int .i64 r3]) ∧ Below w.heap.size w w' := by
 have ay := ak hr0; have a8 := ak hc0; clear hr0 hc0; have HB := ak (Below.refl w.heap.size w); have H : (A02.l0 k l0 0) = some (r1, r2, r3) := h; clear h; have aT := ak H; clear H
 go_enter Tryd.func60, Tryd.ntmps60
 go_upto_block 0 with (fail)
 go_cut [5] (fun v5 wc => ∃ (kq : Nat) (x5_1 : Int), v5 = .int .i64 x5_1 ∧ A0b (A02.j1 kq l0 x5_1 = some (r1, r2, r3)) ∧ A0b (kq ≤ k) ∧ A0b (Below w.heap.size w wc))
 case first =>
  have H := aT.out; clear aT; have H' := ak H; clear H
  go_wp2
  go_loopg [5] k (fun kq v5 w' => ∃ (x5_1 : Int), v5 = .int .i64 x5_1 ∧ A0b (A02.l0 kq l0 x5_1 = some (r1, r2, r3)) ∧ A0b (kq ≤ k) ∧ A0b (Below w.heap.size w w'))
  case atStart => exact ⟨(0), kE, H', ⟨Nat.le_refl _⟩, ⟨(kl HB)⟩⟩
  case round =>
   clear H'; obtain ⟨x5_1, rfl, HA, a9, HB⟩ := hrel
   cases gk with
   | zero => exact absurd HA.out (by simp [A02.l0])
   | succ k1 =>
    have H := HA.out; clear HA; simp only [A02.l0] at H
    by_cases c3 : x5_1 < (l0.length : Int)
    ·rw [if_pos c3] at H; have av : decide (x5_1 < (l0.length : Int)) = true := decide_eq_true c3; clear c3
     (first | rw [av] | (simp only [A11, A2c]; rw [av]) | skip)
     by_cases c4 : x5_1 < 4
     ·rw [if_pos c4] at H; have aU : decide (x5_1 < 4) = true := decide_eq_true c4; clear c4
      by_cases c5 : 0 ≤ x5_1
      ·rw [if_pos c5] at H; have bx : decide (0 ≤ x5_1) = true := decide_eq_true c5; clear c5
       by_cases c6 : (rd l0 x5_1) = 1
       ·rw [if_pos c6] at H; obtain ⟨aV, aW⟩ := kqT c6; clear c6; have H' := ak H; clear H; have ar : 0 ≤ (x5_1 : Int) := kD; have am : x5_1 < (l0.length : Int) := kD; obtain ⟨aA, a6, ae⟩ := Kd.A33 ay.out x5_1 ar am
        cases a6
        replace ae := (HB.out.cell (World.block_lt_of_cell? w _ ae)).trans ae; replace ar := eq_true ar
        (try (have aj := am; simp only [List.length_drop, List.length_take] at aj; replace aj := eq_true aj)); replace am := eq_true am
        go_wp2
        go_roundg k1
        case measure => have := a9.out; omega
        case rel => exact ⟨(wrap64 (x5_1 + 1)), kE, H', ⟨by have := a9.out; omega⟩, ⟨(kl HB)⟩⟩
       ·rw [if_neg c6] at H; obtain ⟨aV, aW⟩ := kqF c6; have H' := ak H; clear H; have ar : 0 ≤ (x5_1 : Int) := kD; have am : x5_1 < (l0.length : Int) := kD; obtain ⟨aA, a6, ae⟩ := Kd.A33 ay.out x5_1 ar am
        cases a6
        replace ae := (HB.out.cell (World.block_lt_of_cell? w _ ae)).trans ae; replace ar := eq_true ar
        (try (have aj := am; simp only [List.length_drop, List.length_take] at aj; replace aj := eq_true aj)); replace am := eq_true am
        go_wp2
        go_meet
        case rel => exact ⟨_, (x5_1), kE, H', ⟨by have := a9.out; first | omega | exact Nat.le_refl _⟩, ⟨(kl HB)⟩⟩
      ·rw [if_neg c5] at H
       exact absurd H (by simp)
     ·rw [if_neg c4] at H; have aU : decide (x5_1 < 4) = false := decide_eq_false c4; clear c4; have H' := ak H; clear H
      go_wp2
      go_meet
      case rel => exact ⟨_, (x5_1), kE, H', ⟨by have := a9.out; first | omega | exact Nat.le_refl _⟩, ⟨(kl HB)⟩⟩
    ·rw [if_neg c3] at H; have av : decide (x5_1 < (l0.length : Int)) = false := decide_eq_false c3; clear c3
     (first | rw [av] | (simp only [A11, A2c]; rw [av]) | skip)
     have H' := ak H; clear H
     go_wp2
     go_meet
     case rel => exact ⟨_, (x5_1), kE, H', ⟨by have := a9.out; first | omega | exact Nat.le_refl _⟩, ⟨(kl HB)⟩⟩
 case rest =>
  clear aT; obtain ⟨kq, x5_1, rfl, HA, b9, HB⟩ := hcut
  cases kq with
  | zero => exact absurd HA.out (by simp [A02.j1])
  | succ aw =>
   have H := HA.out; clear HA; simp only [A02.j1] at H; obtain ⟨ad, al⟩ : ∃ j_ : Int, (mn (wrap64 (x5_1 + 1)) 4) = j_ := ⟨_, rfl⟩
   replace H : ((A1i.f x5_1).bind fun aa => (if (l0.length : Int) < (wrap64 ((ad) + aa)) then (some (0, 0, 2)) else (if 0 ≤ (ad) then (if (ad) ≤ (wrap64 ((ad) + aa)) then (if (wrap64 ((ad) + aa)) ≤ (l0.length : Int) then ((A2m.f aw ((l0.take ((wrap64 ((ad) + aa)) : Int).toNat).drop ((ad) : Int).toNat)).bind fun ah => ((A09.f aw ah).bind fun ai => ((A2n.f l0 ai).bind fun a7 => (if a7 = true then ((A09.f aw ah).bind fun au => (if (au.length : Int) = (wrap64 ((ad) + aa)) then (some (ah, wrap64 ((ad) + aa), 0)) else (some (0, 0, 3)))) else (some (0, 0, 3)))))) else (none)) else (none)) else (none)))) = some (r1, r2, r3) := by first | (rw [al] at H; exact H) | (simp only [al] at H ⊢; exact H)
   have aB : (if 4 < (wrap64 (x5_1 + 1)) then 4 else (wrap64 (x5_1 + 1))) = ad := al; (try (have aC := aB; simp only [Int.ofNat_lt] at aC)); replace H := bkH H; obtain ⟨aa, A8, H⟩ := H
   by_cases c9 : (l0.length : Int) < (wrap64 ((ad) + aa))
   ·rw [if_pos c9] at H; have aX : decide ((l0.length : Int) < (wrap64 ((ad) + aa))) = true := decide_eq_true c9; clear c9; simp only [Option.some.injEq, Prod.mk.injEq] at H; obtain ⟨rfl, rfl, rfl⟩ := H
    go_wp2_with (first | ((with_reducible refine A0h (f := 68) rfl ?_); refine A1b (some 32) rfl rfl Tryd.func68 (by kernel_rfl) rfl #[.int .i64 x5_1] rfl km ?_; (with_reducible refine (A1i.calls x5_1 aa _ A8.out).mono ?_); rintro e bA ⟨rfl, hb⟩; refine ⟨_, rfl, ?_⟩; replace HB := kH HB hb; (try clear hb); ))
    go_ret3
    exact ⟨by first | rfl | (simp [A0v, A0w] <;> rfl) | (simp only [← al]; first | rfl | (simp [A0v, A0w] <;> rfl)) | (simp [*, A0v, A0w] <;> rfl), (kl HB)⟩
   ·rw [if_neg c9] at H; have aX : decide ((l0.length : Int) < (wrap64 ((ad) + aa))) = false := decide_eq_false c9; clear c9
    by_cases aD : 0 ≤ (ad)
    ·rw [if_pos aD] at H; have br := eq_true aD; have bs := decide_eq_true aD; clear aD
     by_cases aP : (ad) ≤ (wrap64 ((ad) + aa))
     ·rw [if_pos aP] at H; have bt := eq_true aP; have bu := decide_eq_true aP
      by_cases aQ : (wrap64 ((ad) + aa)) ≤ (l0.length : Int)
      ·rw [if_pos aQ] at H; have bv := eq_true aQ; have bw := decide_eq_true aQ; replace H := bkH H; obtain ⟨ah, aY, H⟩ := H; replace H := bkH H; obtain ⟨ai, aE, H⟩ := H; replace H := bkH H; obtain ⟨a7, aZ, H⟩ := H
       by_cases aR : a7 = true
       ·subst aR
        rw [if_pos rfl] at H; replace H := bkH H; obtain ⟨au, aS, H⟩ := H
        by_cases aF : (au.length : Int) = (wrap64 ((ad) + aa))
        ·rw [if_pos aF] at H; obtain ⟨aG, aH⟩ := kqT aF; clear aF; simp only [Option.some.injEq, Prod.mk.injEq] at H; obtain ⟨rfl, rfl, rfl⟩ := H
         go_wp2_with (first | ((with_reducible refine A0h (f := 68) rfl ?_); refine A1b (some 32) rfl rfl Tryd.func68 (by kernel_rfl) rfl #[.int .i64 x5_1] rfl km ?_; (with_reducible refine (A1i.calls x5_1 aa _ A8.out).mono ?_); rintro e bB ⟨rfl, hb⟩; refine ⟨_, rfl, ?_⟩; replace HB := kH HB hb; (try clear hb); obtain ⟨bz, az, _, a1, _⟩ := info_parts info5; obtain ⟨b0, ba, aI, aJ⟩ := A3l (P := Tryd.prog) (Value.int .u8) 0 25 5 .i64 .i64 Tryd.underlying25 az a1 A0 c0 l0 (ad) (wrap64 ((ad) + aa)) kD (by first | omega | exact kD) kD a8.out; have an := ak (Kd.A26 (h1 := fun _ => rfl) (aI _ (Kd.A2z ay.out))); have ao := ak aJ; clear aI aJ az a1) | ((with_reducible refine A0h (f := 70) rfl ?_); refine A1b (some 42) rfl rfl Tryd.func70 (by kernel_rfl) rfl #[.slice b0 ((l0.take ((wrap64 ((ad) + aa)) : Int).toNat).drop ((ad) : Int).toNat).length (c0 - (ad).toNat)] rfl (by (try simp only [List.map_toArray, List.map_cons, List.map_nil]); first | done | (rw [show ((l0.take ((wrap64 ((ad) + aa)) : Int).toNat).drop ((ad) : Int).toNat).length = ((wrap64 ((ad) + aa)).toNat - (ad).toNat) from (by rw [List.length_drop, List.length_take]; have h_ : ((wrap64 ((ad) + aa)) : Int) ≤ (l0.length : Int) := kD; omega)] <;> rfl) | (simp only [al]; rfl) | rfl | (simp only [List.length_drop, List.length_take]; rfl)) ?_; (with_reducible refine (A2m.calls aw _ _ ((l0.take ((wrap64 ((ad) + aa)) : Int).toNat).drop ((ad) : Int).toNat) ah _ ?af ?ag aY.out).mono ?_); (case af => repeat (first | exact (Kd.A1j an.out HB.out) | (with_reducible refine Kd.A1e ?_ _) | (with_reducible refine Kd.A1d ?_ _) | (with_reducible refine Kd.A1v ?_))); (case ag => exact ao.out); rintro e bC ⟨rfl, hb⟩; refine ⟨_, rfl, ?_⟩; replace HB := kH HB hb; (try clear hb); ) | ((with_reducible refine A0h (f := 57) rfl ?_); refine A1b (some 45) rfl rfl Tryd.func57 (by kernel_rfl) rfl #[.int .i64 ah] rfl km ?_; (with_reducible refine (A09.calls aw ah ai _ aE.out).mono ?_); rintro e bD ⟨aK, rfl, ho0, hb⟩; refine ⟨_, rfl, ?_⟩; have ac := ak (Kd.A1t ho0 (A0n (kl HB))); replace HB := kH HB hb; (try clear hb); (try clear ho0); obtain ⟨bb, bc, be⟩ := Kd.A1w ac.out; subst be) | ((with_reducible refine A0h (f := 71) rfl ?_); refine A1b (some 46) rfl rfl Tryd.func71 (by kernel_rfl) rfl #[.slice A0 l0.length c0, .slice bb ai.length bc] rfl km ?_; (with_reducible refine (A2n.calls _ _ l0 _ _ ai true _ ?af ?ag ?ap ?aq aZ.out).mono ?_); (case af => repeat (first | exact (Kd.A1j ay.out HB.out) | (with_reducible refine Kd.A1e ?_ _) | (with_reducible refine Kd.A1d ?_ _) | (with_reducible refine Kd.A1v ?_))); (case ag => exact a8.out); (case ap => repeat (first | exact (Kd.A06 ac.out).2.2 | (with_reducible refine Kd.A1e ?_ _) | (with_reducible refine Kd.A1d ?_ _) | (with_reducible refine Kd.A1v ?_))); (case aq => exact (Kd.A06 ac.out).2.1); rintro e bE ⟨rfl, hb⟩; refine ⟨_, rfl, ?_⟩; replace ac := ak (Kd.A1r (kr ac) hb); replace HB := kH HB hb; (try clear hb); ) | (go_at_call 57; (with_reducible refine (A09.calls aw ah au _ aS.out).mono ?_); rintro e bF ⟨bf, rfl, ho0, hb⟩; have ax := ak (Kd.A1t (Kd.A24 ho0 (Kd.R_lt (kr ac))) (A0n (kl HB))); replace ac := ak (Kd.A16 (kr ac) (Kd.A21 ho0) hb); replace HB := kH HB hb; (try clear hb); (try clear ho0); obtain ⟨b1, b2, bg⟩ := Kd.A1w ax.out; subst bg))
         (try (have hd_ : ai = au := Option.some.inj (aE.out.symm.trans aS.out); subst hd_))
         go_ret3
         exact ⟨by first | rfl | (simp [A0v, A0w] <;> rfl) | (simp only [← al]; first | rfl | (simp [A0v, A0w] <;> rfl)) | (simp [*, A0v, A0w] <;> rfl), (kl HB)⟩
        ·rw [if_neg aF] at H; obtain ⟨aG, aH⟩ := kqF aF; simp only [Option.some.injEq, Prod.mk.injEq] at H; obtain ⟨rfl, rfl, rfl⟩ := H
         go_wp2_with (first | ((with_reducible refine A0h (f := 68) rfl ?_); refine A1b (some 32) rfl rfl Tryd.func68 (by kernel_rfl) rfl #[.int .i64 x5_1] rfl km ?_; (with_reducible refine (A1i.calls x5_1 aa _ A8.out).mono ?_); rintro e bG ⟨rfl, hb⟩; refine ⟨_, rfl, ?_⟩; replace HB := kH HB hb; (try clear hb); obtain ⟨b3, a2, _, a3, _⟩ := info_parts info5; obtain ⟨b4, bh, aL, aM⟩ := A3l (P := Tryd.prog) (Value.int .u8) 0 25 5 .i64 .i64 Tryd.underlying25 a2 a3 A0 c0 l0 (ad) (wrap64 ((ad) + aa)) kD (by first | omega | exact kD) kD a8.out; have an := ak (Kd.A26 (h1 := fun _ => rfl) (aL _ (Kd.A2z ay.out))); have ao := ak aM; clear aL aM a2 a3) | ((with_reducible refine A0h (f := 70) rfl ?_); refine A1b (some 42) rfl rfl Tryd.func70 (by kernel_rfl) rfl #[.slice b4 ((l0.take ((wrap64 ((ad) + aa)) : Int).toNat).drop ((ad) : Int).toNat).length (c0 - (ad).toNat)] rfl (by (try simp only [List.map_toArray, List.map_cons, List.map_nil]); first | done | (rw [show ((l0.take ((wrap64 ((ad) + aa)) : Int).toNat).drop ((ad) : Int).toNat).length = ((wrap64 ((ad) + aa)).toNat - (ad).toNat) from (by rw [List.length_drop, List.length_take]; have h_ : ((wrap64 ((ad) + aa)) : Int) ≤ (l0.length : Int) := kD; omega)] <;> rfl) | (simp only [al]; rfl) | rfl | (simp only [List.length_drop, List.length_take]; rfl)) ?_; (with_reducible refine (A2m.calls aw _ _ ((l0.take ((wrap64 ((ad) + aa)) : Int).toNat).drop ((ad) : Int).toNat) ah _ ?af ?ag aY.out).mono ?_); (case af => repeat (first | exact (Kd.A1j an.out HB.out) | (with_reducible refine Kd.A1e ?_ _) | (with_reducible refine Kd.A1d ?_ _) | (with_reducible refine Kd.A1v ?_))); (case ag => exact ao.out); rintro e bH ⟨rfl, hb⟩; refine ⟨_, rfl, ?_⟩; replace HB := kH HB hb; (try clear hb); ) | ((with_reducible refine A0h (f := 57) rfl ?_); refine A1b (some 45) rfl rfl Tryd.func57 (by kernel_rfl) rfl #[.int .i64 ah] rfl km ?_; (with_reducible refine (A09.calls aw ah ai _ aE.out).mono ?_); rintro e bI ⟨aK, rfl, ho0, hb⟩; refine ⟨_, rfl, ?_⟩; have ac := ak (Kd.A1t ho0 (A0n (kl HB))); replace HB := kH HB hb; (try clear hb); (try clear ho0); obtain ⟨bi, bj, bk⟩ := Kd.A1w ac.out; subst bk) | ((with_reducible refine A0h (f := 71) rfl ?_); refine A1b (some 46) rfl rfl Tryd.func71 (by kernel_rfl) rfl #[.slice A0 l0.length c0, .slice bi ai.length bj] rfl km ?_; (with_reducible refine (A2n.calls _ _ l0 _ _ ai true _ ?af ?ag ?ap ?aq aZ.out).mono ?_); (case af => repeat (first | exact (Kd.A1j ay.out HB.out) | (with_reducible refine Kd.A1e ?_ _) | (with_reducible refine Kd.A1d ?_ _) | (with_reducible refine Kd.A1v ?_))); (case ag => exact a8.out); (case ap => repeat (first | exact (Kd.A06 ac.out).2.2 | (with_reducible refine Kd.A1e ?_ _) | (with_reducible refine Kd.A1d ?_ _) | (with_reducible refine Kd.A1v ?_))); (case aq => exact (Kd.A06 ac.out).2.1); rintro e bJ ⟨rfl, hb⟩; refine ⟨_, rfl, ?_⟩; replace ac := ak (Kd.A1r (kr ac) hb); replace HB := kH HB hb; (try clear hb); ) | (go_at_call 57; (with_reducible refine (A09.calls aw ah au _ aS.out).mono ?_); rintro e bK ⟨bf, rfl, ho0, hb⟩; have ax := ak (Kd.A1t (Kd.A24 ho0 (Kd.R_lt (kr ac))) (A0n (kl HB))); replace ac := ak (Kd.A16 (kr ac) (Kd.A21 ho0) hb); replace HB := kH HB hb; (try clear hb); (try clear ho0); obtain ⟨b5, b6, bm⟩ := Kd.A1w ax.out; subst bm))
         (try (have hd_ : ai = au := Option.some.inj (aE.out.symm.trans aS.out); subst hd_))
         go_ret3
         exact ⟨by first | rfl | (simp [A0v, A0w] <;> rfl) | (simp only [← al]; first | rfl | (simp [A0v, A0w] <;> rfl)) | (simp [*, A0v, A0w] <;> rfl), (kl HB)⟩
       ·replace aR := Bool.eq_false_iff.mpr aR; subst aR
        rw [if_neg (show ¬ (false = true) by decide)] at H; simp only [Option.some.injEq, Prod.mk.injEq] at H; obtain ⟨rfl, rfl, rfl⟩ := H
        go_wp2_with (first | ((with_reducible refine A0h (f := 68) rfl ?_); refine A1b (some 32) rfl rfl Tryd.func68 (by kernel_rfl) rfl #[.int .i64 x5_1] rfl km ?_; (with_reducible refine (A1i.calls x5_1 aa _ A8.out).mono ?_); rintro e bL ⟨rfl, hb⟩; refine ⟨_, rfl, ?_⟩; replace HB := kH HB hb; (try clear hb); obtain ⟨b7, a4, _, a5, _⟩ := info_parts info5; obtain ⟨b8, bn, aN, aO⟩ := A3l (P := Tryd.prog) (Value.int .u8) 0 25 5 .i64 .i64 Tryd.underlying25 a4 a5 A0 c0 l0 (ad) (wrap64 ((ad) + aa)) kD (by first | omega | exact kD) kD a8.out; have an := ak (Kd.A26 (h1 := fun _ => rfl) (aN _ (Kd.A2z ay.out))); have ao := ak aO; clear aN aO a4 a5) | ((with_reducible refine A0h (f := 70) rfl ?_); refine A1b (some 42) rfl rfl Tryd.func70 (by kernel_rfl) rfl #[.slice b8 ((l0.take ((wrap64 ((ad) + aa)) : Int).toNat).drop ((ad) : Int).toNat).length (c0 - (ad).toNat)] rfl (by (try simp only [List.map_toArray, List.map_cons, List.map_nil]); first | done | (rw [show ((l0.take ((wrap64 ((ad) + aa)) : Int).toNat).drop ((ad) : Int).toNat).length = ((wrap64 ((ad) + aa)).toNat - (ad).toNat) from (by rw [List.length_drop, List.length_take]; have h_ : ((wrap64 ((ad) + aa)) : Int) ≤ (l0.length : Int) := kD; omega)] <;> rfl) | (simp only [al]; rfl) | rfl | (simp only [List.length_drop, List.length_take]; rfl)) ?_; (with_reducible refine (A2m.calls aw _ _ ((l0.take ((wrap64 ((ad) + aa)) : Int).toNat).drop ((ad) : Int).toNat) ah _ ?af ?ag aY.out).mono ?_); (case af => repeat (first | exact (Kd.A1j an.out HB.out) | (with_reducible refine Kd.A1e ?_ _) | (with_reducible refine Kd.A1d ?_ _) | (with_reducible refine Kd.A1v ?_))); (case ag => exact ao.out); rintro e bM ⟨rfl, hb⟩; refine ⟨_, rfl, ?_⟩; replace HB := kH HB hb; (try clear hb); ) | ((with_reducible refine A0h (f := 57) rfl ?_); refine A1b (some 45) rfl rfl Tryd.func57 (by kernel_rfl) rfl #[.int .i64 ah] rfl km ?_; (with_reducible refine (A09.calls aw ah ai _ aE.out).mono ?_); rintro e bN ⟨aK, rfl, ho0, hb⟩; refine ⟨_, rfl, ?_⟩; have ac := ak (Kd.A1t ho0 (A0n (kl HB))); replace HB := kH HB hb; (try clear hb); (try clear ho0); obtain ⟨bo, bp, bq⟩ := Kd.A1w ac.out; subst bq) | ((with_reducible refine A0h (f := 71) rfl ?_); refine A1b (some 46) rfl rfl Tryd.func71 (by kernel_rfl) rfl #[.slice A0 l0.length c0, .slice bo ai.length bp] rfl km ?_; (with_reducible refine (A2n.calls _ _ l0 _ _ ai false _ ?af ?ag ?ap ?aq aZ.out).mono ?_); (case af => repeat (first | exact (Kd.A1j ay.out HB.out) | (with_reducible refine Kd.A1e ?_ _) | (with_reducible refine Kd.A1d ?_ _) | (with_reducible refine Kd.A1v ?_))); (case ag => exact a8.out); (case ap => repeat (first | exact (Kd.A06 ac.out).2.2 | (with_reducible refine Kd.A1e ?_ _) | (with_reducible refine Kd.A1d ?_ _) | (with_reducible refine Kd.A1v ?_))); (case aq => exact (Kd.A06 ac.out).2.1); rintro e bO ⟨rfl, hb⟩; refine ⟨_, rfl, ?_⟩; replace ac := ak (Kd.A1r (kr ac) hb); replace HB := kH HB hb; (try clear hb); ))
        go_ret3
        exact ⟨by first | rfl | (simp [A0v, A0w] <;> rfl) | (simp only [← al]; first | rfl | (simp [A0v, A0w] <;> rfl)) | (simp [*, A0v, A0w] <;> rfl), (kl HB)⟩
      ·rw [if_neg aQ] at H
       exact absurd H (by simp)
     ·rw [if_neg aP] at H
      exact absurd H (by simp)
    ·rw [if_neg aD] at H
     exact absurd H (by simp)
end Go.Proofs.YtiahbcaoikoogaaDoor.All
