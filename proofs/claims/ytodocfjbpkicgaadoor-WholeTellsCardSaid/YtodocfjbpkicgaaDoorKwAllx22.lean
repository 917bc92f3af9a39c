-- copied by a program of the session
import Derived.Test.YtodocfjbpkicgaaDoorKwAllx20
set_option linter.unusedSimpArgs false
set_option linter.unusedVariables false
set_option maxHeartbeats 8000000
set_option maxRecDepth 100000
namespace Go.Proofs.YtodocfjbpkicgaaDoor.All
open Go.RowKit Go.Zw Go.Zl Go.Zm
attribute [local go_sem] A2h A2r
def A1o.f (a0 : Int) : Option (Int) := (some (([0, 7, 9, 12, 64] : List Int) : List Int)).bind fun aa => (if 0 ≤ a0 then (if a0 < (aa.length : Int) then (some (rd aa a0)) else (none)) else (none))
theorem A1o.calls (a0 : Int) (r : Int) (w : World) (h : A1o.f a0 = some r) :
  Calls Tryd.prog 77 #[.int .i64 a0] w fun e w' => e = .returned (.int .i64 r) ∧ Below w.heap.size w w' := by
 have HB := ak (Below.refl w.heap.size w); have H := h; clear h; unfold A1o.f at H; obtain ⟨ac, aa⟩ : ∃ y_ : List Int, y_ = (([0, 7, 9, 12, 64] : List Int)) := ⟨_, rfl⟩
 replace H : (if 0 ≤ a0 then (if a0 < (ac.length : Int) then (some (rd ac a0)) else (none)) else (none)) = some r := by first | (rw [aa]; with_reducible exact H) | (have H2_ := (Option.bind_some _ _).symm.trans H; rw [aa]; with_reducible exact H2_) | (have H2_ := (Option.bind_some _ _).symm.trans H; with_reducible exact H2_) | with_reducible exact H | (rw [aa]; exact H) | exact H
 have af := ak aa; clear aa
 by_cases c2 : 0 ≤ a0
 ·rw [kIp c2] at H; have am : decide (0 ≤ a0) = true := kTt c2; clear c2
  by_cases c3 : a0 < (ac.length : Int)
  ·rw [kIp c3] at H; have an : decide (a0 < (ac.length : Int)) = true := kTt c3; clear c3; obtain rfl := Option.some.inj H
   go_enter Tryd.func77, Tryd.ntmps77
   go_wp2_with (first | ((with_reducible refine A0s (N := 3) rfl ?_); refine Kd.R_lit (Kd.int .i64) _ 3 ?hg (N := 3) ?hd (xs := ([0, 7, 9, 12, 64] : List Int)) (inner := [.int .i64 0, .int .i64 7, .int .i64 9, .int .i64 12, .int .i64 64]) (ok := fun _ => True) (okp := fun _ => True) ?hr ?hp (fun _ hk => hk) trivial (Below.refl _ _) (Nat.le_refl _) (by simp) ?_; (case hd => rfl); (case hg => rfl); (case hr => first | (go_simp; done) | (go_simp; rfl)); (case hp => exact (Reps.one (show Kd.M (Kd.int .i64) _ _ _ 0 [.int .i64 0] from rfl) (Reps.one (show Kd.M (Kd.int .i64) _ _ _ 7 [.int .i64 7] from rfl) (Reps.one (show Kd.M (Kd.int .i64) _ _ _ 9 [.int .i64 9] from rfl) (Reps.one (show Kd.M (Kd.int .i64) _ _ _ 12 [.int .i64 12] from rfl) (Reps.one (show Kd.M (Kd.int .i64) _ _ _ 64 [.int .i64 64] from rfl) (Reps.none _ _))))))); intro ao w4 ho5 hb hg_ hnew_; clear hg_ hnew_; (first | rw [← af.out] at ho5 | (simp only [Int.reduceToNat] at ho5; rw [← af.out] at ho5)); have ag := ak (Kd.A2l ho5 (A0t (kl HB))); replace HB := kH HB hb; clear hb ho5; obtain ⟨aq, ar, ap⟩ := Kd.A11 ag.out; subst ap; have ah : 0 ≤ (a0 : Int) := kD; have ae : a0 < (ac.length : Int) := kD; obtain ⟨al, aj, ai⟩ := Kd.A2y (Kd.A0y ag.out).2.2 a0 ah ae; cases aj; replace ah := kEt ah; (try (have ad := ae; simp only [List.length_drop, List.length_take] at ad; replace ad := kEt ad)); replace ae := kEt ae))
   go_ret
   exact ⟨kF, (kl HB)⟩
  exact (kA c3 H).elim
 exact (kA c2 H).elim
def A2z.f (k : Nat) (l0 : List Int) : Option (Int) := (A0u.f k l0).bind fun aa => (if (l0.length : Int) > 0 then (if (l0.length : Int) < 64 then (if 0 < (l0.length : Int) then (if (rd l0 0) = 1 then ((some (([1] : List Int) : List Int)).bind fun ac => (if 0 ≤ (wrap64 ((l0.length : Int) - 1)) then (if ac.length + (wrap64 ((l0.length : Int) - 1) : Int).toNat < 140737488355328 then ((A0u.f k (ac ++ List.replicate (wrap64 ((l0.length : Int) - 1) : Int).toNat 0)).bind fun ad => (some (wrap64 ((wrap64 (aa)) - (wrap64 (IntKind.u64.wrap (2 * ad))))))) else (none)) else (none))) else (some (wrap64 (aa)))) else (none)) else (some (wrap64 (aa)))) else (some (wrap64 (aa))))
theorem A2z.calls (k : Nat) (A0 : Option Addr) (c0 : Nat) (l0 : List Int) (r : Int) (w : World) (hr0 : Kd.C (Kd.int .u8) w A0 l0.length l0) (hc0 : l0.length ≤ c0) (h : A2z.f k l0 = some r) :
  Calls Tryd.prog 78 #[.slice A0 l0.length c0] w fun e w' => e = .returned (.int .i64 r) ∧ Below w.heap.size w w' := by
 have av := ak hr0; have a1 := ak hc0; clear hr0 hc0; have HB := ak (Below.refl w.heap.size w); have H := h; clear h; unfold A2z.f at H; replace H := bkH H; obtain ⟨aj, A2, H⟩ := H
 by_cases c3 : (l0.length : Int) > 0
 ·rw [kIp c3] at H; have a2 : decide (0 < (l0.length : Int)) = true := kTt c3; have a3 : decide (0 < l0.length) = true := kTt (by omega); clear c3
  by_cases c4 : (l0.length : Int) < 64
  ·rw [kIp c4] at H; have a4 : decide ((l0.length : Int) < 64) = true := kTt c4; have a5 : decide (l0.length < 64) = true := kTt (by omega); clear c4
   by_cases c5 : 0 < (l0.length : Int)
   ·rw [kIp c5] at H; have aH : decide (0 < (l0.length : Int)) = true := kTt c5; have aI : decide (0 < l0.length) = true := kTt (by omega); clear c5
    by_cases c6 : (rd l0 0) = 1
    ·rw [kIp c6] at H; obtain ⟨a6, a7⟩ := kqT c6; clear c6; obtain ⟨al, ag⟩ : ∃ y_ : List Int, y_ = (([1] : List Int)) := ⟨_, rfl⟩
     replace H : (if 0 ≤ (wrap64 ((l0.length : Int) - 1)) then (if al.length + (wrap64 ((l0.length : Int) - 1) : Int).toNat < 140737488355328 then ((A0u.f k (al ++ List.replicate (wrap64 ((l0.length : Int) - 1) : Int).toNat 0)).bind fun am => (some (wrap64 ((wrap64 (aj)) - (wrap64 (IntKind.u64.wrap (2 * am))))))) else (none)) else (none)) = some r := by first | (rw [ag]; with_reducible exact H) | (have H2_ := (Option.bind_some _ _).symm.trans H; rw [ag]; with_reducible exact H2_) | (have H2_ := (Option.bind_some _ _).symm.trans H; with_reducible exact H2_) | with_reducible exact H | (rw [ag]; exact H) | exact H
     have ap := ak ag; clear ag; obtain ⟨aw, an⟩ := kX (wrap64 ((l0.length : Int) - 1))
     (first | rw [an] at H | simp only [an] at H)
     (try rw [an] at A2); have aD : (IntKind.i64.wrap ((l0.length : Int) - 1)) = aw := (A2i _).trans an
     by_cases c8 : 0 ≤ (aw)
     ·rw [kIp c8] at H; have aJ := kEt c8; have aK : decide (0 ≤ (aw)) = true := kTt c8; clear c8
      by_cases c9 : al.length + (aw : Int).toNat < 140737488355328
      ·rw [kIp c9] at H; have LMc9 := ak c9; clear c9; obtain ⟨ar, ah⟩ : ∃ y_ : List Int, y_ = (al ++ List.replicate (aw : Int).toNat 0) := ⟨_, rfl⟩
       replace H : ((A0u.f k ar).bind fun am => (some (wrap64 ((wrap64 (aj)) - (wrap64 (IntKind.u64.wrap (2 * am))))))) = some r := by first | (rw [ah]; with_reducible exact H) | (have H2_ := (Option.bind_some _ _).symm.trans H; rw [ah]; with_reducible exact H2_) | (have H2_ := (Option.bind_some _ _).symm.trans H; with_reducible exact H2_) | with_reducible exact H | (rw [ah]; exact H) | exact H
       have ax := ak ah; clear ah; replace H := bkH H; obtain ⟨am, aM, H⟩ := H; obtain rfl := Option.some.inj H
       go_enter Tryd.func78, Tryd.ntmps78
       go_wp2_with (first | ((with_reducible refine A0l (f := 45) rfl ?_); refine A1d (some 5) rfl rfl Tryd.func45 (by kernel_rfl) rfl #[.slice A0 l0.length c0] rfl km ?_; (with_reducible refine (A0u.calls k _ _ l0 aj _ ?aa ?ac A2.out).mono ?_); (case aa => exact kC av.out); (case ac => exact a1.out); rintro e w' ⟨rfl, ⟨nd, rfl⟩⟩; refine ⟨_, rfl, ?_⟩; have ai : 0 ≤ (0 : Int) := (by omega); have af : 0 < (l0.length : Int) := kD; obtain ⟨ay, au, ad⟩ := Kd.A2y av.out 0 ai af; cases au; have az : (0 < l0.length) = True := eq_true (by omega); (try rw [show ((0 : Int)).toNat = 0 from rfl] at ad); (try rw [Addr.add_zero'] at ad); replace ai := kEt ai; (try (have ae := af; simp only [List.length_drop, List.length_take] at ae; replace ae := kEt ae)); replace af := kEt af) | ((with_reducible refine A0s (N := 22) rfl ?_); (try (refine A10 (by rfl) ?_; dsimp only)); refine Kd.R_lit (Kd.int .u8) _ 5 ?hg (N := 22) ?hd (xs := ([1] : List Int)) (inner := [.int .u8 1]) (ok := fun _ => True) (okp := fun _ => True) ?hr ?hp (fun _ hk => hk) trivial (Below.refl _ _) (Nat.le_refl _) (by simp) ?_; (case hd => rfl); (case hg => rfl); (case hr => first | (go_simp; done) | (go_simp; rfl)); (case hp => exact (Reps.one (show Kd.M (Kd.int .u8) _ _ _ 1 [.int .u8 1] from rfl) (Reps.none _ _))); intro a8 aP ho12 hb hg_ hnew_; clear hg_ hnew_; (first | rw [← ap.out] at ho12 | (simp only [Int.reduceToNat] at ho12; rw [← ap.out] at ho12)); have aq := ak (Kd.A2l ho12 (A0t (kl HB))); replace HB := kH HB hb; clear hb ho12) | (at_builtin; refine Kd.R_append_zeros (Kd.int .u8) (w0 := w) w.heap.size rfl (.tmp 22) (.tmp 25) 22 3 5 (.int .u8 0) 1 rfl Tryd.underlying22 Tryd.underlying3 info5 rfl (by decide) (by omega) a8 al 0 (aw : Int) (fun _ => True) rfl rfl rfl ?aF ?aO kD ?aB ?aS ?aL ?_; (case aB => exact (kl HB)); (case aF => exact (fun _ _ => trivial)); (case aO => exact (kr aq)); (case aS => exact (A0t (kl HB))); (case aL => have := LMc9.out; omega); intro aN aQ ho hb hg hat; (try simp only [Int.reduceToNat] at ho); rw [← ax.out] at ho; have aE := ak (hb); have aG := ak (ho); clear HB; clear aq; have HB := aE; have ao := aG; clear aE aG; clear ho hb hg hat; obtain ⟨a9, aA, aC⟩ := Kd.A11 ao.out; subst aC) | ((with_reducible refine A0l (f := 45) rfl ?_); refine A1d (some 27) rfl rfl Tryd.func45 (by kernel_rfl) rfl #[.slice a9 ar.length aA] rfl km ?_; (with_reducible refine (A0u.calls k _ _ ar am _ ?aa ?ac aM.out).mono ?_); (case aa => exact kC (Kd.A0y ao.out).2.2); (case ac => exact (Kd.A0y ao.out).2.1); rintro e w' ⟨rfl, ⟨nd, rfl⟩⟩; refine ⟨_, rfl, ?_⟩))
       go_ret
       exact ⟨by first | rfl | (simp [A0i, A0j] <;> rfl) | (simp only [← an]; first | rfl | (simp [A0i, A0j] <;> rfl)) | (simp [*, A0i, A0j] <;> rfl), (kl HB)⟩
      exact (kA c9 H).elim
     exact (kA c8 H).elim
    rw [kIn c6] at H; obtain ⟨a6, a7⟩ := kqF c6; obtain rfl := Option.some.inj H
    go_enter Tryd.func78, Tryd.ntmps78
    go_wp2_with (first | ((with_reducible refine A0l (f := 45) rfl ?_); refine A1d (some 5) rfl rfl Tryd.func45 (by kernel_rfl) rfl #[.slice A0 l0.length c0] rfl km ?_; (with_reducible refine (A0u.calls k _ _ l0 aj _ ?aa ?ac A2.out).mono ?_); (case aa => exact kC av.out); (case ac => exact a1.out); rintro e w' ⟨rfl, ⟨nd, rfl⟩⟩; refine ⟨_, rfl, ?_⟩; have ai : 0 ≤ (0 : Int) := (by omega); have af : 0 < (l0.length : Int) := kD; obtain ⟨ay, au, ad⟩ := Kd.A2y av.out 0 ai af; cases au; have az : (0 < l0.length) = True := eq_true (by omega); (try rw [show ((0 : Int)).toNat = 0 from rfl] at ad); (try rw [Addr.add_zero'] at ad); replace ai := kEt ai; (try (have ae := af; simp only [List.length_drop, List.length_take] at ae; replace ae := kEt ae)); replace af := kEt af))
    go_ret
    exact ⟨kF, (kl HB)⟩
   exact (kA c5 H).elim
  rw [kIn c4] at H; have a4 : decide ((l0.length : Int) < 64) = false := kFf c4; have a5 : decide (l0.length < 64) = false := kFf (by omega); clear c4; obtain rfl := Option.some.inj H
  go_enter Tryd.func78, Tryd.ntmps78
  go_wp2_with (first | ((with_reducible refine A0l (f := 45) rfl ?_); refine A1d (some 5) rfl rfl Tryd.func45 (by kernel_rfl) rfl #[.slice A0 l0.length c0] rfl km ?_; (with_reducible refine (A0u.calls k _ _ l0 aj _ ?aa ?ac A2.out).mono ?_); (case aa => exact kC av.out); (case ac => exact a1.out); rintro e w' ⟨rfl, ⟨nd, rfl⟩⟩; refine ⟨_, rfl, ?_⟩))
  go_ret
  exact ⟨kF, (kl HB)⟩
 rw [kIn c3] at H; have a2 : decide (0 < (l0.length : Int)) = false := kFf c3; have a3 : decide (0 < l0.length) = false := kFf (by omega); clear c3; obtain rfl := Option.some.inj H
 go_enter Tryd.func78, Tryd.ntmps78
 go_wp2_with (first | ((with_reducible refine A0l (f := 45) rfl ?_); refine A1d (some 5) rfl rfl Tryd.func45 (by kernel_rfl) rfl #[.slice A0 l0.length c0] rfl km ?_; (with_reducible refine (A0u.calls k _ _ l0 aj _ ?aa ?ac A2.out).mono ?_); (case aa => exact kC av.out); (case ac => exact a1.out); rintro e w' ⟨rfl, ⟨nd, rfl⟩⟩; refine ⟨_, rfl, ?_⟩))
 go_ret
 exact ⟨kF, (kl HB)⟩
def A20.f (l0 : List Int) (l1 : List Int) : Option (Bool) := if (l0.length : Int) ≥ (l1.length : Int) then (if 0 ≤ (mn (l0.length : Int) (l1.length : Int)) then (if (mn (l0.length : Int) (l1.length : Int)) ≤ (l0.length : Int) then (some ((strOfNums (l0.take ((mn (l0.length : Int) (l1.length : Int)) : Int).toNat)).toList == (strOfNums l1).toList)) else (none)) else (none)) else (some false)
theorem A20.calls (A0 : Option Addr) (c0 : Nat) (l0 : List Int) (A1 : Option Addr) (c1 : Nat) (l1 : List Int) (r : Bool) (w : World) (hr0 : Kd.C (Kd.int .u8) w A0 l0.length l0) (hc0 : l0.length ≤ c0) (hr1 : Kd.C (Kd.int .u8) w A1 l1.length l1) (hc1 : l1.length ≤ c1) (h : A20.f l0 l1 = some r) :
  Calls Tryd.prog 79 #[.slice A0 l0.length c0, .slice A1 l1.length c1] w fun e w' => e = .returned (.bool r) ∧ Below w.heap.size w w' := by
 have au := ak hr0; have av := ak hc0; clear hr0 hc0; have ai := ak hr1; have a1 := ak hc1; clear hr1 hc1; have HB := ak (Below.refl w.heap.size w); have H := h; clear h; unfold A20.f at H
 by_cases c3 : (l0.length : Int) ≥ (l1.length : Int)
 ·rw [kIp c3] at H; have aj : decide ((l1.length : Int) ≤ (l0.length : Int)) = true := kTt c3; have al : decide (l1.length ≤ l0.length) = true := kTt (Int.ofNat_le.mp c3); clear c3; obtain ⟨aa, ac⟩ := kX (mn (l0.length : Int) (l1.length : Int))
  (first | rw [ac] at H | simp only [ac] at H)
  (try (have am : 0 ≤ aa := by (rw [← ac]; unfold mn; (repeat' split) <;> omega))); (try (have an : 0 ≤ aa := by omega)); have ae : (if (l1.length : Int) < (l0.length : Int) then (l1.length : Int) else (l0.length : Int)) = aa := ac; (try (have af := ae; simp only [Int.ofNat_lt] at af))
  by_cases c5 : 0 ≤ (aa)
  ·rw [kIp c5] at H; have aw := kEt c5; have ax : decide (0 ≤ (aa)) = true := kTt c5; clear c5
   by_cases c6 : (aa) ≤ (l0.length : Int)
   ·rw [kIp c6] at H; have ay := kEt c6; have az : decide ((aa) ≤ (l0.length : Int)) = true := kTt c6; clear c6; obtain rfl := Option.some.inj H; obtain ⟨a2, ag, _, ah, _⟩ := info_parts info5; obtain ⟨ao, ap, aq⟩ := A27 (P := Tryd.prog) (Value.int .u8) 0 22 5 .i64 Tryd.underlying22 ag ah A0 c0 l0 (aa) kD kD av.out; have ad := ak (Kd.A2b (h1 := fun _ => rfl) (ap _ (Kd.A18 au.out))); have ar := ak aq; clear ap aq ag ah; have hcv8 := Kd.A3m (P := Tryd.prog) (A := A0) (c := c0) Tryd.underlying22 Tryd.underlying5 Tryd.underlying9 ad.out
    have hcv8d := fun (m_ : Nat) => Kd.A3m (P := Tryd.prog) (A := A0) (c := c0) Tryd.underlying22 Tryd.underlying5 Tryd.underlying9 (Kd.C_drewN ad.out m_)
    (try (have hcv8e := Kd.A3m (P := Tryd.prog) (A := A0) (c := c0) Tryd.underlying22 Tryd.underlying5 Tryd.underlying9 (Kd.C_drew ad.out))); (try (have hle_ : aa ≤ (l0.length : Int) := kD; have hln_ : (l0.take (aa : Int).toNat).length = (aa : Int).toNat := (by rw [List.length_take]; omega); (try (have hcv8t := hcv8; rw [hln_] at hcv8t)); (try (have hcv8u := hcv8e; rw [hln_] at hcv8u)); clear hle_ hln_)); have hcv9 := Kd.A3m (P := Tryd.prog) (A := A1) (c := c1) Tryd.underlying22 Tryd.underlying5 Tryd.underlying9 ai.out
    have hcv9d := fun (m_ : Nat) => Kd.A3m (P := Tryd.prog) (A := A1) (c := c1) Tryd.underlying22 Tryd.underlying5 Tryd.underlying9 (Kd.C_drewN ai.out m_)
    (try (have hcv9e := Kd.A3m (P := Tryd.prog) (A := A1) (c := c1) Tryd.underlying22 Tryd.underlying5 Tryd.underlying9 (Kd.C_drew ai.out)))
    go_enter Tryd.func79, Tryd.ntmps79
    go_wp2
    repeat ((first | go_quiet (fail) | go_region); try go_wp2)
    go_ret
    exact ⟨by first | rfl | (simp [A0i, A0j] <;> rfl) | (simp only [← ac]; first | rfl | (simp [A0i, A0j] <;> rfl)) | (simp [*, A0i, A0j] <;> rfl), (kl HB)⟩
   exact (kA c6 H).elim
  exact (kA c5 H).elim
 rw [kIn c3] at H; have aj : decide ((l1.length : Int) ≤ (l0.length : Int)) = false := kFf c3; have al : decide (l1.length ≤ l0.length) = false := kFf (fun h => c3 (Int.ofNat_le.mpr h)); clear c3; obtain rfl := Option.some.inj H
 go_enter Tryd.func79, Tryd.ntmps79
 go_wp2
 repeat ((first | go_quiet (fail) | go_region); try go_wp2)
 go_ret
 exact ⟨kF, (kl HB)⟩
def A2d.l0 : Nat → Int → Int → Int → Int → Option (Bool)
 | 0, _, _, _, _ => none
 | k + 1, x0, x1, x5, x6 => if x6 < x1 then (A2d.l0 k x0 x1 (wrap64 (2 * x5)) (wrap64 (x6 + 1))) else (if x0 ≥ (wrap64 (-x5)) then (some (decide (x0 ≤ (wrap64 (x5 - 1))))) else (some false))
def A2d.f (k : Nat) (a0 : Int) (a1 : Int) : Option (Bool) := A2d.l0 k a0 a1 1 1
theorem A2d.calls (k : Nat) (a0 : Int) (a1 : Int) (r : Bool) (w : World) (h : A2d.f k a0 a1 = some r) :
  Calls Tryd.prog 119 #[.int .i64 a0, .int .i64 a1] w fun e w' => e = .returned (.bool r) ∧ A0q w w' := by
 have H := h; clear h; unfold A2d.f at H; have H' := ak H; clear H
 go_enter Tryd.func119, Tryd.ntmps119
 go_wp2
 go_loopg [5, 6] k (fun kq v5 v6 w' => ∃ (x5_1 : Int) (x6_1 : Int), v5 = .int .i64 x5_1 ∧ v6 = .int .i64 x6_1 ∧ A0b (A2d.l0 kq a0 a1 x5_1 x6_1 = some r) ∧ A0b (kq ≤ k) ∧ A0q w w')
 case atStart => exact ⟨(1), (1), kE, kE, H', ⟨Nat.le_refl _⟩, by repeat (first | exact A0q.refl _ | apply A0q.step)⟩
 case round =>
  clear H'; obtain ⟨x5_1, x6_1, rfl, rfl, HA, ad, ⟨m1, rfl⟩⟩ := hrel
  cases gk with
  | zero => exact absurd HA.out (by simp [A2d.l0])
  | succ k1 =>
   have H := HA.out; clear HA; simp only [A2d.l0] at H
   by_cases c3 : x6_1 < a1
   ·rw [kIp c3] at H; have aa : decide (x6_1 < a1) = true := kTt c3; clear c3; have H' := ak H; clear H
    go_wp2
    go_roundg k1
    case measure => have := ad.out; omega
    case rel => exact ⟨(wrap64 (2 * x5_1)), (wrap64 (x6_1 + 1)), kE, kE, H', ⟨by have := ad.out; omega⟩, by repeat (first | exact A0q.refl _ | apply A0q.step)⟩
   rw [kIn c3] at H; have aa : decide (x6_1 < a1) = false := kFf c3; clear c3
   by_cases c4 : a0 ≥ (wrap64 (-x5_1))
   ·rw [kIp c4] at H; have ac : decide ((wrap64 (-x5_1)) ≤ a0) = true := kTt c4; clear c4; obtain rfl := Option.some.inj H
    go_wp2
    go_ret
    exact ⟨by first | rfl | (simp; done) | (simp [*]; done), by repeat (first | exact A0q.refl _ | apply A0q.step)⟩
   rw [kIn c4] at H; have ac : decide ((wrap64 (-x5_1)) ≤ a0) = false := kFf c4; clear c4; obtain rfl := Option.some.inj H
   go_wp2
   go_ret
   exact ⟨by first | rfl | (simp; done) | (simp [*]; done), by repeat (first | exact A0q.refl _ | apply A0q.step)⟩
def A1z.l0 : Nat → Int → Int → Option (Int)
 | 0, _, _ => none
 | k + 1, x0, x3 => if x3 < 4 then ((A1o.f x3).bind fun aa => ((A2d.f k x0 aa).bind fun ac => (if ac = true then (some x3) else (A1z.l0 k x0 (wrap64 (x3 + 1)))))) else (some 4)
def A1z.f (k : Nat) (a0 : Int) : Option (Int) := if a0 = 0 then (some 0) else (A1z.l0 k a0 1)
theorem A1z.calls (k : Nat) (a0 : Int) (r : Int) (w : World) (h : A1z.f k a0 = some r) :
  Calls Tryd.prog 105 #[.int .i64 a0] w fun e w' => e = .returned (.int .i64 r) ∧ Below w.heap.size w w' := by
 have HB := ak (Below.refl w.heap.size w); have H := h; clear h; unfold A1z.f at H
 by_cases c2 : a0 = 0
 ·rw [kIp c2] at H; obtain ⟨ad, ae⟩ := kqT c2; clear c2; obtain rfl := Option.some.inj H
  go_enter Tryd.func105, Tryd.ntmps105
  go_wp2
  go_ret
  exact ⟨kF, (kl HB)⟩
 rw [kIn c2] at H; obtain ⟨ad, ae⟩ := kqF c2; have H' := ak H; clear H
 go_enter Tryd.func105, Tryd.ntmps105
 go_wp2
 go_loopg [3] k (fun kq v3 w' => ∃ (aa : Int), v3 = .int .i64 aa ∧ A0b (A1z.l0 kq a0 aa = some r) ∧ A0b (kq ≤ k) ∧ A0b (Below w.heap.size w w'))
 case atStart => exact ⟨(1), kE, H', ⟨Nat.le_refl _⟩, ⟨(kl HB)⟩⟩
 case round =>
  clear H'; obtain ⟨aa, rfl, HA, ah, HB⟩ := hrel
  cases gk with
  | zero => exact absurd HA.out (by simp [A1z.l0])
  | succ k1 =>
   have H := HA.out; clear HA; simp only [A1z.l0] at H
   by_cases c3 : aa < 4
   ·rw [kIp c3] at H; have af : decide (aa < 4) = true := kTt c3; clear c3; replace H := bkH H; obtain ⟨ac, A4, H⟩ := H; replace H := bkH H; obtain ⟨ag, A5, H⟩ := H
    by_cases c6 : ag = true
    ·subst c6
     rw [if_pos rfl] at H; obtain rfl := Option.some.inj H
     go_wp2_with (first | ((with_reducible refine A0l (f := 77) rfl ?_); refine A1d (some 13) rfl rfl Tryd.func77 (by kernel_rfl) rfl #[.int .i64 aa] rfl km ?_; (with_reducible refine (A1o.calls aa ac _ A4.out).mono ?_); rintro e w7 ⟨rfl, hb⟩; refine ⟨_, rfl, ?_⟩; replace HB := kH HB hb; ) | ((with_reducible refine A0l (f := 119) rfl ?_); refine A1d (some 14) rfl rfl Tryd.func119 (by kernel_rfl) rfl #[.int .i64 a0, .int .i64 ac] rfl km ?_; (with_reducible refine (A2d.calls k1 a0 ac true _ A5.out).mono ?_); rintro e w' ⟨rfl, ⟨nd, rfl⟩⟩; refine ⟨_, rfl, ?_⟩))
     go_ret
     exact ⟨kF, (kl HB)⟩
    replace c6 := Bool.eq_false_iff.mpr c6; subst c6
    rw [if_neg (show ¬ (false = true) by decide)] at H; have H' := ak H; clear H
    go_wp2_with (first | ((with_reducible refine A0l (f := 77) rfl ?_); refine A1d (some 13) rfl rfl Tryd.func77 (by kernel_rfl) rfl #[.int .i64 aa] rfl km ?_; (with_reducible refine (A1o.calls aa ac _ A4.out).mono ?_); rintro e w8 ⟨rfl, hb⟩; refine ⟨_, rfl, ?_⟩; replace HB := kH HB hb; ) | ((with_reducible refine A0l (f := 119) rfl ?_); refine A1d (some 14) rfl rfl Tryd.func119 (by kernel_rfl) rfl #[.int .i64 a0, .int .i64 ac] rfl km ?_; (with_reducible refine (A2d.calls k1 a0 ac false _ A5.out).mono ?_); rintro e w' ⟨rfl, ⟨nd, rfl⟩⟩; refine ⟨_, rfl, ?_⟩))
    go_roundg k1
    case measure => have := ah.out; omega
    case rel => exact ⟨(wrap64 (aa + 1)), kE, H', ⟨by have := ah.out; omega⟩, ⟨(kl HB)⟩⟩
   rw [kIn c3] at H; have af : decide (aa < 4) = false := kFf c3; clear c3; obtain rfl := Option.some.inj H
   go_wp2
   go_ret
   exact ⟨kF, (kl HB)⟩
def A1h.l0 : Nat → Int → List Int → Int → Option (List Int)
 | 0, _, _, _ => none
 | k + 1, x0, x5, x6 => if x6 ≥ 0 then (if 0 ≤ x6 then (if x6 < (x5.length : Int) then (A1h.l0 k (IntKind.u64.wrap (Int.tdiv x0 2)) (x5.set (x6 : Int).toNat ((Int.tmod x0 2) % 256)) (wrap64 (x6 - 1))) else (none)) else (none)) else (some x5)
def A1h.f (k : Nat) (a0 : Int) (a1 : Int) : Option (List Int) := if 0 ≤ a1 then (if (a1 : Int).toNat ≤ 281474976710656 then (A1h.l0 k a0 (List.replicate (a1 : Int).toNat 0) (wrap64 (a1 - 1))) else (none)) else (none)
theorem A1h.calls (k : Nat) (a0 : Int) (a1 : Int) (r : List Int) (w : World) (h : A1h.f k a0 a1 = some r) :
  Calls Tryd.prog 106 #[.int .u64 a0, .int .i64 a1] w fun e w' => ∃ ay : Value, e = .returned (ay) ∧ Kd.R (Kd.int .u8) 5 w' w.heap.size (fun _ => True) ay r ∧ Below w.heap.size w w' := by
 have HB := ak (Below.refl w.heap.size w); have H := h; clear h; unfold A1h.f at H
 by_cases c3 : 0 ≤ a1
 ·rw [kIp c3] at H; have a2 := kEt c3; have a3 : decide (0 ≤ a1) = true := kTt c3; clear c3
  by_cases c4 : (a1 : Int).toNat ≤ 281474976710656
  ·rw [kIp c4] at H; have a4 := kEt c4; have a5 : decide ((a1 : Int).toNat ≤ 281474976710656) = true := kTt c4; clear c4; obtain ⟨ai, aa⟩ : ∃ y_ : List Int, y_ = (List.replicate (a1 : Int).toNat 0) := ⟨_, rfl⟩
   replace H : (A1h.l0 k a0 ai (wrap64 (a1 - 1))) = some r := by first | (rw [aa]; with_reducible exact H) | (have H2_ := (Option.bind_some _ _).symm.trans H; rw [aa]; with_reducible exact H2_) | (have H2_ := (Option.bind_some _ _).symm.trans H; with_reducible exact H2_) | with_reducible exact H | (rw [aa]; exact H) | exact H
   have ae := ak aa; clear aa; have H' := ak H; clear H
   go_enter Tryd.func106, Tryd.ntmps106
   go_wp2_with (first | ((with_reducible refine A0s (N := 8) rfl ?_); refine Kd.R_make (Kd.int .u8) _ 5 rfl (N := 8) rfl 22 _ _ rfl a1 rfl rfl Tryd.underlying22 (.int .u8 0) 1 info5 rfl (by decide) (by omega) 0 (ok := fun _ => True) (okp := fun _ => True) rfl (fun _ hk => hk) trivial kD (Nat.le_trans (Nat.mul_le_mul_right _ (kD : a1.toNat ≤ 281474976710656)) (by omega)) (Below.refl _ _) (Nat.le_refl _) ?_; intro ap w5 ho6 hb hg_ hnew_; clear hg_ hnew_; (first | rw [← ae.out] at ho6 | (simp only [Int.reduceToNat] at ho6; rw [← ae.out] at ho6)); have aj := ak (Kd.A2l ho6 (A0t (kl HB))); replace HB := kH HB hb; clear hb ho6))
   go_loopg [0, 6] k (fun kq v0 v6 w' => ∃ (ac : Int) (x5_1 : List Int) (x6_1 : Int), v0 = .int .u64 ac ∧ v6 = .int .i64 x6_1 ∧ A0b (A1h.l0 kq ac x5_1 x6_1 = some r) ∧ A0b (kq ≤ k) ∧ A0b (Kd.R (Kd.int .u8) 5 w' w.heap.size (fun _ => True) ap x5_1) ∧ A0b (Below w.heap.size w w'))
   case atStart => exact ⟨(a0), (ai), (wrap64 (a1 - 1)), kE, kE, H', ⟨Nat.le_refl _⟩, ⟨kr aj⟩, ⟨(kl HB)⟩⟩
   case round =>
    clear H'; obtain ⟨ac, x5_1, x6_1, rfl, rfl, HA, az, HO_5, HB⟩ := hrel
    cases gk with
    | zero => exact absurd HA.out (by simp [A1h.l0])
    | succ k1 =>
     have H := HA.out; clear HA; simp only [A1h.l0] at H
     by_cases c7 : x6_1 ≥ 0
     ·rw [kIp c7] at H; have aq : decide (0 ≤ x6_1) = true := kTt c7; clear c7
      by_cases c8 : 0 ≤ x6_1
      ·rw [kIp c8] at H; have a6 : decide (0 ≤ x6_1) = true := kTt c8; clear c8
       by_cases c9 : x6_1 < (x5_1.length : Int)
       ·rw [kIp c9] at H; have a7 : decide (x6_1 < (x5_1.length : Int)) = true := kTt c9; clear c9; obtain ⟨af, ad⟩ : ∃ y_ : List Int, y_ = (x5_1.set (x6_1 : Int).toNat ((Int.tmod ac 2) % 256)) := ⟨_, rfl⟩
        replace H : (A1h.l0 k1 (IntKind.u64.wrap (Int.tdiv ac 2)) af (wrap64 (x6_1 - 1))) = some r := by first | (rw [ad]; with_reducible exact H) | (have H2_ := (Option.bind_some _ _).symm.trans H; rw [ad]; with_reducible exact H2_) | (have H2_ := (Option.bind_some _ _).symm.trans H; with_reducible exact H2_) | with_reducible exact H | (rw [ad]; exact H) | exact H
        have al := ak ad; clear ad; have H' := ak H; clear H; have ar : 0 ≤ (x6_1 : Int) := kD; have ao : (x6_1 : Int) < ((x5_1.length : Int) : Int) := kD; obtain ⟨ag, au, am, an, gl10, cl10, HG10⟩ := Kd.R_form HO_5.out (by omega)
        (first | cases am | (injection am with ea_ en_ ec_; (first | subst ea_ | (injection ea_ with ea_; subst ea_)); subst ec_; clear en_))
        have GB10 := ak an; have GG10 := ak HG10; clear an gl10 HG10; obtain ⟨av, aw⟩ := Kd.R_celln 0 HO_5.out (x6_1 : Int) ar ao; replace ar := kEt ar
        (try (have ah := ao; simp only [List.length_drop, List.length_take] at ah; replace ah := kEt ah)); replace ao := kEt ao
        have HP11 := Kd.R_putg HO_5.out (x6_1 : Int) ((Int.tmod ac 2) % 256)
        go_wp2_with (first | ((with_reducible refine gate_store (t := 5) (p := 20) rfl ?_); refine store_event (t := 5) (p := 20) (v := ?vo_w12) (w1 := (wr.setCell ⟨ag, (x6_1 : Int).toNat, none⟩ (.int .u8 ((Int.tmod ac 2) % 256)))) ?hg ?ho ?hn ?hr ?_; (case ho => rfl); (case hg => rfl); (case hn => rfl); (case hr => first | (go_simp; done) | (go_simp; rfl)); intro ax hw; have hg : wr.grownBy ax (some ag) := (by rw [hw]; exact HP11.2); have hp_ : Kd.R (Kd.int .u8) 5 ax w.heap.size (fun _ => True) (.slice (some ⟨ag, 0, none⟩) x5_1.length au) af := (by rw [hw, al.out]; exact HP11.1); clear HP11; replace HO_5 := ak (hp_); replace HB := ak ((by rw [hw]; exact A1y (HB.out) GB10.out : Below w.heap.size w ax)); clear hg hw hp_))
        go_roundg k1
        case measure => have := az.out; omega
        case rel => exact ⟨(IntKind.u64.wrap (Int.tdiv ac 2)), (af), (wrap64 (x6_1 - 1)), kE, kE, H', ⟨by have := az.out; omega⟩, ⟨kr HO_5⟩, ⟨(kl HB)⟩⟩
       exact (kA c9 H).elim
      exact (kA c8 H).elim
     rw [kIn c7] at H; have aq : decide (0 ≤ x6_1) = false := kFf c7; clear c7; obtain rfl := Option.some.inj H
     go_wp2
     go_ret
     exact ⟨_, kF, by (with_reducible repeat (first | apply Kd.R_alloc | apply Kd.A00 | apply Kd.A02)); exact HO_5.out, (kl HB)⟩
  exact (kA c4 H).elim
 exact (kA c3 H).elim
end Go.Proofs.YtodocfjbpkicgaaDoor.All
