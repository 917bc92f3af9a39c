-- copied by a program of the session
import Derived.Test.YtodocfjbpkicgaaDoorKvAllx2
namespace Go.Proofs.YtodocfjbpkicgaaDoor.All
open Go.RowKit Go.Proofs.YtodocfjbpkicgaaDoorW.PrintWords Go.Proofs.YtodocfjbpkicgaaDoorW.PrintLast Go.Proofs.YtodocfjbpkicgaaDoorW.PrintMore
attribute [local go_sem] A17 A18 A2o A2p A1y A1z A19 A2a
set_option linter.unusedVariables false
set_option linter.unusedSimpArgs false
def A16.f (a0 : Int) : Option (Int) := if a0 = 1 then (some 7) else (if a0 = 2 then (some 9) else (if a0 = 3 then (some 12) else (if a0 = 4 then (some 64) else (some 0))))
set_option maxHeartbeats 8000000 in
set_option maxRecDepth 100000 in
theorem A16.calls (a0 : Int) (r : Int) (w : World) (h : A16.f a0 = some r) :
  Calls Tryd.prog 107 #[.int .i64 a0] w fun e w' => e = .returned (.int .i64 r) ∧ A09 w w' := by
 have H : (if a0 = 1 then (some 7) else (if a0 = 2 then (some 9) else (if a0 = 3 then (some 12) else (if a0 = 4 then (some 64) else (some 0))))) = some r := h; clear h
 by_cases c2 : a0 = 1
 ·rw [if_pos c2] at H; obtain ⟨aa, ac⟩ := kqT c2; clear c2; obtain rfl := Option.some.inj H
  go_enter Tryd.func107, Tryd.ntmps107
  go_wp2
  go_ret
  exact ⟨by first | rfl | (simp; done) | (simp [*]; done), by repeat (first | exact A09.refl _ | apply A09.step)⟩
 ·rw [if_neg c2] at H; obtain ⟨aa, ac⟩ := kqF c2
  by_cases c3 : a0 = 2
  ·rw [if_pos c3] at H; obtain ⟨ad, ae⟩ := kqT c3; clear c3; obtain rfl := Option.some.inj H
   go_enter Tryd.func107, Tryd.ntmps107
   go_wp2
   go_ret
   exact ⟨by first | rfl | (simp; done) | (simp [*]; done), by repeat (first | exact A09.refl _ | apply A09.step)⟩
  ·rw [if_neg c3] at H; obtain ⟨ad, ae⟩ := kqF c3
   by_cases c4 : a0 = 3
   ·rw [if_pos c4] at H; obtain ⟨af, ag⟩ := kqT c4; clear c4; obtain rfl := Option.some.inj H
    go_enter Tryd.func107, Tryd.ntmps107
    go_wp2
    go_ret
    exact ⟨by first | rfl | (simp; done) | (simp [*]; done), by repeat (first | exact A09.refl _ | apply A09.step)⟩
   ·rw [if_neg c4] at H; obtain ⟨af, ag⟩ := kqF c4
    by_cases c5 : a0 = 4
    ·rw [if_pos c5] at H; obtain ⟨ah, ai⟩ := kqT c5; clear c5; obtain rfl := Option.some.inj H
     go_enter Tryd.func107, Tryd.ntmps107
     go_wp2
     go_ret
     exact ⟨by first | rfl | (simp; done) | (simp [*]; done), by repeat (first | exact A09.refl _ | apply A09.step)⟩
    ·rw [if_neg c5] at H; obtain ⟨ah, ai⟩ := kqF c5; obtain rfl := Option.some.inj H
     go_enter Tryd.func107, Tryd.ntmps107
     go_wp2
     go_ret
     exact ⟨by first | rfl | (simp; done) | (simp [*]; done), by repeat (first | exact A09.refl _ | apply A09.step)⟩
def A1i.l0 : Nat → Int → Int → Option (Int)
 | 0, _, _ => none
 | k + 1, x0, x3 => if x3 < 4 then ((A16.f x3).bind fun aa => (if 0 ≤ (wrap64 (aa - 1)) then (if x0 ≥ (wrap64 (-(shl .i64 1 (wrap64 (aa - 1))))) then (if x0 < (shl .i64 1 (wrap64 (aa - 1))) then (some x3) else (A1i.l0 k x0 (wrap64 (x3 + 1)))) else (A1i.l0 k x0 (wrap64 (x3 + 1)))) else (none))) else (some 4)
def A1i.f (k : Nat) (a0 : Int) : Option (Int) := if a0 = 0 then (some 0) else (A1i.l0 k a0 1)
theorem A1i.A2w : ∀ k, (∀ y0 y1, LeO (A1i.l0 k y0 y1) (A1i.l0 (k + 1) y0 y1))
 | 0 => fun _ _ r h => by simp [A1i.l0] at h
 | k + 1 => by
  have ih0 := A1i.A2w k <;> intros <;> (first | unfold A1i.l0) <;> (
   repeat' first
   | (with_reducible exact ih0 _ _)
   | (with_reducible exact LeO.refl _)
   | (with_reducible exact LeO.none _)
   | (with_reducible refine LeO.ite ?_ ?_)
   | (with_reducible refine LeO.bind ?_ (fun _ => ?_))
   | exact ih0 _ _
   | exact LeO.none _
   | refine LeO.ite ?_ ?_
   | refine LeO.bind ?_ (fun _ => ?_))
theorem A1i.mono : ∀ a0 k, LeO (A1i.f k a0) (A1i.f (k + 1) a0) := by
 intro a0 k
 have ih0 := A1i.A2w k
 unfold A1i.f
 repeat' first
   | (with_reducible exact ih0 _ _)
   | (with_reducible exact LeO.refl _)
   | (with_reducible exact LeO.none _)
   | (with_reducible refine LeO.ite ?_ ?_)
   | (with_reducible refine LeO.bind ?_ (fun _ => ?_))
   | exact ih0 _ _
   | exact LeO.none _
   | refine LeO.ite ?_ ?_
   | refine LeO.bind ?_ (fun _ => ?_)
set_option maxHeartbeats 8000000 in
set_option maxRecDepth 100000 in
theorem A1i.calls (k : Nat) (a0 : Int) (r : Int) (w : World) (h : A1i.f k a0 = some r) :
  Calls Tryd.prog 108 #[.int .i64 a0] w fun e w' => e = .returned (.int .i64 r) ∧ A09 w w' := by
 have H : (if a0 = 0 then (some 0) else (A1i.l0 k a0 1)) = some r := h; clear h
 by_cases c2 : a0 = 0
 ·rw [if_pos c2] at H; obtain ⟨al, am⟩ := kqT c2; clear c2; obtain rfl := Option.some.inj H
  go_enter Tryd.func108, Tryd.ntmps108
  go_wp2
  go_ret
  exact ⟨by first | rfl | (simp; done) | (simp [*]; done), by repeat (first | exact A09.refl _ | apply A09.step)⟩
 ·rw [if_neg c2] at H; obtain ⟨al, am⟩ := kqF c2; have H' := ak H; clear H
  go_enter Tryd.func108, Tryd.ntmps108
  go_wp2
  go_loopg [3] k (fun kq v3 w' => ∃ (aa : Int), v3 = .int .i64 aa ∧ A0g (A1i.l0 kq a0 aa = some r) ∧ A0g (kq ≤ k) ∧ A09 w w')
  case atStart => exact ⟨(1), kE, H', ⟨Nat.le_refl _⟩, by repeat (first | exact A09.refl _ | apply A09.step)⟩
  case round =>
   clear H'; obtain ⟨aa, rfl, HA, aj, ⟨m1, rfl⟩⟩ := hrel
   cases gk with
   | zero => exact absurd HA.out (by simp [A1i.l0])
   | succ k1 =>
    have H := HA.out; clear HA; simp only [A1i.l0] at H
    by_cases c3 : aa < 4
    ·rw [if_pos c3] at H; have an : decide (aa < 4) = true := decide_eq_true c3; clear c3; replace H := bkH H; obtain ⟨af, A4, H⟩ := H; obtain ⟨ac, ag⟩ : ∃ j_ : Int, (wrap64 (af - 1)) = j_ := ⟨_, rfl⟩
     replace H : (if 0 ≤ (ac) then (if a0 ≥ (wrap64 (-(shl .i64 1 (ac)))) then (if a0 < (shl .i64 1 (ac)) then (some aa) else (A1i.l0 k1 a0 (wrap64 (aa + 1)))) else (A1i.l0 k1 a0 (wrap64 (aa + 1)))) else (none)) = some r := by first | (rw [ag] at H; exact H) | (simp only [ag] at H ⊢; exact H)
     (try rw [ag] at A4); have aq : (IntKind.i64.wrap (af - 1)) = ac := (A2b _).trans ag
     by_cases c6 : 0 ≤ (ac)
     ·rw [if_pos c6] at H; have ax := eq_true c6; have ay : decide (0 ≤ (ac)) = true := decide_eq_true c6; clear c6; obtain ⟨ae, ad⟩ : ∃ j_ : Int, (shl .i64 1 (ac)) = j_ := ⟨_, rfl⟩
      replace H : (if a0 ≥ (wrap64 (-(ae))) then (if a0 < (ae) then (some aa) else (A1i.l0 k1 a0 (wrap64 (aa + 1)))) else (A1i.l0 k1 a0 (wrap64 (aa + 1)))) = some r := by first | (rw [ad] at H; exact H) | (simp only [ad] at H ⊢; exact H)
      (try rw [ad] at A4); have ah : (IntKind.i64.wrap (1 * 2 ^ min (ac).toNat 64)) = ae := ad; have ai : (ac) ≤ 64 → (IntKind.i64.wrap (1 * 2 ^ (ac).toNat)) = ae := A3i ad
      have ar : (IntKind.i64.wrap (2 ^ min (ac).toNat 64)) = ae := by have h_ := ah; rw [Int.one_mul] at h_; exact h_
      have au : (ac) ≤ 64 → (IntKind.i64.wrap (2 ^ (ac).toNat)) = ae := fun hle_ => by have h_ := ai hle_; rw [Int.one_mul] at h_; exact h_
      have av : (wrap64 (1 * 2 ^ min (ac).toNat 64)) = ae := (A2b _).symm.trans ah
      have aw : (ac) ≤ 64 → (wrap64 (1 * 2 ^ (ac).toNat)) = ae := fun h_ => (A2b _).symm.trans (ai h_)
      by_cases c8 : a0 ≥ (wrap64 (-(ae)))
      ·rw [if_pos c8] at H; have ao : decide ((wrap64 (-(ae))) ≤ a0) = true := decide_eq_true c8; clear c8
       by_cases c9 : a0 < (ae)
       ·rw [if_pos c9] at H; have ap := decide_eq_true c9; clear c9; obtain rfl := Option.some.inj H
        go_wp2_with (first | ((with_reducible refine A0m (f := 107) rfl ?_); refine A07 (some 12) rfl rfl Tryd.func107 (by kernel_rfl) rfl #[.int .i64 aa] rfl km ?_; (with_reducible refine (A16.calls aa af _ A4.out).mono ?_); rintro e w' ⟨rfl, ⟨nd, rfl⟩⟩; refine ⟨_, rfl, ?_⟩))
        go_ret
        exact ⟨by first | rfl | (simp; done) | (simp only [← ag, ← ad] <;> (first | rfl | simp)) | (simp [*]; done), by repeat (first | exact A09.refl _ | apply A09.step)⟩
       ·rw [if_neg c9] at H; have ap := decide_eq_false c9; clear c9; have H' := ak H; clear H
        go_wp2_with (first | ((with_reducible refine A0m (f := 107) rfl ?_); refine A07 (some 12) rfl rfl Tryd.func107 (by kernel_rfl) rfl #[.int .i64 aa] rfl km ?_; (with_reducible refine (A16.calls aa af _ A4.out).mono ?_); rintro e w' ⟨rfl, ⟨nd, rfl⟩⟩; refine ⟨_, rfl, ?_⟩))
        go_roundg k1
        case measure => have := aj.out; omega
        case rel => exact ⟨(wrap64 (aa + 1)), kE, H', ⟨by have := aj.out; omega⟩, by repeat (first | exact A09.refl _ | apply A09.step)⟩
      ·rw [if_neg c8] at H; have ao : decide ((wrap64 (-(ae))) ≤ a0) = false := decide_eq_false c8; clear c8; have H' := ak H; clear H
       go_wp2_with (first | ((with_reducible refine A0m (f := 107) rfl ?_); refine A07 (some 12) rfl rfl Tryd.func107 (by kernel_rfl) rfl #[.int .i64 aa] rfl km ?_; (with_reducible refine (A16.calls aa af _ A4.out).mono ?_); rintro e w' ⟨rfl, ⟨nd, rfl⟩⟩; refine ⟨_, rfl, ?_⟩))
       go_roundg k1
       case measure => have := aj.out; omega
       case rel => exact ⟨(wrap64 (aa + 1)), kE, H', ⟨by have := aj.out; omega⟩, by repeat (first | exact A09.refl _ | apply A09.step)⟩
     ·rw [if_neg c6] at H
      exact absurd H (by simp)
    ·rw [if_neg c3] at H; have an : decide (aa < 4) = false := decide_eq_false c3; clear c3; obtain rfl := Option.some.inj H
     go_wp2
     go_ret
     exact ⟨by first | rfl | (simp; done) | (simp [*]; done), by repeat (first | exact A09.refl _ | apply A09.step)⟩
def A2k.f (k : Nat) (a0 : Int) : Option (List Int × Int) := (A1i.f k a0).bind fun ac => (if 0 ≤ ac then ((A0v.f k ([] : List Int) 0 (IntKind.u64.wrap ((shl .u64 1 ac) - 1)) ac).bind fun aa => (if ac < 4 then ((A0v.f k aa.1 aa.2 0 1).bind fun ad => ((A16.f ac).bind fun ag => ((A0v.f k ad.1 ad.2 (IntKind.u64.wrap (a0)) ag).bind fun ae => (some (ae.1, ae.2))))) else ((A16.f ac).bind fun ah => ((A0v.f k aa.1 aa.2 (IntKind.u64.wrap (a0)) ah).bind fun af => (some (af.1, af.2)))))) else (none))
theorem A2k.mono : ∀ a0 k, LeO (A2k.f k a0) (A2k.f (k + 1) a0) := by
 intro a0 k
 unfold A2k.f
 repeat' first
   | (with_reducible exact A0v.mono _ _ _ _ _)
   | (with_reducible exact A1i.mono _ _)
   | (with_reducible exact LeO.refl _)
   | (with_reducible exact LeO.none _)
   | (with_reducible refine LeO.ite ?_ ?_)
   | (with_reducible refine LeO.bind ?_ (fun _ => ?_))
   | exact A0v.mono _ _ _ _ _
   | exact A1i.mono _ _
   | exact LeO.none _
   | refine LeO.ite ?_ ?_
   | refine LeO.bind ?_ (fun _ => ?_)
set_option maxHeartbeats 8000000 in
set_option maxRecDepth 100000 in
theorem A2k.calls (k : Nat) (a0 : Int) (r1 : List Int) (r2 : Int) (w : World) (h : A2k.f k a0 = some (r1, r2)) :
  Calls Tryd.prog 102 #[.int .i64 a0] w fun e w' => ∃ bv : Value, e = .returned (.agg #[bv, .int .i64 r2]) ∧ Kd.R (Kd.int .u8) 5 w' w.heap.size (fun _ => True) bv r1 ∧ Below w.heap.size w w' := by
 have hu161 := Tryd.underlying161; have HB := ak (Below.refl w.heap.size w); have H : ((A1i.f k a0).bind fun af => (if 0 ≤ af then ((A0v.f k ([] : List Int) 0 (IntKind.u64.wrap ((shl .u64 1 af) - 1)) af).bind fun am => (if af < 4 then ((A0v.f k am.1 am.2 0 1).bind fun au => ((A16.f af).bind fun a2 => ((A0v.f k au.1 au.2 (IntKind.u64.wrap (a0)) a2).bind fun av => (some (av.1, av.2))))) else ((A16.f af).bind fun a3 => ((A0v.f k am.1 am.2 (IntKind.u64.wrap (a0)) a3).bind fun aw => (some (aw.1, aw.2)))))) else (none))) = some (r1, r2) := h; clear h; replace H := bkH H; obtain ⟨af, A2, H⟩ := H
 by_cases c3 : 0 ≤ af
 ·rw [if_pos c3] at H; have b8 := eq_true c3; have b9 : decide (0 ≤ af) = true := decide_eq_true c3; clear c3; obtain ⟨aB, ar⟩ : ∃ j_ : Int, (shl .u64 1 af) = j_ := ⟨_, rfl⟩
  replace H : ((A0v.f k ([] : List Int) 0 (IntKind.u64.wrap ((aB) - 1)) af).bind fun am => (if af < 4 then ((A0v.f k am.1 am.2 0 1).bind fun au => ((A16.f af).bind fun a2 => ((A0v.f k au.1 au.2 (IntKind.u64.wrap (a0)) a2).bind fun av => (some (av.1, av.2))))) else ((A16.f af).bind fun a3 => ((A0v.f k am.1 am.2 (IntKind.u64.wrap (a0)) a3).bind fun aw => (some (aw.1, aw.2)))))) = some (r1, r2) := by first | (rw [ar] at H; exact H) | (simp only [ar] at H ⊢; exact H)
  (try rw [ar] at A2); have aJ : (IntKind.u64.wrap (1 * 2 ^ min af.toNat 64)) = aB := ar; have aK : af ≤ 64 → (IntKind.u64.wrap (1 * 2 ^ af.toNat)) = aB := A3i ar
  have bw : (IntKind.u64.wrap (2 ^ min af.toNat 64)) = aB := by have h_ := aJ; rw [Int.one_mul] at h_; exact h_
  have bx : af ≤ 64 → (IntKind.u64.wrap (2 ^ af.toNat)) = aB := fun hle_ => by have h_ := aK hle_; rw [Int.one_mul] at h_; exact h_
  replace H := bkH H; obtain ⟨⟨ag, an⟩, A5, H⟩ := H; (try dsimp only at H)
  by_cases c6 : af < 4
  ·rw [if_pos c6] at H; have bq : decide (af < 4) = true := decide_eq_true c6; clear c6; replace H := bkH H; obtain ⟨⟨aq, ax⟩, A7, H⟩ := H; (try dsimp only at H); replace H := bkH H; obtain ⟨a2, A8, H⟩ := H; replace H := bkH H; obtain ⟨⟨aE, aF⟩, A9, H⟩ := H; (try dsimp only at H); simp only [Option.some.injEq, Prod.mk.injEq] at H; obtain ⟨rfl, rfl⟩ := H
   go_enter Tryd.func102, Tryd.ntmps102
   try go_wp2_with (first | ((with_reducible refine A0s (N := 2) rfl ?_); refine bxe 2 #[.slice none 0 0, .int .i64 0] 161 (h := ?_); intro aj hg aL hbox hb; have aa := ak (hbox); have aM := kG hg HB; have a7 := kG hg HB; replace HB := kH HB hb; clear hb hbox hg) | ((with_reducible refine A0m (f := 108) rfl ?_); refine A07 (some 6) rfl rfl Tryd.func108 (by kernel_rfl) rfl #[.int .i64 a0] rfl km ?_; (with_reducible refine (A1i.calls k a0 af _ A2.out).mono ?_); rintro e w' ⟨rfl, ⟨nd, rfl⟩⟩; refine ⟨_, rfl, ?_⟩; (try (rw [A2m aL]; generalize hq_ : World.drewN aL _ = aL; have a8 : A0g (aL.heap[aj]? = some (.cells #[.slice none 0 0, .int .i64 0] 161 (0, 0))) := ⟨by rw [← hq_]; exact (kb aa)⟩; have a9 : A0g (Below w.heap.size w aL) := ⟨by rw [← hq_]; exact (kl HB)⟩; clear aa HB hq_; have aa := a8; have HB := a9; clear a8 a9))) | ((with_reducible refine A0m (f := 111) rfl ?_); refine A07 (some 12) rfl rfl Tryd.func111 (by kernel_rfl) rfl #[.agg #[.slice none 0 0, .int .i64 0], .int .u64 (IntKind.u64.wrap ((aB) - 1)), .int .i64 af] rfl (by (try simp only [List.map_toArray, List.map_cons, List.map_nil]); first | done | (simp only [ar]; rfl) | rfl | (simp only [List.length_drop, List.length_take]; rfl)) ?_; (refine (A0v.calls k _ _ ([] : List Int) 0 (IntKind.u64.wrap ((aB) - 1)) af ag an _ ?ao ?ap A5.out).mono ?_); (case ao => exact Kd.C_nil _ _); (case ap => exact Nat.le_refl _); rintro e bL ⟨br, rfl, ho0, hb⟩; refine ⟨_, rfl, ?_⟩; have ac := ak (Kd.A11 ho0 (A0p (kl HB))); replace aa := kB aa hb; replace HB := kH HB hb) | ((with_reducible refine A0s (N := 4) rfl ?_); refine bxe 4 #[.slice none 0 0, .int .i64 0] 161 (h := ?_); intro ae hg bM hbox hb; replace ac := ak (Kd.A05 (kr ac) hb); have ad := ak (hbox); have aN := kG hg HB; have aA := kG hg HB; replace HB := kH HB hb; obtain ⟨ah, ai⟩ := kN hg aa; replace aa := kB aa hb; clear hb hbox hg; obtain ⟨a4, ay, bs⟩ := Kd.A1w ac.out; subst bs; have bz := ai.out; have b0 := ah.out; obtain ⟨aY, aZ⟩ := kc2 ad; obtain ⟨ba, bb⟩ := kf2 ad) | ((with_reducible refine A0m (f := 111) rfl ?_); refine A07 (some 16) rfl rfl Tryd.func111 (by kernel_rfl) rfl #[.agg #[.slice a4 ag.length ay, .int .i64 an], .int .u64 0, .int .i64 1] rfl km ?_; (with_reducible refine (A0v.calls k _ _ ag an 0 1 aq ax _ ?ao ?ap A7.out).mono ?_); (case ao => refine (Kd.A1u (e := 5) (base := w.heap.size) (ok := fun k_ => True) (n := ag.length) (c := ay) ?_).2.2; exact (by (with_reducible repeat (first | apply Kd.A1g | apply Kd.A1h | apply Kd.A1f)); exact (Kd.A1a (Kd.A0r (p := ⟨ae, 1, none⟩) (Kd.A0r (p := ⟨ae, 0, none⟩) (Kd.A1c ac.out ad.out (by decide)) (fun _ hk => hk.2) (.slice a4 ag.length ay)) (fun _ hk => hk.2) (.int .i64 an)) (fun _ h_ => h_.1)))); (case ap => exact (Kd.A1u ac.out).2.1); rintro e bA ⟨bB, rfl, ho0, hb⟩; refine ⟨_, rfl, ?_⟩; have al := ak (Kd.A11 (Kd.A3o ho0 (Kd.R_lt (by (with_reducible repeat (first | apply Kd.A1g | apply Kd.A1h | apply Kd.A1f)); exact (Kd.A1a (Kd.A0r (p := ⟨ae, 1, none⟩) (Kd.A0r (p := ⟨ae, 0, none⟩) (Kd.A1c ac.out ad.out (by decide)) (fun _ hk => hk.2) (.slice a4 ag.length ay)) (fun _ hk => hk.2) (.int .i64 an)) (fun _ h_ => h_.1))))) (A0p (kl HB))); replace ac := ak (Kd.A3n (by (with_reducible repeat (first | apply Kd.A1g | apply Kd.A1h | apply Kd.A1f)); exact (Kd.A1a (Kd.A0r (p := ⟨ae, 1, none⟩) (Kd.A0r (p := ⟨ae, 0, none⟩) (Kd.A1c ac.out ad.out (by decide)) (fun _ hk => hk.2) (.slice a4 ag.length ay)) (fun _ hk => hk.2) (.int .i64 an)) (fun _ h_ => h_.1))) (Kd.A3k ho0) hb); replace aa := ak (A08 (g := aj) (o := .cells #[.slice none 0 0, .int .i64 0] 161 (0, 0)) (kb aa) hb); replace ad := ak (A08 (g := ae) (o := .cells #[.slice a4 ag.length ay, .int .i64 an] 161 (0, 0)) (kb ad) hb); replace HB := kH HB hb; obtain ⟨az, a1, bt⟩ := Kd.A1w al.out; subst bt; obtain ⟨bc, be⟩ := kc2 ad; obtain ⟨bf, bg⟩ := kf2 ad))
   generalize hw_ : ((bA.setCell ⟨ae, 0, none⟩ (.slice az aq.length a1)).setCell ⟨ae, 1, none⟩ (.int .i64 ax)) = aI; have a8 : A0g (Kd.R (Kd.int .u8) 5 aI w.heap.size (fun k_ => some k_ ≠ (.slice az aq.length a1 : Value).ownBlock) (.slice a4 ag.length ay) ag) := ⟨by rw [← hw_]; (with_reducible repeat (first | apply Kd.A1g | apply Kd.A1h | apply Kd.A1f)); exact Kd.A1a (Kd.A0r (p := ⟨ae, 1, none⟩) (Kd.A0r (p := ⟨ae, 0, none⟩) (Kd.A1c ac.out ad.out (by decide)) (fun _ hk => hk.2) (.slice az aq.length a1)) (fun _ hk => hk.2) (.int .i64 ax)) (fun _ hk => hk.1.2)⟩; have a9 : A0g (Kd.R (Kd.int .u8) 5 aI w.heap.size (fun k_ => some k_ ≠ (.slice a4 ag.length ay : Value).ownBlock) (.slice az aq.length a1) aq) := ⟨by rw [← hw_]; (with_reducible repeat (first | apply Kd.A1g | apply Kd.A1h | apply Kd.A1f)); exact Kd.A1a (Kd.A0r (p := ⟨ae, 1, none⟩) (Kd.A0r (p := ⟨ae, 0, none⟩) (Kd.A1c al.out ad.out (by decide)) (fun _ hk => hk.2) (.slice az aq.length a1)) (fun _ hk => hk.2) (.int .i64 ax)) (fun _ hk => hk.1.2)⟩; have aO : A0g (aI.heap[aj]? = some (.cells #[.slice none 0 0, .int .i64 0] 161 (0, 0))) := ⟨by rw [← hw_]; exact kb aa⟩; have aP : A0g (aI.heap[ae]? = some (.cells #[.slice az aq.length a1, .int .i64 ax] 161 (0, 0))) := ⟨by rw [← hw_]; exact kb ad⟩; have b1 : A0g (Below w.heap.size w aI) := ⟨by rw [← hw_]; repeat (first | (with_reducible first | exact HB.out | apply A0i | apply A0d | apply A0e | refine A0a ?_ a7.out | refine A0a ?_ aA.out) | exact HB.out)⟩; clear hw_; have ac := a8; have al := a9; have aa := aO; have ad := aP; have HB := b1; clear a8 a9 aO aP b1; replace ac := ak (Kd.A1f ac.out); replace al := ak (Kd.A1f al.out); replace aa := ak (A0o aa.out); replace ad := ak (A0o ad.out); replace HB := ak (A0e HB.out); refine A12 (n := 7) (S := fun w' => w'.cell? ⟨ae, 0, none⟩ = some (.slice az aq.length a1) ∧ w'.cell? ⟨ae, 1, none⟩ = some (.int .i64 ax)) (ds := []) (bl 7 0) (by kernel_rfl) rfl rfl kz (fun hHeld => ?_); generalize aI.drew = bN at ac al aa ad HB hHeld ⊢; refine pu 1 (some 18) (bl 7 2) (h := ?_); refine pu 2 (some 19) (bl 7 6) (h := ?_); refine pu 3 (some 20) (bl 7 14) (h := ?_); refine ta 0 (some 17) (bl 7 15) (h := ?_); refine one_ (i := 4) (N := some 21) (bl 7 31) rfl rfl (by kernel_rfl) (by decide) (fun K hK => ?_); refine goes_ Tryd.func107 (by kernel_rfl) rfl #[.int .i64 af] (by rfl) rfl rfl km ?_
   with_reducible refine (A16.calls af a2 _ A8.out).mono ?_
   rintro e w' ⟨rfl, ⟨nd, rfl⟩⟩; refine ⟨_, rfl, ?_⟩; refine hK.out _ _ kz (fun hHeld => ?_); clear hK K; refine nm (some 21) (h := ?_)
   refine one_ (i := 5) (N := some 22) (bl 7 63) rfl rfl (by kernel_rfl) (by decide) (fun K hK => ?_); refine goes_ Tryd.func111 (by kernel_rfl) rfl #[.agg #[.slice az aq.length a1, .int .i64 ax], .int .u64 (IntKind.u64.wrap (a0)), .int .i64 a2] (by rfl) rfl rfl km ?_
   with_reducible refine (A0v.calls k _ _ aq ax (IntKind.u64.wrap (a0)) a2 aE aF _ ?ao ?ap A9.out).mono ?_
   (case ao => repeat (first | exact (Kd.A1u al.out).2.2 | (with_reducible refine Kd.A2r ?_ _) | (with_reducible refine Kd.A2v ?_ _) | (with_reducible refine Kd.A3c ?_)))
   (case ap => exact (Kd.A1u al.out).2.1)
   rintro e bO ⟨bC, rfl, ho0, hb⟩; refine ⟨_, rfl, ?_⟩; have aC := ak (Kd.A11 (Kd.A3o (Kd.A3o ho0 (Kd.R_lt (kr ac))) (Kd.R_lt (kr al))) (A0p (kl HB))); replace ac := ak (Kd.A3n (kr ac) (Kd.A3k ho0) hb); replace al := ak (Kd.A3n (kr al) (Kd.A3k ho0) hb); replace aa := kB aa hb; replace ad := kB ad hb; replace HB := kH HB hb; obtain ⟨aQ, aR, aS⟩ := Kd.A1w aC.out
   (first | subst aS | (injection aS with f1_ f2_ f3_; have f4_ := f1_.symm; have f5_ := f3_.symm; clear f1_ f2_ f3_; subst f4_; subst f5_))
   refine hK.out _ _ kz (fun hHeld => ?_); clear hK K; refine nm (some 22) (h := ?_)
   refine one_ (i := 6) (N := none) (bl 7 127) rfl rfl (by kernel_rfl) (by decide) (fun K hK => ?_); have bD := (kc2 aa).1; have b2 := A0c aa.out 0; have bh := ai.out; have bi := ah.out; have bE := (kc2 aa).2; have b3 := A0c aa.out 1; refine A2x (w1 := ?_) (by rfl) rfl ?_ ?_
   rotate_left
   ·go_simp
    rfl
   refine hK.out _ _ (ks hHeld) (fun hHeld => ?_); clear hK K; refine A2y (by kernel_rfl) ?_
   try go_wp2
   refine bodyPost_ret (results_cell_row rfl _ _ aj 161 #[.slice aQ aE.length aR, .int .i64 aF] (0, 0) _ rfl (kb aa) Tryd.underlying161 rfl (by kernel_rfl)) rfl ?_
   exact ⟨_, by first | rfl | (simp [A0k, A0l] <;> rfl) | (simp only [← ar]; first | rfl | (simp [A0k, A0l] <;> rfl)) | (simp [*, A0k, A0l] <;> rfl), by (with_reducible repeat (first | apply Kd.A1g | apply Kd.A1h | apply Kd.A1f)); exact Kd.A1a (Kd.A0r (p := ⟨aj, 1, none⟩) (Kd.A0r (p := ⟨aj, 0, none⟩) (Kd.A1c aC.out aa.out (by decide)) (fun _ hk => hk.2) (.slice aQ aE.length aR)) (fun _ hk => hk.2) (.int .i64 aF)) (fun _ hk => trivial), (kl HB)⟩
  ·rw [if_neg c6] at H; have bq : decide (af < 4) = false := decide_eq_false c6; clear c6; replace H := bkH H; obtain ⟨a3, bF, H⟩ := H; replace H := bkH H; obtain ⟨⟨aG, aH⟩, bG, H⟩ := H; (try dsimp only at H); simp only [Option.some.injEq, Prod.mk.injEq] at H; obtain ⟨rfl, rfl⟩ := H
   go_enter Tryd.func102, Tryd.ntmps102
   try go_wp2_with (first | ((with_reducible refine A0s (N := 2) rfl ?_); refine bxe 2 #[.slice none 0 0, .int .i64 0] 161 (h := ?_); intro aj hg aT hbox hb; have aa := ak (hbox); have aM := kG hg HB; have a7 := kG hg HB; replace HB := kH HB hb; clear hb hbox hg) | ((with_reducible refine A0m (f := 108) rfl ?_); refine A07 (some 6) rfl rfl Tryd.func108 (by kernel_rfl) rfl #[.int .i64 a0] rfl km ?_; (with_reducible refine (A1i.calls k a0 af _ A2.out).mono ?_); rintro e w' ⟨rfl, ⟨nd, rfl⟩⟩; refine ⟨_, rfl, ?_⟩; (try (rw [A2m aT]; generalize hq_ : World.drewN aT _ = aT; have a8 : A0g (aT.heap[aj]? = some (.cells #[.slice none 0 0, .int .i64 0] 161 (0, 0))) := ⟨by rw [← hq_]; exact (kb aa)⟩; have a9 : A0g (Below w.heap.size w aT) := ⟨by rw [← hq_]; exact (kl HB)⟩; clear aa HB hq_; have aa := a8; have HB := a9; clear a8 a9))) | ((with_reducible refine A0m (f := 111) rfl ?_); refine A07 (some 12) rfl rfl Tryd.func111 (by kernel_rfl) rfl #[.agg #[.slice none 0 0, .int .i64 0], .int .u64 (IntKind.u64.wrap ((aB) - 1)), .int .i64 af] rfl (by (try simp only [List.map_toArray, List.map_cons, List.map_nil]); first | done | (simp only [ar]; rfl) | rfl | (simp only [List.length_drop, List.length_take]; rfl)) ?_; (refine (A0v.calls k _ _ ([] : List Int) 0 (IntKind.u64.wrap ((aB) - 1)) af ag an _ ?ao ?ap A5.out).mono ?_); (case ao => exact Kd.C_nil _ _); (case ap => exact Nat.le_refl _); rintro e bP ⟨br, rfl, ho0, hb⟩; refine ⟨_, rfl, ?_⟩; have ac := ak (Kd.A11 ho0 (A0p (kl HB))); replace aa := kB aa hb; replace HB := kH HB hb) | ((with_reducible refine A0s (N := 4) rfl ?_); refine bxe 4 #[.slice none 0 0, .int .i64 0] 161 (h := ?_); intro ae hg bH hbox hb; replace ac := ak (Kd.A05 (kr ac) hb); have ad := ak (hbox); have aN := kG hg HB; have aA := kG hg HB; replace HB := kH HB hb; obtain ⟨ah, ai⟩ := kN hg aa; replace aa := kB aa hb; clear hb hbox hg; obtain ⟨a5, a6, bu⟩ := Kd.A1w ac.out; subst bu; have b4 := ai.out; have b5 := ah.out; obtain ⟨bj, bk⟩ := kc2 ad; obtain ⟨bm, bn⟩ := kf2 ad))
   generalize hw_ : ((bH.setCell ⟨ae, 0, none⟩ (.slice a5 ag.length a6)).setCell ⟨ae, 1, none⟩ (.int .i64 an)) = aU; have a8 : A0g (Kd.R (Kd.int .u8) 5 aU w.heap.size (fun _ => True) (.slice a5 ag.length a6) ag) := ⟨by rw [← hw_]; (with_reducible repeat (first | apply Kd.A1g | apply Kd.A1h | apply Kd.A1f)); exact Kd.A1a (Kd.A0r (p := ⟨ae, 1, none⟩) (Kd.A0r (p := ⟨ae, 0, none⟩) (Kd.A1c ac.out ad.out (by decide)) (fun _ hk => hk.2) (.slice a5 ag.length a6)) (fun _ hk => hk.2) (.int .i64 an)) (fun _ hk => trivial)⟩; have a9 : A0g (aU.heap[aj]? = some (.cells #[.slice none 0 0, .int .i64 0] 161 (0, 0))) := ⟨by rw [← hw_]; exact kb aa⟩; have aO : A0g (aU.heap[ae]? = some (.cells #[.slice a5 ag.length a6, .int .i64 an] 161 (0, 0))) := ⟨by rw [← hw_]; exact kb ad⟩; have aP : A0g (Below w.heap.size w aU) := ⟨by rw [← hw_]; repeat (first | (with_reducible first | exact HB.out | apply A0i | apply A0d | apply A0e | refine A0a ?_ a7.out | refine A0a ?_ aA.out) | exact HB.out)⟩; clear hw_; have ac := a8; have aa := a9; have ad := aO; have HB := aP; clear a8 a9 aO aP; replace ac := ak (Kd.A1f ac.out); replace aa := ak (A0o aa.out); replace ad := ak (A0o ad.out); replace HB := ak (A0e HB.out); refine A12 (n := 7) (S := fun w' => w'.cell? ⟨ae, 0, none⟩ = some (.slice a5 ag.length a6) ∧ w'.cell? ⟨ae, 1, none⟩ = some (.int .i64 an)) (ds := []) (bl 7 0) (by kernel_rfl) rfl rfl kz (fun hHeld => ?_); generalize aU.drew = bQ at ac aa ad HB hHeld ⊢; refine pu 1 (some 18) (bl 7 2) (h := ?_); refine pu 2 (some 19) (bl 7 6) (h := ?_); refine pu 3 (some 20) (bl 7 14) (h := ?_); refine ta 0 (some 17) (bl 7 15) (h := ?_); refine one_ (i := 4) (N := some 21) (bl 7 31) rfl rfl (by kernel_rfl) (by decide) (fun K hK => ?_); refine goes_ Tryd.func107 (by kernel_rfl) rfl #[.int .i64 af] (by rfl) rfl rfl km ?_
   with_reducible refine (A16.calls af a3 _ bF.out).mono ?_
   rintro e w' ⟨rfl, ⟨nd, rfl⟩⟩; refine ⟨_, rfl, ?_⟩; refine hK.out _ _ kz (fun hHeld => ?_); clear hK K; refine nm (some 21) (h := ?_)
   refine one_ (i := 5) (N := some 22) (bl 7 63) rfl rfl (by kernel_rfl) (by decide) (fun K hK => ?_); refine goes_ Tryd.func111 (by kernel_rfl) rfl #[.agg #[.slice a5 ag.length a6, .int .i64 an], .int .u64 (IntKind.u64.wrap (a0)), .int .i64 a3] (by rfl) rfl rfl km ?_
   with_reducible refine (A0v.calls k _ _ ag an (IntKind.u64.wrap (a0)) a3 aG aH _ ?ao ?ap bG.out).mono ?_
   (case ao => repeat (first | exact (Kd.A1u ac.out).2.2 | (with_reducible refine Kd.A2r ?_ _) | (with_reducible refine Kd.A2v ?_ _) | (with_reducible refine Kd.A3c ?_)))
   (case ap => exact (Kd.A1u ac.out).2.1)
   rintro e bR ⟨bI, rfl, ho0, hb⟩; refine ⟨_, rfl, ?_⟩; have aD := ak (Kd.A11 (Kd.A3o ho0 (Kd.R_lt (kr ac))) (A0p (kl HB))); replace ac := ak (Kd.A3n (kr ac) (Kd.A3k ho0) hb); replace aa := kB aa hb; replace ad := kB ad hb; replace HB := kH HB hb; obtain ⟨aV, aW, aX⟩ := Kd.A1w aD.out
   (first | subst aX | (injection aX with f1_ f2_ f3_; have f4_ := f1_.symm; have f5_ := f3_.symm; clear f1_ f2_ f3_; subst f4_; subst f5_))
   refine hK.out _ _ kz (fun hHeld => ?_); clear hK K; refine nm (some 22) (h := ?_)
   refine one_ (i := 6) (N := none) (bl 7 127) rfl rfl (by kernel_rfl) (by decide) (fun K hK => ?_); have bJ := (kc2 aa).1; have b6 := A0c aa.out 0; have bo := ai.out; have bp := ah.out; have bK := (kc2 aa).2; have b7 := A0c aa.out 1; refine A2x (w1 := ?_) (by rfl) rfl ?_ ?_
   rotate_left
   ·go_simp
    rfl
   refine hK.out _ _ (ks hHeld) (fun hHeld => ?_); clear hK K; refine A2y (by kernel_rfl) ?_
   try go_wp2
   refine bodyPost_ret (results_cell_row rfl _ _ aj 161 #[.slice aV aG.length aW, .int .i64 aH] (0, 0) _ rfl (kb aa) Tryd.underlying161 rfl (by kernel_rfl)) rfl ?_
   exact ⟨_, by first | rfl | (simp [A0k, A0l] <;> rfl) | (simp only [← ar]; first | rfl | (simp [A0k, A0l] <;> rfl)) | (simp [*, A0k, A0l] <;> rfl), by (with_reducible repeat (first | apply Kd.A1g | apply Kd.A1h | apply Kd.A1f)); exact Kd.A1a (Kd.A0r (p := ⟨aj, 1, none⟩) (Kd.A0r (p := ⟨aj, 0, none⟩) (Kd.A1c aD.out aa.out (by decide)) (fun _ hk => hk.2) (.slice aV aG.length aW)) (fun _ hk => hk.2) (.int .i64 aH)) (fun _ hk => trivial), (kl HB)⟩
 ·rw [if_neg c3] at H
  exact absurd H (by simp)
end Go.Proofs.YtodocfjbpkicgaaDoor.All
