-- copied by a program of the session
import Derived.Test.YtiahbcaoikoogaaDoorKtAllx27
section
namespace Go.Proofs.YtiahbcaoikoogaaDoor.All
open Go.RowKit Go.Proofs.YtiahbcaoikoogaaDoorW.PrintWords Go.Proofs.YtiahbcaoikoogaaDoorW.PrintLast Go.Proofs.YtiahbcaoikoogaaDoorW.PrintMore
attribute [local go_sem] A2f A2g A2w A2x A18 A19 A2h A2i
set_option linter.unusedVariables false
set_option linter.unusedSimpArgs false
attribute [local go_sem high] eqA24
def A2s.f (k : Nat)  : Option (Bool) := (A1o.f k 1 0 0 0 0 0 0 0 0 1 2).bind fun aa => ((A1o.f k 3 0 0 0 0 0 0 0 0 0 0).bind fun ac => (if aa.2.1 = 128 then (if aa.2.2.1 = 1 then (if aa.2.2.2.1 = 1 then (if (aa.2.2.2.2.2.2.2.1 == 2 && (aa.2.2.2.2.2.2.2.2.1 == 0 && (aa.2.2.2.2.2.2.2.2.2.1 == 0))) = true then (if aa.2.2.2.2.2.2.2.2.2.2.isNone = true then ((A13.f ac.2.2.2.2.2.2.2.2.2.2).bind fun ad => (some (ad == 6))) else (none)) else (none)) else (none)) else (none)) else (none)))
theorem A2s.mono : ∀ k, LeO (A2s.f k ) (A2s.f (k + 1) ) := by
 intro  k
 unfold A2s.f
 repeat' first
   | (with_reducible exact A1o.mono _ _ _ _ _ _ _ _ _ _ _ _)
   | (with_reducible exact LeO.refl _)
   | (with_reducible exact LeO.none _)
   | (with_reducible refine LeO.ite ?_ ?_)
   | (with_reducible refine LeO.bind ?_ (fun _ => ?_))
   | exact A1o.mono _ _ _ _ _ _ _ _ _ _ _ _
   | exact LeO.none _
   | refine LeO.ite ?_ ?_
   | refine LeO.bind ?_ (fun _ => ?_)
set_option maxHeartbeats 8000000 in
set_option maxRecDepth 100000 in
theorem A2s.calls (k : Nat)  (r : Bool) (w : World) (hT : TabOk w) (h : A2s.f k  = some r) :
  Calls Tryd.prog 24 #[] w fun e w' => e = .returned (.bool r) ∧ Below w.heap.size w w' := by
 have hu53 := Tryd.underlying53; have hu59 := Tryd.underlying59; have hu31 := Tryd.underlying31; have hu24 := Tryd.underlying24; have hu37 := Tryd.underlying37; have hu95 := Tryd.underlying95; have HT := ak hT; clear hT; have HB := ak (Below.refl w.heap.size w); have H : ((A1o.f k 1 0 0 0 0 0 0 0 0 1 2).bind fun af => ((A1o.f k 3 0 0 0 0 0 0 0 0 0 0).bind fun aF => (if af.2.1 = 128 then (if af.2.2.1 = 1 then (if af.2.2.2.1 = 1 then (if (af.2.2.2.2.2.2.2.1 == 2 && (af.2.2.2.2.2.2.2.2.1 == 0 && (af.2.2.2.2.2.2.2.2.2.1 == 0))) = true then (if af.2.2.2.2.2.2.2.2.2.2.isNone = true then ((A13.f aF.2.2.2.2.2.2.2.2.2.2).bind fun a2 => (some (a2 == 6))) else (none)) else (none)) else (none)) else (none)) else (none)))) = some r := h; clear h; replace H := bkH H; obtain ⟨⟨a7, a3, a4, a5, a8, a9, aA, ag, ah, ai, bH⟩, A1, H⟩ := H; (try dsimp only at H); replace H := bkH H; obtain ⟨⟨bI, bJ, bK, bL, bM, bN, bO, bP, bQ, bR, aC⟩, A2, H⟩ := H; (try dsimp only at H)
 by_cases c3 : a3 = 128
 ·rw [if_pos c3] at H; obtain ⟨cu, cv⟩ := kqT c3; clear c3
  by_cases c4 : a4 = 1
  ·rw [if_pos c4] at H; obtain ⟨cw, cx⟩ := kqT c4; clear c4
   by_cases c5 : a5 = 1
   ·rw [if_pos c5] at H; obtain ⟨cy, cz⟩ := kqT c5; clear c5
    by_cases c6 : (ag == 2 && (ah == 0 && (ai == 0))) = true
    ·rw [if_pos c6] at H; have cA : (ag == 2 && (ah == 0 && (ai == 0))) = true := c6; (try (have cB : decide (ag = 2 && (ah == 0 && (ai == 0))) = true := by simpa using c6)); (try (have cC : (ag == 2 && (ah == 0 && (ai == 0))) = true := by simpa using c6)); clear c6
     rcases bH with _ | bS
     ·have H1 : ((A13.f aC).bind fun a2 => (some (a2 == 6))) = some r := by rw [if_pos (show (none : Option Int).isNone = true by rfl)] at H; exact H
      clear H; have H := H1; clear H1
      try simp only [A0v, A0w]
      replace H := bkH H; obtain ⟨a2, A7, H⟩ := H; obtain rfl := Option.some.inj H
      go_enter Tryd.func24, Tryd.ntmps24
      go_wp2_with (first | ((with_reducible refine A0h (f := 25) rfl ?_); refine A1b (some 10) rfl rfl Tryd.func25 (by kernel_rfl) rfl #[.int .i64 1, .agg #[.int .i64 0, .int .i64 0, .int .i64 0, .int .u64 0, .int .u64 0, .int .u64 0, .int .i64 0, .int .i64 0], .agg #[.int .i64 1, .int .u64 2]] rfl km ?_; (with_reducible refine (A1o.calls k 1 0 0 0 0 0 0 0 0 1 2 a7 a3 a4 a5 a8 a9 aA ag ah ai none _ ?a6 A1.out).mono ?_); (case a6 => exact TabOk.below HT.out (kl HB) (Nat.le_refl _)); rintro e w8 ⟨cD, rfl, ho0, hb⟩; refine ⟨_, rfl, ?_⟩; have ae := ak (Kd.A1t ho0 (A0n (kl HB))); replace HB := kH HB hb; (try clear hb); (try clear ho0); (try simp only [A0v, A0w])) | ((with_reducible refine A0q (N := 1) rfl ?_); refine bxe 1 #[.slice none 0 0, .int .i64 0] 31 (h := ?_); intro aj hg w9 hbox hb; replace ae := ak (Kd.A1r (kr ae) hb); have aa := ak (hbox); have bV := kG hg HB; have bW := kG hg HB; replace HB := kH HB hb; clear hb hbox hg) | ((with_reducible refine A0q (N := 2) rfl ?_); refine bxe 2 #[.int .i64 0, .int .i64 0, .int .i64 0, .int .u64 0, .int .u64 0, .int .u64 0, .int .i64 0, .int .i64 0] 53 (h := ?_); intro ac hg cH hbox hb; replace ae := ak (Kd.A1r (kr ae) hb); have ad := ak (hbox); have bX := kG hg HB; have bY := kG hg HB; replace HB := kH HB hb; obtain ⟨an, ao⟩ := kN hg aa; replace aa := kB aa hb; clear hb hbox hg; obtain ⟨aD, aE, bT⟩ := Kd.A1w ae.out; subst bT; have bZ := an.out; have ca := ao.out; obtain ⟨aG, aH⟩ := kc2 aa; obtain ⟨aI, aJ⟩ := kf2 aa; obtain ⟨aK, aL, aM, aN, aO, aP, aQ, aR⟩ := kc8 ad; obtain ⟨aS, aT, aU, aV, aW, aX, aY, aZ⟩ := kf8 ad) | ((with_reducible refine A0h (f := 25) rfl ?_); refine A1b (some 17) rfl rfl Tryd.func25 (by kernel_rfl) rfl #[.int .i64 3, .agg #[.int .i64 0, .int .i64 0, .int .i64 0, .int .u64 0, .int .u64 0, .int .u64 0, .int .i64 0, .int .i64 0], .agg #[.int .i64 0, .int .u64 0]] rfl km ?_; (with_reducible refine (A1o.calls k 3 0 0 0 0 0 0 0 0 0 0 bI bJ bK bL bM bN bO bP bQ bR aC _ ?a6 A2.out).mono ?_); (case a6 => exact TabOk.below HT.out (kl HB) (Nat.le_refl _)); rintro e cI ⟨cE, rfl, ho0, hb⟩; refine ⟨_, rfl, ?_⟩; have al := ak (Kd.A1t (Kd.A24 ho0 (Kd.R_lt (by (with_reducible repeat (first | apply Kd.A04 | apply Kd.A05 | apply Kd.A0z)); exact (Kd.A1g (Kd.A1g (Kd.A0s (p := ⟨ac, 7, none⟩) (Kd.A0s (p := ⟨ac, 6, none⟩) (Kd.A0s (p := ⟨ac, 5, none⟩) (Kd.A0s (p := ⟨ac, 4, none⟩) (Kd.A0s (p := ⟨ac, 3, none⟩) (Kd.A0s (p := ⟨ac, 2, none⟩) (Kd.A0s (p := ⟨ac, 1, none⟩) (Kd.A0s (p := ⟨ac, 0, none⟩) (Kd.A0s (p := ⟨aj, 1, none⟩) (Kd.A0s (p := ⟨aj, 0, none⟩) (Kd.A1a (Kd.A1a ae.out aa.out (by decide)) ad.out (by decide)) (fun _ hk => hk.1.2) (.slice aD a7.length aE)) (fun _ hk => hk.1.2) (.int .i64 a3)) (fun _ hk => hk.2) (.int .i64 a4)) (fun _ hk => hk.2) (.int .i64 a5)) (fun _ hk => hk.2) (.int .i64 a8)) (fun _ hk => hk.2) (.int .u64 a9)) (fun _ hk => hk.2) (.int .u64 aA)) (fun _ hk => hk.2) (.int .u64 ag)) (fun _ hk => hk.2) (.int .i64 ah)) (fun _ hk => hk.2) (.int .i64 ai)) (fun _ h_ => h_.1)) (fun _ h_ => h_.1))))) (A0n (kl HB))); replace ae := ak (Kd.A16 (by (with_reducible repeat (first | apply Kd.A04 | apply Kd.A05 | apply Kd.A0z)); exact (Kd.A1g (Kd.A1g (Kd.A0s (p := ⟨ac, 7, none⟩) (Kd.A0s (p := ⟨ac, 6, none⟩) (Kd.A0s (p := ⟨ac, 5, none⟩) (Kd.A0s (p := ⟨ac, 4, none⟩) (Kd.A0s (p := ⟨ac, 3, none⟩) (Kd.A0s (p := ⟨ac, 2, none⟩) (Kd.A0s (p := ⟨ac, 1, none⟩) (Kd.A0s (p := ⟨ac, 0, none⟩) (Kd.A0s (p := ⟨aj, 1, none⟩) (Kd.A0s (p := ⟨aj, 0, none⟩) (Kd.A1a (Kd.A1a ae.out aa.out (by decide)) ad.out (by decide)) (fun _ hk => hk.1.2) (.slice aD a7.length aE)) (fun _ hk => hk.1.2) (.int .i64 a3)) (fun _ hk => hk.2) (.int .i64 a4)) (fun _ hk => hk.2) (.int .i64 a5)) (fun _ hk => hk.2) (.int .i64 a8)) (fun _ hk => hk.2) (.int .u64 a9)) (fun _ hk => hk.2) (.int .u64 aA)) (fun _ hk => hk.2) (.int .u64 ag)) (fun _ hk => hk.2) (.int .i64 ah)) (fun _ hk => hk.2) (.int .i64 ai)) (fun _ h_ => h_.1)) (fun _ h_ => h_.1))) (Kd.A21 ho0) hb); replace aa := ak (A1y (g := aj) (o := .cells #[.slice aD a7.length aE, .int .i64 a3] 31 (0, 0)) (kb aa) hb); replace ad := ak (A1y (g := ac) (o := .cells #[.int .i64 a4, .int .i64 a5, .int .i64 a8, .int .u64 a9, .int .u64 aA, .int .u64 ag, .int .i64 ah, .int .i64 ai] 53 (0, 0)) (kb ad) hb); replace HB := kH HB hb; (try clear hb); (try clear hk); (try clear ho0); (try simp only [A0v, A0w])) | ((with_reducible refine A0q (N := 4) rfl ?_); refine bxe 4 #[.slice none 0 0, .int .i64 0] 31 (h := ?_); intro cc hg cJ hbox hb; replace ae := ak (Kd.A1r (kr ae) hb); replace al := ak (Kd.A1r (kr al) hb); have am := ak (hbox); have cd := kG hg HB; have ce := kG hg HB; replace HB := kH HB hb; obtain ⟨ap, aq⟩ := kN hg aa; replace aa := kB aa hb; obtain ⟨ar, au⟩ := kN hg ad; replace ad := kB ad hb; clear hb hbox hg) | ((with_reducible refine A0q (N := 5) rfl ?_); refine bxe 5 #[.int .i64 0, .int .i64 0, .int .i64 0, .int .u64 0, .int .u64 0, .int .u64 0, .int .i64 0, .int .i64 0] 53 (h := ?_); intro cf hg cK hbox hb; replace ae := ak (Kd.A1r (kr ae) hb); replace al := ak (Kd.A1r (kr al) hb); have aB := ak (hbox); have cg := kG hg HB; have ch := kG hg HB; replace HB := kH HB hb; obtain ⟨av, aw⟩ := kN hg aa; replace aa := kB aa hb; obtain ⟨ax, ay⟩ := kN hg ad; replace ad := kB ad hb; obtain ⟨az, a1⟩ := kN hg am; replace am := kB am hb; clear hb hbox hg; obtain ⟨cF, cG, bU⟩ := Kd.A1w al.out; subst bU; have ci := aq.out; have cj := ap.out; have ck := au.out; have cm := ar.out; have co := az.out; have cp := a1.out; obtain ⟨ba, bb⟩ := kc2 am; obtain ⟨bc, be⟩ := kf2 am; have cq := aw.out; have cr := av.out; have cs := ay.out; have ct := ax.out; obtain ⟨bf, bg, bh, bi, bj, bk, bm, bn⟩ := kc8 aB; obtain ⟨bo, bp, bq, br, bs, bt, bu, bv⟩ := kf8 aB; obtain ⟨bw, bx⟩ := kc2 aa; obtain ⟨bz, b0⟩ := kf2 aa; obtain ⟨b1, b2, b3, b4, b5, b6, b7, b8⟩ := kc8 ad; obtain ⟨b9, bA, bB, bC, bD, bE, bF, bG⟩ := kf8 ad; have CA7 := fun W => A13.calls aC a2 W A7.out; try simp only [A0v, A0w] at CA7) | (go_at_call 20; (with_reducible refine (CA7 _).mono ?_); rintro e w' ⟨rfl, ⟨nd, rfl⟩⟩))
      go_ret
      exact ⟨kF, (kl HB)⟩
     ·have H1 : (none) = some r := by rw [if_neg (show ¬ (some bS).isNone = true by simp)] at H; exact H
      clear H; have H := H1; clear H1
      try simp only [A0v, A0w]
      exact absurd H (by simp)
    ·rw [if_neg c6] at H
     exact absurd H (by simp)
   ·rw [if_neg c5] at H
    exact absurd H (by simp)
  ·rw [if_neg c4] at H
   exact absurd H (by simp)
 ·rw [if_neg c3] at H
  exact absurd H (by simp)
end Go.Proofs.YtiahbcaoikoogaaDoor.All
end
section
namespace Go.Proofs.YtiahbcaoikoogaaDoor.All
open Go.RowKit Go.Proofs.YtiahbcaoikoogaaDoorW.PrintWords Go.Proofs.YtiahbcaoikoogaaDoorW.PrintLast Go.Proofs.YtiahbcaoikoogaaDoorW.PrintMore
attribute [local go_sem] A2f A2g A2w A2x A18 A19 A2h A2i
set_option linter.unusedVariables false
set_option linter.unusedSimpArgs false
def A00.l0 : Nat → Int → List Int → Int → Option (List Int)
 | 0, _, _, _ => none
 | k + 1, x0, x5, x6 => if x6 ≥ 0 then (if 0 ≤ x6 then (if x6 < (x5.length : Int) then (A00.l0 k (IntKind.u64.wrap (Int.tdiv x0 2)) (x5.set (x6 : Int).toNat ((Int.tmod x0 2) % 256)) (wrap64 (x6 - 1))) else (none)) else (none)) else (some x5)
def A00.f (k : Nat) (a0 : Int) (a1 : Int) : Option (List Int) := if 0 ≤ a1 then (if (a1 : Int).toNat ≤ 281474976710656 then (A00.l0 k a0 (List.replicate (a1 : Int).toNat 0) (wrap64 (a1 - 1))) else (none)) else (none)
set_option maxHeartbeats 8000000 in
set_option maxRecDepth 100000 in
theorem A00.calls (k : Nat) (a0 : Int) (a1 : Int) (r : List Int) (w : World) (h : A00.f k a0 a1 = some r) :
  Calls Tryd.prog 46 #[.int .u64 a0, .int .i64 a1] w fun e w' => ∃ a4 : Value, e = .returned (a4) ∧ Kd.R (Kd.int .u8) 5 w' w.heap.size (fun _ => True) a4 r ∧ Below w.heap.size w w' := by
 have HB := ak (Below.refl w.heap.size w); have H : (if 0 ≤ a1 then (if (a1 : Int).toNat ≤ 281474976710656 then (A00.l0 k a0 (List.replicate (a1 : Int).toNat 0) (wrap64 (a1 - 1))) else (none)) else (none)) = some r := h; clear h
 by_cases c3 : 0 ≤ a1
 ·rw [if_pos c3] at H; have ap := eq_true c3; have aq : decide (0 ≤ a1) = true := decide_eq_true c3; clear c3
  by_cases c4 : (a1 : Int).toNat ≤ 281474976710656
  ·rw [if_pos c4] at H; have ar := eq_true c4; have au : decide ((a1 : Int).toNat ≤ 281474976710656) = true := decide_eq_true c4; clear c4; obtain ⟨ai, aa⟩ : ∃ y_ : List Int, y_ = (List.replicate (a1 : Int).toNat 0) := ⟨_, rfl⟩
   replace H : (A00.l0 k a0 ai (wrap64 (a1 - 1))) = some r := by first | (rw [aa]; with_reducible exact H) | (have H2_ := (Option.bind_some _ _).symm.trans H; rw [aa]; with_reducible exact H2_) | (have H2_ := (Option.bind_some _ _).symm.trans H; with_reducible exact H2_) | with_reducible exact H | (rw [aa]; exact H) | exact H
   have ae := ak aa; clear aa; have H' := ak H; clear H
   go_enter Tryd.func46, Tryd.ntmps46
   go_wp2_with (first | ((with_reducible refine A0q (N := 8) rfl ?_); refine Kd.R_make (Kd.int .u8) _ 5 rfl (N := 8) rfl 25 _ _ rfl a1 rfl rfl Tryd.underlying25 (.int .u8 0) 1 info5 rfl (by decide) (by omega) 0 (ok := fun _ => True) (okp := fun _ => True) rfl (fun _ hk => hk) trivial kD (Nat.le_trans (Nat.mul_le_mul_right _ (kD : a1.toNat ≤ 281474976710656)) (by omega)) (Below.refl _ _) (Nat.le_refl _) ?_; intro av w5 ho6 hb hg_ hnew_; clear hg_ hnew_; (first | rw [← ae.out] at ho6 | (simp only [Int.reduceToNat] at ho6; rw [← ae.out] at ho6)); have aj := ak (Kd.A1t ho6 (A0n (kl HB))); replace HB := kH HB hb; clear hb ho6))
   go_loopg [0, 6] k (fun kq v0 v6 w' => ∃ (ac : Int) (x5_1 : List Int) (x6_1 : Int), v0 = .int .u64 ac ∧ v6 = .int .i64 x6_1 ∧ A0b (A00.l0 kq ac x5_1 x6_1 = some r) ∧ A0b (kq ≤ k) ∧ A0b (Kd.R (Kd.int .u8) 5 w' w.heap.size (fun _ => True) av x5_1) ∧ A0b (Below w.heap.size w w'))
   case atStart => exact ⟨(a0), (ai), (wrap64 (a1 - 1)), kE, kE, H', ⟨Nat.le_refl _⟩, ⟨kr aj⟩, ⟨(kl HB)⟩⟩
   case round =>
    clear H'; (try clear c3); (try clear ap); (try clear aq); (try clear c4); (try clear ar); (try clear au); obtain ⟨ac, x5_1, x6_1, rfl, rfl, HA, a5, HO_5, HB⟩ := hrel
    cases gk with
    | zero => exact absurd HA.out (by simp [A00.l0])
    | succ k1 =>
     have H := HA.out; clear HA; simp only [A00.l0] at H
     by_cases c7 : x6_1 ≥ 0
     ·rw [if_pos c7] at H; have aw : decide (0 ≤ x6_1) = true := decide_eq_true c7; clear c7
      by_cases c8 : 0 ≤ x6_1
      ·rw [if_pos c8] at H; have a6 := decide_eq_true c8; clear c8
       by_cases c9 : x6_1 < (x5_1.length : Int)
       ·rw [if_pos c9] at H; have a7 := decide_eq_true c9; clear c9; obtain ⟨af, ad⟩ : ∃ y_ : List Int, y_ = (x5_1.set (x6_1 : Int).toNat ((Int.tmod ac 2) % 256)) := ⟨_, rfl⟩
        replace H : (A00.l0 k1 (IntKind.u64.wrap (Int.tdiv ac 2)) af (wrap64 (x6_1 - 1))) = some r := by first | (rw [ad]; with_reducible exact H) | (have H2_ := (Option.bind_some _ _).symm.trans H; rw [ad]; with_reducible exact H2_) | (have H2_ := (Option.bind_some _ _).symm.trans H; with_reducible exact H2_) | with_reducible exact H | (rw [ad]; exact H) | exact H
        have al := ak ad; clear ad; have H' := ak H; clear H; have ax : 0 ≤ (x6_1 : Int) := kD; have ao : (x6_1 : Int) < ((x5_1.length : Int) : Int) := kD; obtain ⟨ag, ay, am, an, gl10, cl10, HG10⟩ := Kd.R_form HO_5.out (by omega)
        (first | cases am | (injection am with ea_ en_ ec_; (first | subst ea_ | (injection ea_ with ea_; subst ea_)); subst ec_; clear en_))
        have GB10 := ak an; have GG10 := ak HG10; clear an gl10 HG10; obtain ⟨az, a2⟩ := Kd.R_celln 0 HO_5.out (x6_1 : Int) ax ao; replace ax := eq_true ax
        (try (have ah := ao; simp only [List.length_drop, List.length_take] at ah; replace ah := eq_true ah)); replace ao := eq_true ao
        have HP11 := Kd.R_putg HO_5.out (x6_1 : Int) ((Int.tmod ac 2) % 256)
        go_wp2_with (first | ((with_reducible refine gate_store (t := 5) (p := 20) rfl ?_); refine store_event (t := 5) (p := 20) (v := ?vo_w12) (w1 := (wr.setCell ⟨ag, (x6_1 : Int).toNat, none⟩ (.int .u8 ((Int.tmod ac 2) % 256)))) ?hg ?ho ?hn ?hr ?_; (case ho => rfl); (case hg => rfl); (case hn => rfl); (case hr => first | (go_simp; done) | (go_simp; rfl)); intro a3 hw; have hg : wr.grownBy a3 (some ag) := (by rw [hw]; exact HP11.2); have hp_ : Kd.R (Kd.int .u8) 5 a3 w.heap.size (fun _ => True) (.slice (some ⟨ag, 0, none⟩) x5_1.length ay) af := (by rw [hw, al.out]; exact HP11.1); clear HP11; replace HO_5 := ak (hp_); replace HB := ak ((by rw [hw]; exact A0i (HB.out) GB10.out : Below w.heap.size w a3)); clear hg hw hp_))
        go_roundg k1
        case measure => have := a5.out; omega
        case rel => exact ⟨(IntKind.u64.wrap (Int.tdiv ac 2)), (af), (wrap64 (x6_1 - 1)), kE, kE, H', ⟨by have := a5.out; omega⟩, ⟨kr HO_5⟩, ⟨(kl HB)⟩⟩
       ·rw [if_neg c9] at H
        exact absurd H (by simp)
      ·rw [if_neg c8] at H
       exact absurd H (by simp)
     ·rw [if_neg c7] at H; have aw : decide (0 ≤ x6_1) = false := decide_eq_false c7; clear c7; obtain rfl := Option.some.inj H
      go_wp2
      go_ret
      exact ⟨_, kF, by (with_reducible repeat (first | apply Kd.A04 | apply Kd.A05 | apply Kd.A0z)); exact HO_5.out, (kl HB)⟩
  ·rw [if_neg c4] at H
   exact absurd H (by simp)
 ·rw [if_neg c3] at H
  exact absurd H (by simp)
end Go.Proofs.YtiahbcaoikoogaaDoor.All
end
