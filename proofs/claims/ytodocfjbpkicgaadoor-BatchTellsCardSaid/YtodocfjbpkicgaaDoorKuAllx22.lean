-- copied by a program of the session
import Derived.Test.YtodocfjbpkicgaaDoorKuAllx27
namespace Go.Proofs.YtodocfjbpkicgaaDoor.All
open Go.RowKit Go.Proofs.YtodocfjbpkicgaaDoorW.PrintWords Go.Proofs.YtodocfjbpkicgaaDoorW.PrintLast Go.Proofs.YtodocfjbpkicgaaDoorW.PrintMore
attribute [local go_sem] A2g A2h A2v A2w A15 A16 A2i A2j
set_option linter.unusedVariables false
set_option linter.unusedSimpArgs false
def A1i.l0 : Nat → Int → Int → List Int → Int → Option (List Int)
 | 0, _, _, _, _ => none
 | k + 1, x0, x3, x4, x5 => if x5 < x3 then (if x4.length < 140737488355328 then (A1i.l0 k x0 x3 (x4 ++ [1]) (wrap64 (x5 + 1))) else (none)) else (if x3 < 4 then (if x4.length < 140737488355328 then ((some (x4 ++ [0] : List Int)).bind fun aa => ((A1k.f x3).bind fun ae => ((A08.f k (IntKind.u64.wrap (x0)) ae).bind fun ac => (if aa.length + ac.length < 140737488355328 then (some (aa ++ ac)) else (none))))) else (none)) else ((A1k.f x3).bind fun af => ((A08.f k (IntKind.u64.wrap (x0)) af).bind fun ad => (if x4.length + ad.length < 140737488355328 then (some (x4 ++ ad)) else (none)))))
def A1i.f (k : Nat) (a0 : Int) : Option (List Int) := (A1m.f k a0).bind fun aa => (A1i.l0 k a0 aa ([] : List Int) 0)
set_option maxHeartbeats 8000000 in
set_option maxRecDepth 100000 in
theorem A1i.calls (k : Nat) (a0 : Int) (r : List Int) (w : World) (h : A1i.f k a0 = some r) :
  Calls Tryd.prog 80 #[.int .i64 a0] w fun e w' => ∃ aI : Value, e = .returned (aI) ∧ Kd.R (Kd.int .u8) 5 w' w.heap.size (fun _ => True) aI r ∧ Below w.heap.size w w' := by
 have HB := ak (Below.refl w.heap.size w); have H : ((A1m.f k a0).bind fun aa => (A1i.l0 k a0 aa ([] : List Int) 0)) = some r := h; clear h; replace H := bkH H; obtain ⟨aa, A2, H⟩ := H; have H' := ak H; clear H
 go_enter Tryd.func80, Tryd.ntmps80
 go_wp2_with (first | ((with_reducible refine A0j (f := 105) rfl ?_); refine A1f (some 7) rfl rfl Tryd.func105 (by kernel_rfl) rfl #[.int .i64 a0] rfl km ?_; (with_reducible refine (A1m.calls k a0 aa _ A2.out).mono ?_); rintro e w3 ⟨rfl, hb⟩; refine ⟨_, rfl, ?_⟩; replace HB := kH HB hb; ))
 go_loopg [4, 5] k (fun kq v4 v5 w' => ∃ (x4_1 : List Int) (x5_1 : Int), v5 = .int .i64 x5_1 ∧ A0d (A1i.l0 kq a0 aa x4_1 x5_1 = some r) ∧ A0d (kq ≤ k) ∧ A0d (Kd.R (Kd.int .u8) 5 w' w.heap.size (fun _ => True) v4 x4_1) ∧ A0d (Below w.heap.size w w'))
 case atStart => exact ⟨(([] : List Int)), (0), kE, H', ⟨Nat.le_refl _⟩, ⟨by first | exact Kd.R_nil _ _ _ _ _ | exact Kd.N_nil _ _ _ _ _ | exact Kd.V_nil _ _ _ _ _ | exact Kd.Q_nil _ _ _ _ _ | exact Kd.S_nil _ _ _ _ _⟩, ⟨(kl HB)⟩⟩
 case round =>
  clear H'; obtain ⟨x4_1, x5_1, rfl, HA, aJ, HO_4, HB⟩ := hrel
  cases gk with
  | zero => exact absurd HA.out (by simp [A1i.l0])
  | succ k1 =>
   have H := HA.out; clear HA; simp only [A1i.l0] at H
   by_cases c4 : x5_1 < aa
   ·rw [if_pos c4] at H; have a5 : decide (x5_1 < aa) = true := decide_eq_true c4; clear c4
    by_cases c5 : x4_1.length < 140737488355328
    ·rw [if_pos c5] at H; have LMc5 := ak c5; clear c5; obtain ⟨ar, af⟩ : ∃ y_ : List Int, y_ = (x4_1 ++ [1]) := ⟨_, rfl⟩
     replace H : (A1i.l0 k1 a0 aa ar (wrap64 (x5_1 + 1))) = some r := by first | (rw [af]; with_reducible exact H) | (have H2_ := (Option.bind_some _ _).symm.trans H; rw [af]; with_reducible exact H2_) | (have H2_ := (Option.bind_some _ _).symm.trans H; with_reducible exact H2_) | with_reducible exact H | (rw [af]; exact H) | exact H
     have au := ak af; clear af; have H' := ak H; clear H
     go_wp2_with (first | ((with_reducible refine A22 (b := .append) (xs := #[.tmp 13, .tmp 14]) rfl ?_); at_builtin; refine Kd.R_append (Kd.int .u8) (w0 := w) w.heap.size rfl (.tmp 13) (.tmp 14) 22 5 (.int .u8 0) 1 rfl Tryd.underlying22 info5 rfl (by decide) (by omega) u4 x4_1 1 [.int .u8 1] (fun _ => True) (fun _ => False) rfl rfl ?aP (fun _ hk => hk.elim) ?aF ?aO ?aB ?aS ?aL ?_; (case aP => exact rfl); (case aB => exact (kl HB)); (case aF => exact (fun _ _ => trivial)); (case aO => exact (kr HO_4)); (case aS => exact (A0q (kl HB))); (case aL => have := LMc5.out; omega); intro aK w6 ho hb hg hat; rw [← au.out] at ho; have al := ak (hb); have am := ak (ho); clear HB; clear HO_4; have HB := al; have av := am; clear al am; clear ho hb hg hat))
     go_roundg k1
     case measure => have := aJ.out; omega
     case rel => exact ⟨(ar), (wrap64 (x5_1 + 1)), kE, H', ⟨by have := aJ.out; omega⟩, ⟨kr av⟩, ⟨(kl HB)⟩⟩
    ·rw [if_neg c5] at H
     exact absurd H (by simp)
   ·rw [if_neg c4] at H; have a5 : decide (x5_1 < aa) = false := decide_eq_false c4; clear c4
    by_cases c7 : aa < 4
    ·rw [if_pos c7] at H; have a6 := decide_eq_true c7; clear c7
     by_cases c8 : x4_1.length < 140737488355328
     ·rw [if_pos c8] at H; have LMc8 := ak c8; clear c8; obtain ⟨an, ag⟩ : ∃ y_ : List Int, y_ = (x4_1 ++ [0]) := ⟨_, rfl⟩
      replace H : ((A1k.f aa).bind fun ao => ((A08.f k1 (IntKind.u64.wrap (a0)) ao).bind fun ah => (if an.length + ah.length < 140737488355328 then (some (an ++ ah)) else (none)))) = some r := by first | (rw [ag]; with_reducible exact H) | (have H2_ := (Option.bind_some _ _).symm.trans H; rw [ag]; with_reducible exact H2_) | (have H2_ := (Option.bind_some _ _).symm.trans H; with_reducible exact H2_) | with_reducible exact H | (rw [ag]; exact H) | exact H
      have aw := ak ag; clear ag; replace H := bkH H; obtain ⟨ao, A9, H⟩ := H; replace H := bkH H; obtain ⟨ah, aM, H⟩ := H
      by_cases a3 : an.length + ah.length < 140737488355328
      ·rw [if_pos a3] at H; have LMc11 := ak a3; clear a3; obtain ⟨a7, ai⟩ : ∃ y_ : List Int, y_ = (an ++ ah) := ⟨_, rfl⟩
       replace H : (some a7) = some r := by first | (rw [ai]; with_reducible exact H) | (have H2_ := (Option.bind_some _ _).symm.trans H; rw [ai]; with_reducible exact H2_) | (have H2_ := (Option.bind_some _ _).symm.trans H; with_reducible exact H2_) | with_reducible exact H | (rw [ai]; exact H) | exact H
       have ax := ak ai; clear ai; obtain rfl := Option.some.inj H
       go_wp2_with (first | ((with_reducible refine A22 (b := .append) (xs := #[.tmp 18, .tmp 19]) rfl ?_); at_builtin; refine Kd.R_append (Kd.int .u8) (w0 := w) w.heap.size rfl (.tmp 18) (.tmp 19) 22 5 (.int .u8 0) 1 rfl Tryd.underlying22 info5 rfl (by decide) (by omega) u4 x4_1 0 [.int .u8 0] (fun _ => True) (fun _ => False) rfl rfl ?aP (fun _ hk => hk.elim) ?aF ?aO ?aB ?aS ?aL ?_; (case aP => exact rfl); (case aB => exact (kl HB)); (case aF => exact (fun _ _ => trivial)); (case aO => exact (kr HO_4)); (case aS => exact (A0q (kl HB))); (case aL => have := LMc8.out; omega); intro a8 aX ho hb hg hat; rw [← aw.out] at ho; have al := ak (hb); have am := ak (ho); clear HB; clear HO_4; have HB := al; have ac := am; clear al am; clear ho hb hg hat) | ((with_reducible refine A0j (f := 77) rfl ?_); refine A1f (some 25) rfl rfl Tryd.func77 (by kernel_rfl) rfl #[.int .i64 aa] rfl km ?_; (with_reducible refine (A1k.calls aa ao _ A9.out).mono ?_); rintro e aY ⟨rfl, hb⟩; refine ⟨_, rfl, ?_⟩; replace ac := ak (Kd.A1t (kr ac) hb); replace HB := kH HB hb; ) | ((with_reducible refine A0j (f := 106) rfl ?_); refine A1f (some 26) rfl rfl Tryd.func106 (by kernel_rfl) rfl #[.int .u64 (IntKind.u64.wrap (a0)), .int .i64 ao] rfl km ?_; (with_reducible refine (A08.calls k1 (IntKind.u64.wrap (a0)) ao ah _ aM.out).mono ?_); rintro e aZ ⟨aN, rfl, ho0, hb⟩; refine ⟨_, rfl, ?_⟩; have ad := ak (Kd.A14 (Kd.A3l ho0 (Kd.R_lt (kr ac))) (A0q (kl HB))); replace ac := ak (Kd.A2m (kr ac) (Kd.A3k ho0) hb); replace HB := kH HB hb; obtain ⟨a9, aA, aC⟩ := Kd.A12 ad.out; subst aC) | ((with_reducible refine A22 (b := .append) (xs := #[.tmp 21, .tmp 26]) rfl ?_); at_builtin; refine Kd.A38 (Kd.int .u8) (w0 := w) w.heap.size rfl (.tmp 21) (.tmp 26) 22 5 (.int .u8 0) 1 rfl Tryd.underlying22 info5 rfl (by decide) (by omega) a8 an ah _ _ _ (fun k_ => some k_ ≠ (.slice a9 ah.length aA : Value).ownBlock) (fun _ => False) rfl rfl ?aO ?aR (fun _ _ h => h) (fun _ h => h.elim) ?aF ?aB ?aS ?aL ?_; (case aR => repeat (first | exact (Kd.A1a ad.out).2.2 | (with_reducible refine Kd.A1s ?_ _) | (with_reducible refine Kd.A1q ?_ _) | (with_reducible refine Kd.A17 ?_))); (case aB => exact (kl HB)); (case aF => exact (fun k_ hk => Kd.fresh' (Kd.R_lt (kr ad)) k_ hk)); (case aO => exact (by (with_reducible repeat (first | apply Kd.A1c | apply Kd.A1d | apply Kd.A06)); exact Kd.A1h ac.out (fun _ hk => hk.2))); (case aS => exact (A0q (kl HB))); (case aL => have := LMc11.out; omega); intro aQ ba ho hb hg hat; rw [← ax.out] at ho; have al := ak (Kd.A39 (ok := (fun _ => True)) (kr ad) hg hat); have am := ak (hb); have ay := ak (ho); clear ad; clear HB; clear ac; have ad := al; have HB := am; have az := ay; clear al am ay; clear ho hb hg hat))
       go_ret
       exact ⟨_, kF, by (with_reducible repeat (first | apply Kd.A1c | apply Kd.A1d | apply Kd.A06)); exact Kd.A1h az.out (fun _ hk => trivial), (kl HB)⟩
      ·rw [if_neg a3] at H
       exact absurd H (by simp)
     ·rw [if_neg c8] at H
      exact absurd H (by simp)
    ·rw [if_neg c7] at H; have a6 := decide_eq_false c7; clear c7; replace H := bkH H; obtain ⟨aq, aT, H⟩ := H; replace H := bkH H; obtain ⟨ap, aU, H⟩ := H
     by_cases a4 : x4_1.length + ap.length < 140737488355328
     ·rw [if_pos a4] at H; have LMc19 := ak a4; clear a4; obtain ⟨aD, aj⟩ : ∃ y_ : List Int, y_ = (x4_1 ++ ap) := ⟨_, rfl⟩
      replace H : (some aD) = some r := by first | (rw [aj]; with_reducible exact H) | (have H2_ := (Option.bind_some _ _).symm.trans H; rw [aj]; with_reducible exact H2_) | (have H2_ := (Option.bind_some _ _).symm.trans H; with_reducible exact H2_) | with_reducible exact H | (rw [aj]; exact H) | exact H
      have a1 := ak aj; clear aj; obtain rfl := Option.some.inj H
      go_wp2_with (first | ((with_reducible refine A0j (f := 77) rfl ?_); refine A1f (some 25) rfl rfl Tryd.func77 (by kernel_rfl) rfl #[.int .i64 aa] rfl km ?_; (with_reducible refine (A1k.calls aa aq _ aT.out).mono ?_); rintro e bb ⟨rfl, hb⟩; refine ⟨_, rfl, ?_⟩; replace HO_4 := ak (Kd.A1t (kr HO_4) hb); replace HB := kH HB hb; ) | ((with_reducible refine A0j (f := 106) rfl ?_); refine A1f (some 26) rfl rfl Tryd.func106 (by kernel_rfl) rfl #[.int .u64 (IntKind.u64.wrap (a0)), .int .i64 aq] rfl km ?_; (with_reducible refine (A08.calls k1 (IntKind.u64.wrap (a0)) aq ap _ aU.out).mono ?_); rintro e bc ⟨aV, rfl, ho0, hb⟩; refine ⟨_, rfl, ?_⟩; have ae := ak (Kd.A14 (Kd.A3l ho0 (Kd.R_lt (kr HO_4))) (A0q (kl HB))); replace HO_4 := ak (Kd.A2m (kr HO_4) (Kd.A3k ho0) hb); replace HB := kH HB hb; obtain ⟨aE, aG, aH⟩ := Kd.A12 ae.out; subst aH) | ((with_reducible refine A22 (b := .append) (xs := #[.tmp 21, .tmp 26]) rfl ?_); at_builtin; refine Kd.A38 (Kd.int .u8) (w0 := w) w.heap.size rfl (.tmp 21) (.tmp 26) 22 5 (.int .u8 0) 1 rfl Tryd.underlying22 info5 rfl (by decide) (by omega) u4 x4_1 ap _ _ _ (fun k_ => some k_ ≠ (.slice aE ap.length aG : Value).ownBlock) (fun _ => False) rfl rfl ?aO ?aR (fun _ _ h => h) (fun _ h => h.elim) ?aF ?aB ?aS ?aL ?_; (case aR => repeat (first | exact (Kd.A1a ae.out).2.2 | (with_reducible refine Kd.A1s ?_ _) | (with_reducible refine Kd.A1q ?_ _) | (with_reducible refine Kd.A17 ?_))); (case aB => exact (kl HB)); (case aF => exact (fun k_ hk => Kd.fresh' (Kd.R_lt (kr ae)) k_ hk)); (case aO => exact (by (with_reducible repeat (first | apply Kd.A1c | apply Kd.A1d | apply Kd.A06)); exact Kd.A1h HO_4.out (fun _ hk => hk.2))); (case aS => exact (A0q (kl HB))); (case aL => have := LMc19.out; omega); intro aW be ho hb hg hat; rw [← a1.out] at ho; have al := ak (Kd.A39 (ok := (fun _ => True)) (kr ae) hg hat); have am := ak (hb); have ay := ak (ho); clear ae; clear HB; clear HO_4; have ae := al; have HB := am; have a2 := ay; clear al am ay; clear ho hb hg hat))
      go_ret
      exact ⟨_, kF, by (with_reducible repeat (first | apply Kd.A1c | apply Kd.A1d | apply Kd.A06)); exact Kd.A1h a2.out (fun _ hk => trivial), (kl HB)⟩
     ·rw [if_neg a4] at H
      exact absurd H (by simp)
mutual
def A03.j1 : Nat → List Int → Int → Option (Int × Int × Int)
 | 0, _, _ => none
 | k + 1, x0, x5 => (A1k.f x5).bind fun aa => (if (x0.length : Int) < (wrap64 ((mn (wrap64 (x5 + 1)) 4) + aa)) then (some (0, 0, 2)) else (if 0 ≤ (mn (wrap64 (x5 + 1)) 4) then (if (mn (wrap64 (x5 + 1)) 4) ≤ (wrap64 ((mn (wrap64 (x5 + 1)) 4) + aa)) then (if (wrap64 ((mn (wrap64 (x5 + 1)) 4) + aa)) ≤ (x0.length : Int) then ((A2k.f k ((x0.take ((wrap64 ((mn (wrap64 (x5 + 1)) 4) + aa)) : Int).toNat).drop ((mn (wrap64 (x5 + 1)) 4) : Int).toNat)).bind fun ac => ((A1i.f k ac).bind fun ad => ((A2l.f x0 ad).bind fun ae => (if ae = true then ((A1i.f k ac).bind fun af => (if (af.length : Int) = (wrap64 ((mn (wrap64 (x5 + 1)) 4) + aa)) then (some (ac, wrap64 ((mn (wrap64 (x5 + 1)) 4) + aa), 0)) else (some (0, 0, 3)))) else (some (0, 0, 3)))))) else (none)) else (none)) else (none)))
def A03.l0 : Nat → List Int → Int → Option (Int × Int × Int)
 | 0, _, _ => none
 | k + 1, x0, x5 => if x5 < (x0.length : Int) then (if x5 < 4 then (if 0 ≤ x5 then (if (rd x0 x5) = 1 then (A03.l0 k x0 (wrap64 (x5 + 1))) else (A03.j1 k x0 x5)) else (none)) else (A03.j1 k x0 x5)) else (A03.j1 k x0 x5)
end
def A03.f (k : Nat) (l0 : List Int) : Option (Int × Int × Int) := A03.l0 k l0 0
set_option maxHeartbeats 8000000 in
set_option maxRecDepth 100000 in
theorem A03.calls (k : Nat) (A0 : Option Addr) (c0 : Nat) (l0 : List Int) (r1 : Int) (r2 : Int) (r3 : Int) (w : World) (hr0 : Kd.C (Kd.int .u8) w A0 l0.length l0) (hc0 : l0.length ≤ c0) (h : A03.f k l0 = some (r1, r2, r3)) :
  Calls Tryd.prog 47 #[.slice A0 l0.length c0] w fun e w' => e = .returned (.tuple #[.int .i64 r1, .int .i64 r2, .int .i64 r3]) ∧ Below w.heap.size w w' := by
 have ay := ak hr0; have a8 := ak hc0; clear hr0 hc0; have HB := ak (Below.refl w.heap.size w); have H : (A03.l0 k l0 0) = some (r1, r2, r3) := h; clear h; have aT := ak H; clear H
 go_enter Tryd.func47, Tryd.ntmps47
 go_upto_block 0 with (fail)
 go_cut [5] (fun v5 wc => ∃ (kq : Nat) (x5_1 : Int), v5 = .int .i64 x5_1 ∧ A0d (A03.j1 kq l0 x5_1 = some (r1, r2, r3)) ∧ A0d (kq ≤ k) ∧ A0d (Below w.heap.size w wc))
 case first =>
  have H := aT.out; clear aT; have H' := ak H; clear H
  go_wp2
  go_loopg [5] k (fun kq v5 w' => ∃ (x5_1 : Int), v5 = .int .i64 x5_1 ∧ A0d (A03.l0 kq l0 x5_1 = some (r1, r2, r3)) ∧ A0d (kq ≤ k) ∧ A0d (Below w.heap.size w w'))
  case atStart => exact ⟨(0), kE, H', ⟨Nat.le_refl _⟩, ⟨(kl HB)⟩⟩
  case round =>
   clear H'; obtain ⟨x5_1, rfl, HA, a9, HB⟩ := hrel
   cases gk with
   | zero => exact absurd HA.out (by simp [A03.l0])
   | succ k1 =>
    have H := HA.out; clear HA; simp only [A03.l0] at H
    by_cases c3 : x5_1 < (l0.length : Int)
    ·rw [if_pos c3] at H; have av := decide_eq_true c3; clear c3
     (first | rw [av] | (simp only [A23, A3x]; rw [av]) | skip)
     by_cases c4 : x5_1 < 4
     ·rw [if_pos c4] at H; have aU : decide (x5_1 < 4) = true := decide_eq_true c4; clear c4
      by_cases c5 : 0 ≤ x5_1
      ·rw [if_pos c5] at H; have bx : decide (0 ≤ x5_1) = true := decide_eq_true c5; clear c5
       by_cases c6 : (rd l0 x5_1) = 1
       ·rw [if_pos c6] at H; obtain ⟨aV, aW⟩ := kqT c6; clear c6; have H' := ak H; clear H; have ar : 0 ≤ (x5_1 : Int) := kD; have am : x5_1 < (l0.length : Int) := kD; obtain ⟨aA, a6, ae⟩ := Kd.A30 ay.out x5_1 ar am
        cases a6
        replace ae := (HB.out.cell (World.block_lt_of_cell? w _ ae)).trans ae; replace ar := eq_true ar
        (try (have aj := am; simp only [List.length_drop, List.length_take] at aj; replace aj := eq_true aj)); replace am := eq_true am
        go_wp2
        go_roundg k1
        case measure => have := a9.out; omega
        case rel => exact ⟨(wrap64 (x5_1 + 1)), kE, H', ⟨by have := a9.out; omega⟩, ⟨(kl HB)⟩⟩
       ·rw [if_neg c6] at H; obtain ⟨aV, aW⟩ := kqF c6; have H' := ak H; clear H; have ar : 0 ≤ (x5_1 : Int) := kD; have am : x5_1 < (l0.length : Int) := kD; obtain ⟨aA, a6, ae⟩ := Kd.A30 ay.out x5_1 ar am
        cases a6
        replace ae := (HB.out.cell (World.block_lt_of_cell? w _ ae)).trans ae; replace ar := eq_true ar
        (try (have aj := am; simp only [List.length_drop, List.length_take] at aj; replace aj := eq_true aj)); replace am := eq_true am
        go_wp2
        go_meet
        case rel => exact ⟨_, (x5_1), kE, H', ⟨by have := a9.out; first | omega | exact Nat.le_refl _⟩, ⟨(kl HB)⟩⟩
      ·rw [if_neg c5] at H
       exact absurd H (by simp)
     ·rw [if_neg c4] at H; have aU : decide (x5_1 < 4) = false := decide_eq_false c4; clear c4; have H' := ak H; clear H
      go_wp2
      go_meet
      case rel => exact ⟨_, (x5_1), kE, H', ⟨by have := a9.out; first | omega | exact Nat.le_refl _⟩, ⟨(kl HB)⟩⟩
    ·rw [if_neg c3] at H; have av := decide_eq_false c3; clear c3
     (first | rw [av] | (simp only [A23, A3x]; rw [av]) | skip)
     have H' := ak H; clear H
     go_wp2
     go_meet
     case rel => exact ⟨_, (x5_1), kE, H', ⟨by have := a9.out; first | omega | exact Nat.le_refl _⟩, ⟨(kl HB)⟩⟩
 case rest =>
  clear aT; obtain ⟨kq, x5_1, rfl, HA, b9, HB⟩ := hcut
  cases kq with
  | zero => exact absurd HA.out (by simp [A03.j1])
  | succ aw =>
   have H := HA.out; clear HA; simp only [A03.j1] at H; obtain ⟨ad, al⟩ : ∃ j_ : Int, (mn (wrap64 (x5_1 + 1)) 4) = j_ := ⟨_, rfl⟩
   replace H : ((A1k.f x5_1).bind fun ac => (if (l0.length : Int) < (wrap64 ((ad) + ac)) then (some (0, 0, 2)) else (if 0 ≤ (ad) then (if (ad) ≤ (wrap64 ((ad) + ac)) then (if (wrap64 ((ad) + ac)) ≤ (l0.length : Int) then ((A2k.f aw ((l0.take ((wrap64 ((ad) + ac)) : Int).toNat).drop ((ad) : Int).toNat)).bind fun ah => ((A1i.f aw ah).bind fun ai => ((A2l.f l0 ai).bind fun a7 => (if a7 = true then ((A1i.f aw ah).bind fun au => (if (au.length : Int) = (wrap64 ((ad) + ac)) then (some (ah, wrap64 ((ad) + ac), 0)) else (some (0, 0, 3)))) else (some (0, 0, 3)))))) else (none)) else (none)) else (none)))) = some (r1, r2, r3) := by first | (rw [al] at H; exact H) | (simp only [al] at H ⊢; exact H)
   have aB : (if 4 < (wrap64 (x5_1 + 1)) then 4 else (wrap64 (x5_1 + 1))) = ad := al; (try (have aC := aB; simp only [Int.ofNat_lt] at aC)); replace H := bkH H; obtain ⟨ac, A8, H⟩ := H
   by_cases c9 : (l0.length : Int) < (wrap64 ((ad) + ac))
   ·rw [if_pos c9] at H; have aX := decide_eq_true c9; clear c9; simp only [Option.some.injEq, Prod.mk.injEq] at H; obtain ⟨rfl, rfl, rfl⟩ := H
    go_wp2_with (first | ((with_reducible refine A0j (f := 77) rfl ?_); refine A1f (some 32) rfl rfl Tryd.func77 (by kernel_rfl) rfl #[.int .i64 x5_1] rfl km ?_; (with_reducible refine (A1k.calls x5_1 ac _ A8.out).mono ?_); rintro e bA ⟨rfl, hb⟩; refine ⟨_, rfl, ?_⟩; replace HB := kH HB hb; ))
    go_ret3
    exact ⟨by first | rfl | (simp [A0m, A0n] <;> rfl) | (simp only [← al]; first | rfl | (simp [A0m, A0n] <;> rfl)) | (simp [*, A0m, A0n] <;> rfl), (kl HB)⟩
   ·rw [if_neg c9] at H; have aX := decide_eq_false c9; clear c9
    by_cases aD : 0 ≤ (ad)
    ·rw [if_pos aD] at H; have br := eq_true aD; have bs : decide (0 ≤ (ad)) = true := decide_eq_true aD; clear aD
     by_cases aP : (ad) ≤ (wrap64 ((ad) + ac))
     ·rw [if_pos aP] at H; have bt := eq_true aP; have bu := decide_eq_true aP
      by_cases aQ : (wrap64 ((ad) + ac)) ≤ (l0.length : Int)
      ·rw [if_pos aQ] at H; have bv := eq_true aQ; have bw := decide_eq_true aQ; replace H := bkH H; obtain ⟨ah, aY, H⟩ := H; replace H := bkH H; obtain ⟨ai, aE, H⟩ := H; replace H := bkH H; obtain ⟨a7, aZ, H⟩ := H
       by_cases aR : a7 = true
       ·subst aR
        rw [if_pos rfl] at H; replace H := bkH H; obtain ⟨au, aS, H⟩ := H
        by_cases aF : (au.length : Int) = (wrap64 ((ad) + ac))
        ·rw [if_pos aF] at H; obtain ⟨aG, aH⟩ := kqT aF; clear aF; simp only [Option.some.injEq, Prod.mk.injEq] at H; obtain ⟨rfl, rfl, rfl⟩ := H
         go_wp2_with (first | ((with_reducible refine A0j (f := 77) rfl ?_); refine A1f (some 32) rfl rfl Tryd.func77 (by kernel_rfl) rfl #[.int .i64 x5_1] rfl km ?_; (with_reducible refine (A1k.calls x5_1 ac _ A8.out).mono ?_); rintro e bB ⟨rfl, hb⟩; refine ⟨_, rfl, ?_⟩; replace HB := kH HB hb; obtain ⟨bz, az, _, a1, _⟩ := info_parts info5; obtain ⟨b0, ba, aI, aJ⟩ := A3o (P := Tryd.prog) (Value.int .u8) 0 22 5 .i64 .i64 Tryd.underlying22 az a1 A0 c0 l0 (ad) (wrap64 ((ad) + ac)) kD (by first | omega | exact kD) kD a8.out; have an := ak (Kd.A2o (h1 := fun _ => rfl) (aI _ (Kd.A2p ay.out))); have ao := ak aJ; clear aI aJ az a1) | ((with_reducible refine A0j (f := 78) rfl ?_); refine A1f (some 42) rfl rfl Tryd.func78 (by kernel_rfl) rfl #[.slice b0 ((l0.take ((wrap64 ((ad) + ac)) : Int).toNat).drop ((ad) : Int).toNat).length (c0 - (ad).toNat)] rfl (by (try simp only [List.map_toArray, List.map_cons, List.map_nil]); first | done | (rw [show ((l0.take ((wrap64 ((ad) + ac)) : Int).toNat).drop ((ad) : Int).toNat).length = ((wrap64 ((ad) + ac)).toNat - (ad).toNat) from (by rw [List.length_drop, List.length_take]; have h_ : ((wrap64 ((ad) + ac)) : Int) ≤ (l0.length : Int) := kD; omega)] <;> rfl) | (simp only [al]; rfl) | rfl | (simp only [List.length_drop, List.length_take]; rfl)) ?_; (with_reducible refine (A2k.calls aw _ _ ((l0.take ((wrap64 ((ad) + ac)) : Int).toNat).drop ((ad) : Int).toNat) ah _ ?af ?ag aY.out).mono ?_); (case af => repeat (first | exact (Kd.A2e an.out HB.out) | (with_reducible refine Kd.A1s ?_ _) | (with_reducible refine Kd.A1q ?_ _) | (with_reducible refine Kd.A17 ?_))); (case ag => exact ao.out); rintro e bC ⟨rfl, hb⟩; refine ⟨_, rfl, ?_⟩; replace HB := kH HB hb; ) | ((with_reducible refine A0j (f := 80) rfl ?_); refine A1f (some 45) rfl rfl Tryd.func80 (by kernel_rfl) rfl #[.int .i64 ah] rfl km ?_; (with_reducible refine (A1i.calls aw ah ai _ aE.out).mono ?_); rintro e bD ⟨aK, rfl, ho0, hb⟩; refine ⟨_, rfl, ?_⟩; have aa := ak (Kd.A14 ho0 (A0q (kl HB))); replace HB := kH HB hb; obtain ⟨bb, bc, be⟩ := Kd.A12 aa.out; subst be) | ((with_reducible refine A0j (f := 79) rfl ?_); refine A1f (some 46) rfl rfl Tryd.func79 (by kernel_rfl) rfl #[.slice A0 l0.length c0, .slice bb ai.length bc] rfl km ?_; (with_reducible refine (A2l.calls _ _ l0 _ _ ai true _ ?af ?ag ?ap ?aq aZ.out).mono ?_); (case af => repeat (first | exact (Kd.A2e ay.out HB.out) | (with_reducible refine Kd.A1s ?_ _) | (with_reducible refine Kd.A1q ?_ _) | (with_reducible refine Kd.A17 ?_))); (case ag => exact a8.out); (case ap => repeat (first | exact (Kd.A1a aa.out).2.2 | (with_reducible refine Kd.A1s ?_ _) | (with_reducible refine Kd.A1q ?_ _) | (with_reducible refine Kd.A17 ?_))); (case aq => exact (Kd.A1a aa.out).2.1); rintro e bE ⟨rfl, hb⟩; refine ⟨_, rfl, ?_⟩; replace aa := ak (Kd.A1t (kr aa) hb); replace HB := kH HB hb; ) | (go_at_call 80; (with_reducible refine (A1i.calls aw ah au _ aS.out).mono ?_); rintro e bF ⟨bf, rfl, ho0, hb⟩; have ax := ak (Kd.A14 (Kd.A3l ho0 (Kd.R_lt (kr aa))) (A0q (kl HB))); replace aa := ak (Kd.A2m (kr aa) (Kd.A3k ho0) hb); replace HB := kH HB hb; obtain ⟨b1, b2, bg⟩ := Kd.A12 ax.out; subst bg))
         (try (have hd_ : ai = au := Option.some.inj (aE.out.symm.trans aS.out); subst hd_))
         go_ret3
         exact ⟨by first | rfl | (simp [A0m, A0n] <;> rfl) | (simp only [← al]; first | rfl | (simp [A0m, A0n] <;> rfl)) | (simp [*, A0m, A0n] <;> rfl), (kl HB)⟩
        ·rw [if_neg aF] at H; obtain ⟨aG, aH⟩ := kqF aF; simp only [Option.some.injEq, Prod.mk.injEq] at H; obtain ⟨rfl, rfl, rfl⟩ := H
         go_wp2_with (first | ((with_reducible refine A0j (f := 77) rfl ?_); refine A1f (some 32) rfl rfl Tryd.func77 (by kernel_rfl) rfl #[.int .i64 x5_1] rfl km ?_; (with_reducible refine (A1k.calls x5_1 ac _ A8.out).mono ?_); rintro e bG ⟨rfl, hb⟩; refine ⟨_, rfl, ?_⟩; replace HB := kH HB hb; obtain ⟨b3, a2, _, a3, _⟩ := info_parts info5; obtain ⟨b4, bh, aL, aM⟩ := A3o (P := Tryd.prog) (Value.int .u8) 0 22 5 .i64 .i64 Tryd.underlying22 a2 a3 A0 c0 l0 (ad) (wrap64 ((ad) + ac)) kD (by first | omega | exact kD) kD a8.out; have an := ak (Kd.A2o (h1 := fun _ => rfl) (aL _ (Kd.A2p ay.out))); have ao := ak aM; clear aL aM a2 a3) | ((with_reducible refine A0j (f := 78) rfl ?_); refine A1f (some 42) rfl rfl Tryd.func78 (by kernel_rfl) rfl #[.slice b4 ((l0.take ((wrap64 ((ad) + ac)) : Int).toNat).drop ((ad) : Int).toNat).length (c0 - (ad).toNat)] rfl (by (try simp only [List.map_toArray, List.map_cons, List.map_nil]); first | done | (rw [show ((l0.take ((wrap64 ((ad) + ac)) : Int).toNat).drop ((ad) : Int).toNat).length = ((wrap64 ((ad) + ac)).toNat - (ad).toNat) from (by rw [List.length_drop, List.length_take]; have h_ : ((wrap64 ((ad) + ac)) : Int) ≤ (l0.length : Int) := kD; omega)] <;> rfl) | (simp only [al]; rfl) | rfl | (simp only [List.length_drop, List.length_take]; rfl)) ?_; (with_reducible refine (A2k.calls aw _ _ ((l0.take ((wrap64 ((ad) + ac)) : Int).toNat).drop ((ad) : Int).toNat) ah _ ?af ?ag aY.out).mono ?_); (case af => repeat (first | exact (Kd.A2e an.out HB.out) | (with_reducible refine Kd.A1s ?_ _) | (with_reducible refine Kd.A1q ?_ _) | (with_reducible refine Kd.A17 ?_))); (case ag => exact ao.out); rintro e bH ⟨rfl, hb⟩; refine ⟨_, rfl, ?_⟩; replace HB := kH HB hb; ) | ((with_reducible refine A0j (f := 80) rfl ?_); refine A1f (some 45) rfl rfl Tryd.func80 (by kernel_rfl) rfl #[.int .i64 ah] rfl km ?_; (with_reducible refine (A1i.calls aw ah ai _ aE.out).mono ?_); rintro e bI ⟨aK, rfl, ho0, hb⟩; refine ⟨_, rfl, ?_⟩; have aa := ak (Kd.A14 ho0 (A0q (kl HB))); replace HB := kH HB hb; obtain ⟨bi, bj, bk⟩ := Kd.A12 aa.out; subst bk) | ((with_reducible refine A0j (f := 79) rfl ?_); refine A1f (some 46) rfl rfl Tryd.func79 (by kernel_rfl) rfl #[.slice A0 l0.length c0, .slice bi ai.length bj] rfl km ?_; (with_reducible refine (A2l.calls _ _ l0 _ _ ai true _ ?af ?ag ?ap ?aq aZ.out).mono ?_); (case af => repeat (first | exact (Kd.A2e ay.out HB.out) | (with_reducible refine Kd.A1s ?_ _) | (with_reducible refine Kd.A1q ?_ _) | (with_reducible refine Kd.A17 ?_))); (case ag => exact a8.out); (case ap => repeat (first | exact (Kd.A1a aa.out).2.2 | (with_reducible refine Kd.A1s ?_ _) | (with_reducible refine Kd.A1q ?_ _) | (with_reducible refine Kd.A17 ?_))); (case aq => exact (Kd.A1a aa.out).2.1); rintro e bJ ⟨rfl, hb⟩; refine ⟨_, rfl, ?_⟩; replace aa := ak (Kd.A1t (kr aa) hb); replace HB := kH HB hb; ) | (go_at_call 80; (with_reducible refine (A1i.calls aw ah au _ aS.out).mono ?_); rintro e bK ⟨bf, rfl, ho0, hb⟩; have ax := ak (Kd.A14 (Kd.A3l ho0 (Kd.R_lt (kr aa))) (A0q (kl HB))); replace aa := ak (Kd.A2m (kr aa) (Kd.A3k ho0) hb); replace HB := kH HB hb; obtain ⟨b5, b6, bm⟩ := Kd.A12 ax.out; subst bm))
         (try (have hd_ : ai = au := Option.some.inj (aE.out.symm.trans aS.out); subst hd_))
         go_ret3
         exact ⟨by first | rfl | (simp [A0m, A0n] <;> rfl) | (simp only [← al]; first | rfl | (simp [A0m, A0n] <;> rfl)) | (simp [*, A0m, A0n] <;> rfl), (kl HB)⟩
       ·replace aR := Bool.eq_false_iff.mpr aR; subst aR
        rw [if_neg (show ¬ (false = true) by decide)] at H; simp only [Option.some.injEq, Prod.mk.injEq] at H; obtain ⟨rfl, rfl, rfl⟩ := H
        go_wp2_with (first | ((with_reducible refine A0j (f := 77) rfl ?_); refine A1f (some 32) rfl rfl Tryd.func77 (by kernel_rfl) rfl #[.int .i64 x5_1] rfl km ?_; (with_reducible refine (A1k.calls x5_1 ac _ A8.out).mono ?_); rintro e bL ⟨rfl, hb⟩; refine ⟨_, rfl, ?_⟩; replace HB := kH HB hb; obtain ⟨b7, a4, _, a5, _⟩ := info_parts info5; obtain ⟨b8, bn, aN, aO⟩ := A3o (P := Tryd.prog) (Value.int .u8) 0 22 5 .i64 .i64 Tryd.underlying22 a4 a5 A0 c0 l0 (ad) (wrap64 ((ad) + ac)) kD (by first | omega | exact kD) kD a8.out; have an := ak (Kd.A2o (h1 := fun _ => rfl) (aN _ (Kd.A2p ay.out))); have ao := ak aO; clear aN aO a4 a5) | ((with_reducible refine A0j (f := 78) rfl ?_); refine A1f (some 42) rfl rfl Tryd.func78 (by kernel_rfl) rfl #[.slice b8 ((l0.take ((wrap64 ((ad) + ac)) : Int).toNat).drop ((ad) : Int).toNat).length (c0 - (ad).toNat)] rfl (by (try simp only [List.map_toArray, List.map_cons, List.map_nil]); first | done | (rw [show ((l0.take ((wrap64 ((ad) + ac)) : Int).toNat).drop ((ad) : Int).toNat).length = ((wrap64 ((ad) + ac)).toNat - (ad).toNat) from (by rw [List.length_drop, List.length_take]; have h_ : ((wrap64 ((ad) + ac)) : Int) ≤ (l0.length : Int) := kD; omega)] <;> rfl) | (simp only [al]; rfl) | rfl | (simp only [List.length_drop, List.length_take]; rfl)) ?_; (with_reducible refine (A2k.calls aw _ _ ((l0.take ((wrap64 ((ad) + ac)) : Int).toNat).drop ((ad) : Int).toNat) ah _ ?af ?ag aY.out).mono ?_); (case af => repeat (first | exact (Kd.A2e an.out HB.out) | (with_reducible refine Kd.A1s ?_ _) | (with_reducible refine Kd.A1q ?_ _) | (with_reducible refine Kd.A17 ?_))); (case ag => exact ao.out); rintro e bM ⟨rfl, hb⟩; refine ⟨_, rfl, ?_⟩; replace HB := kH HB hb; ) | ((with_reducible refine A0j (f := 80) rfl ?_); refine A1f (some 45) rfl rfl Tryd.func80 (by kernel_rfl) rfl #[.int .i64 ah] rfl km ?_; (with_reducible refine (A1i.calls aw ah ai _ aE.out).mono ?_); rintro e bN ⟨aK, rfl, ho0, hb⟩; refine ⟨_, rfl, ?_⟩; have aa := ak (Kd.A14 ho0 (A0q (kl HB))); replace HB := kH HB hb; obtain ⟨bo, bp, bq⟩ := Kd.A12 aa.out; subst bq) | ((with_reducible refine A0j (f := 79) rfl ?_); refine A1f (some 46) rfl rfl Tryd.func79 (by kernel_rfl) rfl #[.slice A0 l0.length c0, .slice bo ai.length bp] rfl km ?_; (with_reducible refine (A2l.calls _ _ l0 _ _ ai false _ ?af ?ag ?ap ?aq aZ.out).mono ?_); (case af => repeat (first | exact (Kd.A2e ay.out HB.out) | (with_reducible refine Kd.A1s ?_ _) | (with_reducible refine Kd.A1q ?_ _) | (with_reducible refine Kd.A17 ?_))); (case ag => exact a8.out); (case ap => repeat (first | exact (Kd.A1a aa.out).2.2 | (with_reducible refine Kd.A1s ?_ _) | (with_reducible refine Kd.A1q ?_ _) | (with_reducible refine Kd.A17 ?_))); (case aq => exact (Kd.A1a aa.out).2.1); rintro e bO ⟨rfl, hb⟩; refine ⟨_, rfl, ?_⟩; replace aa := ak (Kd.A1t (kr aa) hb); replace HB := kH HB hb; ))
        go_ret3
        exact ⟨by first | rfl | (simp [A0m, A0n] <;> rfl) | (simp only [← al]; first | rfl | (simp [A0m, A0n] <;> rfl)) | (simp [*, A0m, A0n] <;> rfl), (kl HB)⟩
      ·rw [if_neg aQ] at H
       exact absurd H (by simp)
     ·rw [if_neg aP] at H
      exact absurd H (by simp)
    ·rw [if_neg aD] at H
     exact absurd H (by simp)
end Go.Proofs.YtodocfjbpkicgaaDoor.All
