-- copied by a program of the session
import Derived.Test.YtodocfjbpkicgaaDoorKwAllx22
set_option linter.unusedSimpArgs false
set_option linter.unusedVariables false
set_option maxHeartbeats 8000000
set_option maxRecDepth 100000
namespace Go.Proofs.YtodocfjbpkicgaaDoor.All
open Go.RowKit Go.Zw Go.Zl Go.Zm
attribute [local go_sem] A2h A2r
def A1t.l0 : Nat → Int → Int → List Int → Int → Option (List Int)
 | 0, _, _, _, _ => none
 | k + 1, x0, x3, x4, x5 => if x5 < x3 then (if x4.length < 140737488355328 then (A1t.l0 k x0 x3 (x4 ++ [1]) (wrap64 (x5 + 1))) else (none)) else (if x3 < 4 then (if x4.length < 140737488355328 then ((some (x4 ++ [0] : List Int)).bind fun aa => ((A1o.f x3).bind fun ae => ((A1h.f k (IntKind.u64.wrap (x0)) ae).bind fun ac => (if aa.length + ac.length < 140737488355328 then (some (aa ++ ac)) else (none))))) else (none)) else ((A1o.f x3).bind fun af => ((A1h.f k (IntKind.u64.wrap (x0)) af).bind fun ad => (if x4.length + ad.length < 140737488355328 then (some (x4 ++ ad)) else (none)))))
def A1t.f (k : Nat) (a0 : Int) : Option (List Int) := (A1z.f k a0).bind fun aa => (A1t.l0 k a0 aa ([] : List Int) 0)
theorem A1t.calls (k : Nat) (a0 : Int) (r : List Int) (w : World) (h : A1t.f k a0 = some r) :
  Calls Tryd.prog 80 #[.int .i64 a0] w fun e w' => ∃ aI : Value, e = .returned (aI) ∧ Kd.R (Kd.int .u8) 5 w' w.heap.size (fun _ => True) aI r ∧ Below w.heap.size w w' := by
 have HB := ak (Below.refl w.heap.size w); have H := h; clear h; unfold A1t.f at H; replace H := bkH H; obtain ⟨aa, A2, H⟩ := H; have H' := ak H; clear H
 go_enter Tryd.func80, Tryd.ntmps80
 go_wp2_with (first | ((with_reducible refine A0l (f := 105) rfl ?_); refine A1d (some 7) rfl rfl Tryd.func105 (by kernel_rfl) rfl #[.int .i64 a0] rfl km ?_; (with_reducible refine (A1z.calls k a0 aa _ A2.out).mono ?_); rintro e w3 ⟨rfl, hb⟩; refine ⟨_, rfl, ?_⟩; replace HB := kH HB hb; ))
 go_loopg [4, 5] k (fun kq v4 v5 w' => ∃ (x4_1 : List Int) (x5_1 : Int), v5 = .int .i64 x5_1 ∧ A0b (A1t.l0 kq a0 aa x4_1 x5_1 = some r) ∧ A0b (kq ≤ k) ∧ A0b (Kd.R (Kd.int .u8) 5 w' w.heap.size (fun _ => True) v4 x4_1) ∧ A0b (Below w.heap.size w w'))
 case atStart => exact ⟨(([] : List Int)), (0), kE, H', ⟨Nat.le_refl _⟩, ⟨kNi⟩, ⟨(kl HB)⟩⟩
 case round =>
  clear H'; obtain ⟨x4_1, x5_1, rfl, HA, aJ, HO_4, HB⟩ := hrel
  cases gk with
  | zero => exact absurd HA.out (by simp [A1t.l0])
  | succ k1 =>
   have H := HA.out; clear HA; simp only [A1t.l0] at H
   by_cases c4 : x5_1 < aa
   ·rw [kIp c4] at H; have a5 : decide (x5_1 < aa) = true := kTt c4; clear c4
    by_cases c5 : x4_1.length < 140737488355328
    ·rw [kIp c5] at H; have LMc5 := ak c5; clear c5; obtain ⟨ar, af⟩ : ∃ y_ : List Int, y_ = (x4_1 ++ [1]) := ⟨_, rfl⟩
     replace H : (A1t.l0 k1 a0 aa ar (wrap64 (x5_1 + 1))) = some r := by first | (rw [af]; with_reducible exact H) | (have H2_ := (Option.bind_some _ _).symm.trans H; rw [af]; with_reducible exact H2_) | (have H2_ := (Option.bind_some _ _).symm.trans H; with_reducible exact H2_) | with_reducible exact H | (rw [af]; exact H) | exact H
     have au := ak af; clear af; have H' := ak H; clear H
     go_wp2_with (first | ((with_reducible refine A2c (b := .append) (xs := #[.tmp 13, .tmp 14]) rfl ?_); at_builtin; refine Kd.A3t (Kd.int .u8) (w0 := w) w.heap.size rfl (.tmp 13) (.tmp 14) 22 5 (.int .u8 0) 1 rfl Tryd.underlying22 info5 rfl (by decide) (by omega) u4 x4_1 1 [.int .u8 1] (fun _ => True) (fun _ => False) rfl rfl ?aP (fun _ hk => hk.elim) ?aF ?aO ?aB ?aS ?aL ?_; (case aP => exact rfl); (case aB => exact (kl HB)); (case aF => exact (fun _ _ => trivial)); (case aO => exact (kr HO_4)); (case aS => exact (A0t (kl HB))); (case aL => have := LMc5.out; omega); intro aK w6 ho hb hg hat; rw [← au.out] at ho; have al := ak (hb); have am := ak (ho); clear HB; clear HO_4; have HB := al; have av := am; clear al am; clear ho hb hg hat))
     go_roundg k1
     case measure => have := aJ.out; omega
     case rel => exact ⟨(ar), (wrap64 (x5_1 + 1)), kE, H', ⟨by have := aJ.out; omega⟩, ⟨kr av⟩, ⟨(kl HB)⟩⟩
    exact (kA c5 H).elim
   rw [kIn c4] at H; have a5 : decide (x5_1 < aa) = false := kFf c4; clear c4
   by_cases c7 : aa < 4
   ·rw [kIp c7] at H; have a6 := kTt c7; clear c7
    by_cases c8 : x4_1.length < 140737488355328
    ·rw [kIp c8] at H; have LMc8 := ak c8; clear c8; obtain ⟨an, ag⟩ : ∃ y_ : List Int, y_ = (x4_1 ++ [0]) := ⟨_, rfl⟩
     replace H : ((A1o.f aa).bind fun ao => ((A1h.f k1 (IntKind.u64.wrap (a0)) ao).bind fun ah => (if an.length + ah.length < 140737488355328 then (some (an ++ ah)) else (none)))) = some r := by first | (rw [ag]; with_reducible exact H) | (have H2_ := (Option.bind_some _ _).symm.trans H; rw [ag]; with_reducible exact H2_) | (have H2_ := (Option.bind_some _ _).symm.trans H; with_reducible exact H2_) | with_reducible exact H | (rw [ag]; exact H) | exact H
     have aw := ak ag; clear ag; replace H := bkH H; obtain ⟨ao, A9, H⟩ := H; replace H := bkH H; obtain ⟨ah, aM, H⟩ := H
     by_cases a3 : an.length + ah.length < 140737488355328
     ·rw [kIp a3] at H; have LMc11 := ak a3; clear a3; obtain ⟨a7, ai⟩ : ∃ y_ : List Int, y_ = (an ++ ah) := ⟨_, rfl⟩
      replace H : (some a7) = some r := by first | (rw [ai]; with_reducible exact H) | (have H2_ := (Option.bind_some _ _).symm.trans H; rw [ai]; with_reducible exact H2_) | (have H2_ := (Option.bind_some _ _).symm.trans H; with_reducible exact H2_) | with_reducible exact H | (rw [ai]; exact H) | exact H
      have ax := ak ai; clear ai; obtain rfl := Option.some.inj H
      go_wp2_with (first | ((with_reducible refine A2c (b := .append) (xs := #[.tmp 18, .tmp 19]) rfl ?_); at_builtin; refine Kd.A3t (Kd.int .u8) (w0 := w) w.heap.size rfl (.tmp 18) (.tmp 19) 22 5 (.int .u8 0) 1 rfl Tryd.underlying22 info5 rfl (by decide) (by omega) u4 x4_1 0 [.int .u8 0] (fun _ => True) (fun _ => False) rfl rfl ?aP (fun _ hk => hk.elim) ?aF ?aO ?aB ?aS ?aL ?_; (case aP => exact rfl); (case aB => exact (kl HB)); (case aF => exact (fun _ _ => trivial)); (case aO => exact (kr HO_4)); (case aS => exact (A0t (kl HB))); (case aL => have := LMc8.out; omega); intro a8 aX ho hb hg hat; rw [← aw.out] at ho; have al := ak (hb); have am := ak (ho); clear HB; clear HO_4; have HB := al; have ac := am; clear al am; clear ho hb hg hat) | ((with_reducible refine A0l (f := 77) rfl ?_); refine A1d (some 25) rfl rfl Tryd.func77 (by kernel_rfl) rfl #[.int .i64 aa] rfl km ?_; (with_reducible refine (A1o.calls aa ao _ A9.out).mono ?_); rintro e aY ⟨rfl, hb⟩; refine ⟨_, rfl, ?_⟩; replace ac := ak (Kd.A1x (kr ac) hb); replace HB := kH HB hb; ) | ((with_reducible refine A0l (f := 106) rfl ?_); refine A1d (some 26) rfl rfl Tryd.func106 (by kernel_rfl) rfl #[.int .u64 (IntKind.u64.wrap (a0)), .int .i64 ao] rfl km ?_; (with_reducible refine (A1h.calls k1 (IntKind.u64.wrap (a0)) ao ah _ aM.out).mono ?_); rintro e aZ ⟨aN, rfl, ho0, hb⟩; refine ⟨_, rfl, ?_⟩; have ad := ak (Kd.A2l (Kd.A3j ho0 (Kd.R_lt (kr ac))) (A0t (kl HB))); replace ac := ak (Kd.A2v (kr ac) (Kd.A3h ho0) hb); replace HB := kH HB hb; obtain ⟨a9, aA, aC⟩ := Kd.A11 ad.out; subst aC) | ((with_reducible refine A2c (b := .append) (xs := #[.tmp 21, .tmp 26]) rfl ?_); at_builtin; refine Kd.A3f (Kd.int .u8) (w0 := w) w.heap.size rfl (.tmp 21) (.tmp 26) 22 5 (.int .u8 0) 1 rfl Tryd.underlying22 info5 rfl (by decide) (by omega) a8 an ah _ _ _ (fun k_ => some k_ ≠ (.slice a9 ah.length aA : Value).ownBlock) (fun _ => False) rfl rfl ?aO ?aR (fun _ _ h => h) (fun _ h => h.elim) ?aF ?aB ?aS ?aL ?_; (case aR => exact kC (Kd.A0y ad.out).2.2); (case aB => exact (kl HB)); (case aF => exact (fun k_ hk => Kd.fresh' (Kd.R_lt (kr ad)) k_ hk)); (case aO => exact (by (with_reducible repeat (first | apply Kd.R_alloc | apply Kd.A00 | apply Kd.A02)); exact Kd.A1e ac.out (fun _ hk => hk.2))); (case aS => exact (A0t (kl HB))); (case aL => have := LMc11.out; omega); intro aQ ba ho hb hg hat; rw [← ax.out] at ho; have al := ak (Kd.A30 (ok := (fun _ => True)) (kr ad) hg hat); have am := ak (hb); have ay := ak (ho); clear ad; clear HB; clear ac; have ad := al; have HB := am; have az := ay; clear al am ay; clear ho hb hg hat))
      go_ret
      exact ⟨_, kF, by (with_reducible repeat (first | apply Kd.R_alloc | apply Kd.A00 | apply Kd.A02)); exact Kd.A1e az.out (fun _ hk => trivial), (kl HB)⟩
     exact (kA a3 H).elim
    exact (kA c8 H).elim
   rw [kIn c7] at H; have a6 := kFf c7; clear c7; replace H := bkH H; obtain ⟨aq, aT, H⟩ := H; replace H := bkH H; obtain ⟨ap, aU, H⟩ := H
   by_cases a4 : x4_1.length + ap.length < 140737488355328
   ·rw [kIp a4] at H; have LMc19 := ak a4; clear a4; obtain ⟨aD, aj⟩ : ∃ y_ : List Int, y_ = (x4_1 ++ ap) := ⟨_, rfl⟩
    replace H : (some aD) = some r := by first | (rw [aj]; with_reducible exact H) | (have H2_ := (Option.bind_some _ _).symm.trans H; rw [aj]; with_reducible exact H2_) | (have H2_ := (Option.bind_some _ _).symm.trans H; with_reducible exact H2_) | with_reducible exact H | (rw [aj]; exact H) | exact H
    have a1 := ak aj; clear aj; obtain rfl := Option.some.inj H
    go_wp2_with (first | ((with_reducible refine A0l (f := 77) rfl ?_); refine A1d (some 25) rfl rfl Tryd.func77 (by kernel_rfl) rfl #[.int .i64 aa] rfl km ?_; (with_reducible refine (A1o.calls aa aq _ aT.out).mono ?_); rintro e bb ⟨rfl, hb⟩; refine ⟨_, rfl, ?_⟩; replace HO_4 := ak (Kd.A1x (kr HO_4) hb); replace HB := kH HB hb; ) | ((with_reducible refine A0l (f := 106) rfl ?_); refine A1d (some 26) rfl rfl Tryd.func106 (by kernel_rfl) rfl #[.int .u64 (IntKind.u64.wrap (a0)), .int .i64 aq] rfl km ?_; (with_reducible refine (A1h.calls k1 (IntKind.u64.wrap (a0)) aq ap _ aU.out).mono ?_); rintro e bc ⟨aV, rfl, ho0, hb⟩; refine ⟨_, rfl, ?_⟩; have ae := ak (Kd.A2l (Kd.A3j ho0 (Kd.R_lt (kr HO_4))) (A0t (kl HB))); replace HO_4 := ak (Kd.A2v (kr HO_4) (Kd.A3h ho0) hb); replace HB := kH HB hb; obtain ⟨aE, aG, aH⟩ := Kd.A11 ae.out; subst aH) | ((with_reducible refine A2c (b := .append) (xs := #[.tmp 21, .tmp 26]) rfl ?_); at_builtin; refine Kd.A3f (Kd.int .u8) (w0 := w) w.heap.size rfl (.tmp 21) (.tmp 26) 22 5 (.int .u8 0) 1 rfl Tryd.underlying22 info5 rfl (by decide) (by omega) u4 x4_1 ap _ _ _ (fun k_ => some k_ ≠ (.slice aE ap.length aG : Value).ownBlock) (fun _ => False) rfl rfl ?aO ?aR (fun _ _ h => h) (fun _ h => h.elim) ?aF ?aB ?aS ?aL ?_; (case aR => exact kC (Kd.A0y ae.out).2.2); (case aB => exact (kl HB)); (case aF => exact (fun k_ hk => Kd.fresh' (Kd.R_lt (kr ae)) k_ hk)); (case aO => exact (by (with_reducible repeat (first | apply Kd.R_alloc | apply Kd.A00 | apply Kd.A02)); exact Kd.A1e HO_4.out (fun _ hk => hk.2))); (case aS => exact (A0t (kl HB))); (case aL => have := LMc19.out; omega); intro aW be ho hb hg hat; rw [← a1.out] at ho; have al := ak (Kd.A30 (ok := (fun _ => True)) (kr ae) hg hat); have am := ak (hb); have ay := ak (ho); clear ae; clear HB; clear HO_4; have ae := al; have HB := am; have a2 := ay; clear al am ay; clear ho hb hg hat))
    go_ret
    exact ⟨_, kF, by (with_reducible repeat (first | apply Kd.R_alloc | apply Kd.A00 | apply Kd.A02)); exact Kd.A1e a2.out (fun _ hk => trivial), (kl HB)⟩
   exact (kA a4 H).elim
mutual
def A08.j1 : Nat → List Int → Int → Option (Int × Int × Int)
 | 0, _, _ => none
 | k + 1, x0, x5 => (A1o.f x5).bind fun aa => (if (x0.length : Int) < (wrap64 ((mn (wrap64 (x5 + 1)) 4) + aa)) then (some (0, 0, 2)) else (if 0 ≤ (mn (wrap64 (x5 + 1)) 4) then (if (mn (wrap64 (x5 + 1)) 4) ≤ (wrap64 ((mn (wrap64 (x5 + 1)) 4) + aa)) then (if (wrap64 ((mn (wrap64 (x5 + 1)) 4) + aa)) ≤ (x0.length : Int) then ((A2z.f k ((x0.take ((wrap64 ((mn (wrap64 (x5 + 1)) 4) + aa)) : Int).toNat).drop ((mn (wrap64 (x5 + 1)) 4) : Int).toNat)).bind fun ac => ((A1t.f k ac).bind fun ad => ((A20.f x0 ad).bind fun ae => (if ae = true then ((A1t.f k ac).bind fun af => (if (af.length : Int) = (wrap64 ((mn (wrap64 (x5 + 1)) 4) + aa)) then (some (ac, wrap64 ((mn (wrap64 (x5 + 1)) 4) + aa), 0)) else (some (0, 0, 3)))) else (some (0, 0, 3)))))) else (none)) else (none)) else (none)))
def A08.l0 : Nat → List Int → Int → Option (Int × Int × Int)
 | 0, _, _ => none
 | k + 1, x0, x5 => if x5 < (x0.length : Int) then (if x5 < 4 then (if 0 ≤ x5 then (if (rd x0 x5) = 1 then (A08.l0 k x0 (wrap64 (x5 + 1))) else (A08.j1 k x0 x5)) else (none)) else (A08.j1 k x0 x5)) else (A08.j1 k x0 x5)
end
def A08.f (k : Nat) (l0 : List Int) : Option (Int × Int × Int) := A08.l0 k l0 0
theorem A08.calls (k : Nat) (A0 : Option Addr) (c0 : Nat) (l0 : List Int) (r1 : Int) (r2 : Int) (r3 : Int) (w : World) (hr0 : Kd.C (Kd.int .u8) w A0 l0.length l0) (hc0 : l0.length ≤ c0) (h : A08.f k l0 = some (r1, r2, r3)) :
  Calls Tryd.prog 47 #[.slice A0 l0.length c0] w fun e w' => e = .returned (.tuple #[.int .i64 r1, .int .i64 r2, .int .i64 r3]) ∧ Below w.heap.size w w' := by
 have ax := ak hr0; have a7 := ak hc0; clear hr0 hc0; have HB := ak (Below.refl w.heap.size w); have H := h; clear h; unfold A08.f at H; have aS := ak H; clear H
 go_enter Tryd.func47, Tryd.ntmps47
 go_upto_block 0 with (fail)
 go_cut [5] (fun v5 wc => ∃ (kq : Nat) (x5_1 : Int), v5 = .int .i64 x5_1 ∧ A0b (A08.j1 kq l0 x5_1 = some (r1, r2, r3)) ∧ A0b (kq ≤ k) ∧ A0b (Below w.heap.size w wc))
 case first =>
  have H := aS.out; clear aS; have H' := ak H; clear H
  go_wp2
  go_loopg [5] k (fun kq v5 w' => ∃ (x5_1 : Int), v5 = .int .i64 x5_1 ∧ A0b (A08.l0 kq l0 x5_1 = some (r1, r2, r3)) ∧ A0b (kq ≤ k) ∧ A0b (Below w.heap.size w w'))
  case atStart => exact ⟨(0), kE, H', ⟨Nat.le_refl _⟩, ⟨(kl HB)⟩⟩
  case round =>
   clear H'; obtain ⟨x5_1, rfl, HA, a8, HB⟩ := hrel
   cases gk with
   | zero => exact absurd HA.out (by simp [A08.l0])
   | succ k1 =>
    have H := HA.out; clear HA; simp only [A08.l0] at H
    by_cases c3 : x5_1 < (l0.length : Int)
    ·rw [kIp c3] at H; have au := kTt c3; clear c3
     (first | rw [au] | (simp only [A2i, A2u]; rw [au]) | skip)
     by_cases c4 : x5_1 < 4
     ·rw [kIp c4] at H; have aT : decide (x5_1 < 4) = true := kTt c4; clear c4
      by_cases c5 : 0 ≤ x5_1
      ·rw [kIp c5] at H; have bz : decide (0 ≤ x5_1) = true := kTt c5; clear c5
       by_cases c6 : (rd l0 x5_1) = 1
       ·rw [kIp c6] at H; obtain ⟨aU, aV⟩ := kqT c6; clear c6; have H' := ak H; clear H; have ar : 0 ≤ (x5_1 : Int) := kD; have am : x5_1 < (l0.length : Int) := kD; obtain ⟨a9, a6, ae⟩ := Kd.A2y ax.out x5_1 ar am
        cases a6
        replace ae := (HB.out.cell (World.block_lt_of_cell? w _ ae)).trans ae; replace ar := kEt ar
        (try (have ah := am; simp only [List.length_drop, List.length_take] at ah; replace ah := kEt ah)); replace am := kEt am
        go_wp2
        go_roundg k1
        case measure => have := a8.out; omega
        case rel => exact ⟨(wrap64 (x5_1 + 1)), kE, H', ⟨by have := a8.out; omega⟩, ⟨(kl HB)⟩⟩
       rw [kIn c6] at H; obtain ⟨aU, aV⟩ := kqF c6; have H' := ak H; clear H; have ar : 0 ≤ (x5_1 : Int) := kD; have am : x5_1 < (l0.length : Int) := kD; obtain ⟨a9, a6, ae⟩ := Kd.A2y ax.out x5_1 ar am
       cases a6
       replace ae := (HB.out.cell (World.block_lt_of_cell? w _ ae)).trans ae; replace ar := kEt ar
       (try (have ah := am; simp only [List.length_drop, List.length_take] at ah; replace ah := kEt ah)); replace am := kEt am
       go_wp2
       go_meet
       case rel => exact ⟨_, (x5_1), kE, H', ⟨by have := a8.out; first | omega | exact Nat.le_refl _⟩, ⟨(kl HB)⟩⟩
      exact (kA c5 H).elim
     rw [kIn c4] at H; have aT : decide (x5_1 < 4) = false := kFf c4; clear c4; have H' := ak H; clear H
     go_wp2
     go_meet
     case rel => exact ⟨_, (x5_1), kE, H', ⟨by have := a8.out; first | omega | exact Nat.le_refl _⟩, ⟨(kl HB)⟩⟩
    rw [kIn c3] at H; have au := kFf c3; clear c3
    (first | rw [au] | (simp only [A2i, A2u]; rw [au]) | skip)
    have H' := ak H; clear H
    go_wp2
    go_meet
    case rel => exact ⟨_, (x5_1), kE, H', ⟨by have := a8.out; first | omega | exact Nat.le_refl _⟩, ⟨(kl HB)⟩⟩
 case rest =>
  clear aS; obtain ⟨kq, x5_1, rfl, HA, bA, HB⟩ := hcut
  cases kq with
  | zero => exact absurd HA.out (by simp [A08.j1])
  | succ ay =>
   have H := HA.out; clear HA; simp only [A08.j1] at H; obtain ⟨ad, al⟩ := kX (mn (wrap64 (x5_1 + 1)) 4)
   (first | rw [al] at H | simp only [al] at H)
   have aA : (if 4 < (wrap64 (x5_1 + 1)) then 4 else (wrap64 (x5_1 + 1))) = ad := al; (try (have aB := aA; simp only [Int.ofNat_lt] at aB)); replace H := bkH H; obtain ⟨ac, A8, H⟩ := H
   by_cases c9 : (l0.length : Int) < (wrap64 ((ad) + ac))
   ·rw [kIp c9] at H; have aW := kTt c9; clear c9; obtain ⟨rfl, rfl, rfl⟩ := kI3 H
    go_wp2_with (first | ((with_reducible refine A0l (f := 77) rfl ?_); refine A1d (some 32) rfl rfl Tryd.func77 (by kernel_rfl) rfl #[.int .i64 x5_1] rfl km ?_; (with_reducible refine (A1o.calls x5_1 ac _ A8.out).mono ?_); rintro e bB ⟨rfl, hb⟩; refine ⟨_, rfl, ?_⟩; replace HB := kH HB hb; ))
    go_ret3
    exact ⟨by first | rfl | (simp [A0i, A0j] <;> rfl) | (simp only [← al]; first | rfl | (simp [A0i, A0j] <;> rfl)) | (simp [*, A0i, A0j] <;> rfl), (kl HB)⟩
   rw [kIn c9] at H; have aW := kFf c9; clear c9
   by_cases aC : 0 ≤ (ad)
   ·rw [kIp aC] at H; have bs := kEt aC; have bt : decide (0 ≤ (ad)) = true := kTt aC; clear aC
    by_cases aO : (ad) ≤ (wrap64 ((ad) + ac))
    ·rw [kIp aO] at H; have bu := kEt aO; have bv := kTt aO
     by_cases aP : (wrap64 ((ad) + ac)) ≤ (l0.length : Int)
     ·rw [kIp aP] at H; have bw := kEt aP; have bx := kTt aP; replace H := bkH H; obtain ⟨ai, aX, H⟩ := H; replace H := bkH H; obtain ⟨aj, aD, H⟩ := H; replace H := bkH H; obtain ⟨aY, aZ, H⟩ := H
      by_cases aQ : aY = true
      ·subst aQ
       rw [if_pos rfl] at H; replace H := bkH H; obtain ⟨av, aR, H⟩ := H
       by_cases aE : (av.length : Int) = (wrap64 ((ad) + ac))
       ·rw [kIp aE] at H; obtain ⟨aF, aG⟩ := kqT aE; clear aE; obtain ⟨rfl, rfl, rfl⟩ := kI3 H
        go_wp2_with (first | ((with_reducible refine A0l (f := 77) rfl ?_); refine A1d (some 32) rfl rfl Tryd.func77 (by kernel_rfl) rfl #[.int .i64 x5_1] rfl km ?_; (with_reducible refine (A1o.calls x5_1 ac _ A8.out).mono ?_); rintro e bC ⟨rfl, hb⟩; refine ⟨_, rfl, ?_⟩; replace HB := kH HB hb; obtain ⟨b0, az, _, a1, _⟩ := info_parts info5; obtain ⟨b1, ba, aH, aI⟩ := A29 (P := Tryd.prog) (Value.int .u8) 0 22 5 .i64 .i64 Tryd.underlying22 az a1 A0 c0 l0 (ad) (wrap64 ((ad) + ac)) kD (by first | omega | exact kD) kD a7.out; have an := ak (Kd.A2b (h1 := fun _ => rfl) (aH _ (Kd.A18 ax.out))); have ao := ak aI; clear aH aI az a1) | ((with_reducible refine A0l (f := 78) rfl ?_); refine A1d (some 42) rfl rfl Tryd.func78 (by kernel_rfl) rfl #[.slice b1 ((l0.take ((wrap64 ((ad) + ac)) : Int).toNat).drop ((ad) : Int).toNat).length (c0 - (ad).toNat)] rfl (by (try simp only [List.map_toArray, List.map_cons, List.map_nil]); first | done | (rw [show ((l0.take ((wrap64 ((ad) + ac)) : Int).toNat).drop ((ad) : Int).toNat).length = ((wrap64 ((ad) + ac)).toNat - (ad).toNat) from (by rw [List.length_drop, List.length_take]; have h_ : ((wrap64 ((ad) + ac)) : Int) ≤ (l0.length : Int) := kD; omega)] <;> rfl) | (simp only [al]; rfl) | rfl | (simp only [List.length_drop, List.length_take]; rfl)) ?_; (with_reducible refine (A2z.calls ay _ _ ((l0.take ((wrap64 ((ad) + ac)) : Int).toNat).drop ((ad) : Int).toNat) ai _ ?af ?ag aX.out).mono ?_); (case af => exact kC (Kd.A1i an.out HB.out)); (case ag => exact ao.out); rintro e bD ⟨rfl, hb⟩; refine ⟨_, rfl, ?_⟩; replace HB := kH HB hb; ) | ((with_reducible refine A0l (f := 80) rfl ?_); refine A1d (some 45) rfl rfl Tryd.func80 (by kernel_rfl) rfl #[.int .i64 ai] rfl km ?_; (with_reducible refine (A1t.calls ay ai aj _ aD.out).mono ?_); rintro e bE ⟨aJ, rfl, ho0, hb⟩; refine ⟨_, rfl, ?_⟩; have aa := ak (Kd.A2l ho0 (A0t (kl HB))); replace HB := kH HB hb; obtain ⟨bb, bc, be⟩ := Kd.A11 aa.out; subst be) | ((with_reducible refine A0l (f := 79) rfl ?_); refine A1d (some 46) rfl rfl Tryd.func79 (by kernel_rfl) rfl #[.slice A0 l0.length c0, .slice bb aj.length bc] rfl km ?_; (with_reducible refine (A20.calls _ _ l0 _ _ aj true _ ?af ?ag ?ap ?aq aZ.out).mono ?_); (case af => exact kC (Kd.A1i ax.out HB.out)); (case ag => exact a7.out); (case ap => exact kC (Kd.A0y aa.out).2.2); (case aq => exact (Kd.A0y aa.out).2.1); rintro e bF ⟨rfl, hb⟩; refine ⟨_, rfl, ?_⟩; replace aa := ak (Kd.A1x (kr aa) hb); replace HB := kH HB hb; ) | (go_at_call 80; (with_reducible refine (A1t.calls ay ai av _ aR.out).mono ?_); rintro e bG ⟨bf, rfl, ho0, hb⟩; have aw := ak (Kd.A2l (Kd.A3j ho0 (Kd.R_lt (kr aa))) (A0t (kl HB))); replace aa := ak (Kd.A2v (kr aa) (Kd.A3h ho0) hb); replace HB := kH HB hb; obtain ⟨b2, b3, bh⟩ := Kd.A11 aw.out; subst bh))
        (try (have hd_ : aj = av := Option.some.inj (aD.out.symm.trans aR.out); subst hd_))
        go_ret3
        exact ⟨by first | rfl | (simp [A0i, A0j] <;> rfl) | (simp only [← al]; first | rfl | (simp [A0i, A0j] <;> rfl)) | (simp [*, A0i, A0j] <;> rfl), (kl HB)⟩
       rw [kIn aE] at H; obtain ⟨aF, aG⟩ := kqF aE; obtain ⟨rfl, rfl, rfl⟩ := kI3 H
       go_wp2_with (first | ((with_reducible refine A0l (f := 77) rfl ?_); refine A1d (some 32) rfl rfl Tryd.func77 (by kernel_rfl) rfl #[.int .i64 x5_1] rfl km ?_; (with_reducible refine (A1o.calls x5_1 ac _ A8.out).mono ?_); rintro e bH ⟨rfl, hb⟩; refine ⟨_, rfl, ?_⟩; replace HB := kH HB hb; obtain ⟨b4, a2, _, a3, _⟩ := info_parts info5; obtain ⟨b5, bi, aK, aL⟩ := A29 (P := Tryd.prog) (Value.int .u8) 0 22 5 .i64 .i64 Tryd.underlying22 a2 a3 A0 c0 l0 (ad) (wrap64 ((ad) + ac)) kD (by first | omega | exact kD) kD a7.out; have an := ak (Kd.A2b (h1 := fun _ => rfl) (aK _ (Kd.A18 ax.out))); have ao := ak aL; clear aK aL a2 a3) | ((with_reducible refine A0l (f := 78) rfl ?_); refine A1d (some 42) rfl rfl Tryd.func78 (by kernel_rfl) rfl #[.slice b5 ((l0.take ((wrap64 ((ad) + ac)) : Int).toNat).drop ((ad) : Int).toNat).length (c0 - (ad).toNat)] rfl (by (try simp only [List.map_toArray, List.map_cons, List.map_nil]); first | done | (rw [show ((l0.take ((wrap64 ((ad) + ac)) : Int).toNat).drop ((ad) : Int).toNat).length = ((wrap64 ((ad) + ac)).toNat - (ad).toNat) from (by rw [List.length_drop, List.length_take]; have h_ : ((wrap64 ((ad) + ac)) : Int) ≤ (l0.length : Int) := kD; omega)] <;> rfl) | (simp only [al]; rfl) | rfl | (simp only [List.length_drop, List.length_take]; rfl)) ?_; (with_reducible refine (A2z.calls ay _ _ ((l0.take ((wrap64 ((ad) + ac)) : Int).toNat).drop ((ad) : Int).toNat) ai _ ?af ?ag aX.out).mono ?_); (case af => exact kC (Kd.A1i an.out HB.out)); (case ag => exact ao.out); rintro e bI ⟨rfl, hb⟩; refine ⟨_, rfl, ?_⟩; replace HB := kH HB hb; ) | ((with_reducible refine A0l (f := 80) rfl ?_); refine A1d (some 45) rfl rfl Tryd.func80 (by kernel_rfl) rfl #[.int .i64 ai] rfl km ?_; (with_reducible refine (A1t.calls ay ai aj _ aD.out).mono ?_); rintro e bJ ⟨aJ, rfl, ho0, hb⟩; refine ⟨_, rfl, ?_⟩; have aa := ak (Kd.A2l ho0 (A0t (kl HB))); replace HB := kH HB hb; obtain ⟨bj, bk, bm⟩ := Kd.A11 aa.out; subst bm) | ((with_reducible refine A0l (f := 79) rfl ?_); refine A1d (some 46) rfl rfl Tryd.func79 (by kernel_rfl) rfl #[.slice A0 l0.length c0, .slice bj aj.length bk] rfl km ?_; (with_reducible refine (A20.calls _ _ l0 _ _ aj true _ ?af ?ag ?ap ?aq aZ.out).mono ?_); (case af => exact kC (Kd.A1i ax.out HB.out)); (case ag => exact a7.out); (case ap => exact kC (Kd.A0y aa.out).2.2); (case aq => exact (Kd.A0y aa.out).2.1); rintro e bK ⟨rfl, hb⟩; refine ⟨_, rfl, ?_⟩; replace aa := ak (Kd.A1x (kr aa) hb); replace HB := kH HB hb; ) | (go_at_call 80; (with_reducible refine (A1t.calls ay ai av _ aR.out).mono ?_); rintro e bL ⟨bf, rfl, ho0, hb⟩; have aw := ak (Kd.A2l (Kd.A3j ho0 (Kd.R_lt (kr aa))) (A0t (kl HB))); replace aa := ak (Kd.A2v (kr aa) (Kd.A3h ho0) hb); replace HB := kH HB hb; obtain ⟨b6, b7, bn⟩ := Kd.A11 aw.out; subst bn))
       (try (have hd_ : aj = av := Option.some.inj (aD.out.symm.trans aR.out); subst hd_))
       go_ret3
       exact ⟨by first | rfl | (simp [A0i, A0j] <;> rfl) | (simp only [← al]; first | rfl | (simp [A0i, A0j] <;> rfl)) | (simp [*, A0i, A0j] <;> rfl), (kl HB)⟩
      replace aQ := Bool.eq_false_iff.mpr aQ; subst aQ
      rw [if_neg (show ¬ (false = true) by decide)] at H; obtain ⟨rfl, rfl, rfl⟩ := kI3 H
      go_wp2_with (first | ((with_reducible refine A0l (f := 77) rfl ?_); refine A1d (some 32) rfl rfl Tryd.func77 (by kernel_rfl) rfl #[.int .i64 x5_1] rfl km ?_; (with_reducible refine (A1o.calls x5_1 ac _ A8.out).mono ?_); rintro e bM ⟨rfl, hb⟩; refine ⟨_, rfl, ?_⟩; replace HB := kH HB hb; obtain ⟨b8, a4, _, a5, _⟩ := info_parts info5; obtain ⟨b9, bo, aM, aN⟩ := A29 (P := Tryd.prog) (Value.int .u8) 0 22 5 .i64 .i64 Tryd.underlying22 a4 a5 A0 c0 l0 (ad) (wrap64 ((ad) + ac)) kD (by first | omega | exact kD) kD a7.out; have an := ak (Kd.A2b (h1 := fun _ => rfl) (aM _ (Kd.A18 ax.out))); have ao := ak aN; clear aM aN a4 a5) | ((with_reducible refine A0l (f := 78) rfl ?_); refine A1d (some 42) rfl rfl Tryd.func78 (by kernel_rfl) rfl #[.slice b9 ((l0.take ((wrap64 ((ad) + ac)) : Int).toNat).drop ((ad) : Int).toNat).length (c0 - (ad).toNat)] rfl (by (try simp only [List.map_toArray, List.map_cons, List.map_nil]); first | done | (rw [show ((l0.take ((wrap64 ((ad) + ac)) : Int).toNat).drop ((ad) : Int).toNat).length = ((wrap64 ((ad) + ac)).toNat - (ad).toNat) from (by rw [List.length_drop, List.length_take]; have h_ : ((wrap64 ((ad) + ac)) : Int) ≤ (l0.length : Int) := kD; omega)] <;> rfl) | (simp only [al]; rfl) | rfl | (simp only [List.length_drop, List.length_take]; rfl)) ?_; (with_reducible refine (A2z.calls ay _ _ ((l0.take ((wrap64 ((ad) + ac)) : Int).toNat).drop ((ad) : Int).toNat) ai _ ?af ?ag aX.out).mono ?_); (case af => exact kC (Kd.A1i an.out HB.out)); (case ag => exact ao.out); rintro e bN ⟨rfl, hb⟩; refine ⟨_, rfl, ?_⟩; replace HB := kH HB hb; ) | ((with_reducible refine A0l (f := 80) rfl ?_); refine A1d (some 45) rfl rfl Tryd.func80 (by kernel_rfl) rfl #[.int .i64 ai] rfl km ?_; (with_reducible refine (A1t.calls ay ai aj _ aD.out).mono ?_); rintro e bO ⟨aJ, rfl, ho0, hb⟩; refine ⟨_, rfl, ?_⟩; have aa := ak (Kd.A2l ho0 (A0t (kl HB))); replace HB := kH HB hb; obtain ⟨bp, bq, br⟩ := Kd.A11 aa.out; subst br) | ((with_reducible refine A0l (f := 79) rfl ?_); refine A1d (some 46) rfl rfl Tryd.func79 (by kernel_rfl) rfl #[.slice A0 l0.length c0, .slice bp aj.length bq] rfl km ?_; (with_reducible refine (A20.calls _ _ l0 _ _ aj false _ ?af ?ag ?ap ?aq aZ.out).mono ?_); (case af => exact kC (Kd.A1i ax.out HB.out)); (case ag => exact a7.out); (case ap => exact kC (Kd.A0y aa.out).2.2); (case aq => exact (Kd.A0y aa.out).2.1); rintro e bP ⟨rfl, hb⟩; refine ⟨_, rfl, ?_⟩; replace aa := ak (Kd.A1x (kr aa) hb); replace HB := kH HB hb; ))
      go_ret3
      exact ⟨by first | rfl | (simp [A0i, A0j] <;> rfl) | (simp only [← al]; first | rfl | (simp [A0i, A0j] <;> rfl)) | (simp [*, A0i, A0j] <;> rfl), (kl HB)⟩
     exact (kA aP H).elim
    exact (kA aO H).elim
   exact (kA aC H).elim
end Go.Proofs.YtodocfjbpkicgaaDoor.All
