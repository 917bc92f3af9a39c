-- copied by a program of the session
import Derived.Test.YtodocfjbpkicgaaDoorKwAllx20
import Derived.Test.YtodocfjbpkicgaaDoorKwAllx73
import Derived.Test.YtodocfjbpkicgaaDoorKwAllx9
set_option linter.unusedSimpArgs false
set_option linter.unusedVariables false
set_option maxHeartbeats 8000000
set_option maxRecDepth 100000
namespace Go.Proofs.YtodocfjbpkicgaaDoor.All
open Go.RowKit Go.Zw Go.Zl Go.Zm
attribute [local go_sem] A2h A2r
mutual
def A0c.j0 : Nat → List Int → Bool → Option (Int × (List (S70)) × Int × Int)
 | 0, _, _ => none
 | k + 1, x0, aa => if aa = true then (some (0, ([] : List (S70)), 0, 5)) else (if (x0.length : Int) < 5 then (some (0, ([] : List (S70)), 0, 2)) else (if 4 < (x0.length : Int) then (if (wrap64 (rd x0 4)) = 1 then (A0c.j1 k x0 (wrap64 (rd x0 4)) false) else (A0c.j1 k x0 (wrap64 (rd x0 4)) ((wrap64 (rd x0 4)) != 2))) else (none)))
def A0c.j1 : Nat → List Int → Int → Bool → Option (Int × (List (S70)) × Int × Int)
 | 0, _, _, _ => none
 | k + 1, x0, x6, ac => if ac = true then (some (0, ([] : List (S70)), 0, 6)) else ((A0g.f k x0 5).bind fun aa => (if aa.2.2 = 0 then (if aa.1 > 65535 then (some (0, ([] : List (S70)), 0, 9)) else (A0c.l0 k x0 x6 aa.1 (wrap64 (5 + aa.2.1)) ([] : List (S70)) true 0 0)) else (some (0, ([] : List (S70)), 0, aa.2.2))))
def A0c.l0 : Nat → List Int → Int → Int → Int → List (S70) → Bool → Int → Int → Option (Int × (List (S70)) × Int × Int)
 | 0, _, _, _, _, _, _, _, _ => none
 | k + 1, x0, x6, x7, aa, af, ag, ah, ai => if ai < (wrap64 (x7)) then (if (wrap64 ((x0.length : Int) - aa)) < 8 then (some (0, ([] : List (S70)), 0, 2)) else (if 0 ≤ aa then (if aa ≤ (wrap64 (aa + 8)) then (if (wrap64 (aa + 8)) ≤ (x0.length : Int) then ((A1n.f k ((x0.take ((wrap64 (aa + 8)) : Int).toNat).drop (aa : Int).toNat)).bind fun ac => (A0c.l1 k x0 x6 x7 (wrap64 (aa + 8)) af ag ah ai ([] : List Int) 0 (wrap64 (ac)) 0 0 0)) else (none)) else (none)) else (none))) else (if (wrap64 ((x0.length : Int) - aa)) < 4 then (some (0, ([] : List (S70)), 0, 2)) else (if 0 ≤ aa then (if aa ≤ (wrap64 (aa + 4)) then (if (wrap64 (aa + 4)) ≤ (x0.length : Int) then ((A1n.f k ((x0.take ((wrap64 (aa + 4)) : Int).toNat).drop (aa : Int).toNat)).bind fun ad => (if aa ≤ (x0.length : Int) then ((A09.f k (x0.take (aa : Int).toNat)).bind fun ae => (A0c.j4 k x0 x6 aa af ag ah (ad != (IntKind.u64.wrap (ae))))) else (none))) else (none)) else (none)) else (none)))
def A0c.l1 : Nat → List Int → Int → Int → Int → List (S70) → Bool → Int → Int → List Int → Int → Int → Int → Int → Int → Option (Int × (List (S70)) × Int × Int)
 | 0, _, _, _, _, _, _, _, _, _, _, _, _, _, _ => none
 | k + 1, x0, x6, x7, ai, ah, am, aj, al, ag, an, aa, ac, ad, ae => if an < 3 then ((A0g.f k x0 ai).bind fun af => (if af.2.2 = 0 then (if ag.length < 17592186044416 then (A0c.l1 k x0 x6 x7 (wrap64 (ai + af.2.1)) ah am aj al (ag ++ [af.1]) (wrap64 (an + 1)) aa ac ad ae) else (none)) else (some (0, ([] : List (S70)), 0, af.2.2)))) else (if am = true then (if 0 < (ag.length : Int) then (if (rd ag 0) ≤ (IntKind.u64.wrap (9223372036854775807 - (IntKind.u64.wrap (aa)))) then (if 1 < (ag.length : Int) then (if (rd ag 1) ≤ 65535 then (if 2 < (ag.length : Int) then (if (rd ag 2) ≤ 2147483647 then (if ah.length < 4398046511104 then (A0c.l0 k x0 x6 x7 ai (ah ++ [(⟨aa, wrap64 (aa + (wrap64 (rd ag 0))), wrap64 (rd ag 1), wrap64 (rd ag 2)⟩ : S70)]) (decide ((rd ag 2) ≤ 2147483647)) (IntKind.u64.wrap (aj + (rd ag 2))) (wrap64 (al + 1))) else (none)) else (if ah.length < 4398046511104 then (A0c.l0 k x0 x6 x7 ai (ah ++ [(⟨aa, ac, ad, ae⟩ : S70)]) (decide ((rd ag 2) ≤ 2147483647)) aj (wrap64 (al + 1))) else (none))) else (none)) else (if ah.length < 4398046511104 then (A0c.l0 k x0 x6 x7 ai (ah ++ [(⟨aa, ac, ad, ae⟩ : S70)]) false aj (wrap64 (al + 1))) else (none))) else (none)) else (if ah.length < 4398046511104 then (A0c.l0 k x0 x6 x7 ai (ah ++ [(⟨aa, ac, ad, ae⟩ : S70)]) false aj (wrap64 (al + 1))) else (none))) else (none)) else (if ah.length < 4398046511104 then (A0c.l0 k x0 x6 x7 ai (ah ++ [(⟨aa, ac, ad, ae⟩ : S70)]) false aj (wrap64 (al + 1))) else (none)))
def A0c.j4 : Nat → List Int → Int → Int → List (S70) → Bool → Int → Bool → Option (Int × (List (S70)) × Int × Int)
 | 0, _, _, _, _, _, _, _ => none
 | k + 1, x0, x6, ad, ae, af, ag, ac => if ac = true then (some (0, ([] : List (S70)), 0, 7)) else ((A0n.f k x6 ae).bind fun aa => (if af = true then (if aa = true then (if ag = (IntKind.u64.wrap (wrap64 ((wrap64 ((x0.length : Int) - ad)) - 4))) then (some (x6, ae, wrap64 (ad + 4), 0)) else (some (0, ([] : List (S70)), 0, 8))) else (some (0, ([] : List (S70)), 0, 8))) else (some (0, ([] : List (S70)), 0, 8))))
end
def A0c.f (k : Nat) (l0 : List Int) : Option (Int × (List (S70)) × Int × Int) := if (l0.length : Int) < 4 then (A0c.j0 k l0 true) else (if 0 ≤ (mn (l0.length : Int) 4) then (if (mn (l0.length : Int) 4) ≤ (l0.length : Int) then (A0c.j0 k l0 ((strOfNums (l0.take ((mn (l0.length : Int) 4) : Int).toNat)).toList != ([71, 84, 83, 49] : List UInt8))) else (none)) else (none))
def A0c.T36 : Bool × List (List Nat × List Nat) := (true, [([], []), ([0], [0]), ([], []), ([2], [2]), ([3], [3]), ([4], [4]), ([1, 5], [1, 5]), ([0, 1, 2, 3, 4, 5, 6], []), ([7, 6, 0, 1, 2, 3, 4, 5, 6], [6, 7])])
def A0c.B36 : List Nat := [0, 1, 0, 4, 12, 28, 63, 127, 255]
theorem A0c.tab36 : rtab .any (opsOf Tryd.f32 36) = A0c.T36 := by kernel_rfl
theorem A0c.bits36 : A26 A0c.T36.2 A0c.B36 = true := by kernel_rfl
def A0c.T43 : Bool × List (List Nat × List Nat) := (true, [([], []), ([], []), ([], []), ([2], [2]), ([0, 1, 3], [0, 1, 3]), ([4], [4]), ([], []), ([], []), ([6, 7], [6, 7]), ([8, 5], [8]), ([9], [9]), ([5, 10], [5, 10])])
def A0c.B43 : List Nat := [0, 0, 0, 4, 15, 31, 0, 0, 192, 511, 1023, 2047]
theorem A0c.tab43 : rtab .any (opsOf Tryd.f32 43) = A0c.T43 := by kernel_rfl
theorem A0c.bits43 : A26 A0c.T43.2 A0c.B43 = true := by kernel_rfl
theorem A0c.calls (k : Nat) (A0 : Option Addr) (c0 : Nat) (l0 : List Int) (r1 : Int) (r2 : List (S70)) (r3 : Int) (r4 : Int) (w : World) (hr0 : Kd.C (Kd.int .u8) w A0 l0.length l0) (hc0 : l0.length ≤ c0) (h : A0c.f k l0 = some (r1, r2, r3, r4)) :
  Calls Tryd.prog 32 #[.slice A0 l0.length c0] w fun e w' => ∃ f0 : Value, e = .returned (.tuple #[.int .i64 r1, f0, .int .i64 r3, .int .i64 r4]) ∧ Kd.R k70 70 w' w.heap.size (fun _ => True) f0 r2 ∧ Below w.heap.size w w' := by
 have hu70 := Tryd.underlying70; have bI := ak hr0; have bJ := ak hc0; clear hr0 hc0; have HB := ak (Below.refl w.heap.size w); have H := h; clear h; unfold A0c.f at H; have eS := ak H; clear H
 go_enter Tryd.func32, Tryd.ntmps32
 go_upto_region 1 with (fail)
 go_cut [34] (fun gg wc => ∃ (kq : Nat) (bs : Bool), gg = .bool bs ∧ A0b (A0c.j0 kq l0 bs = some (r1, r2, r3, r4)) ∧ A0b (kq ≤ k) ∧ A0b (Below w.heap.size w wc))
 case first =>
  have H := eS.out; clear eS
  by_cases c3 : (l0.length : Int) < 4
  ·rw [kIp c3] at H; have b6 := kTt c3; have eT : decide (l0.length < 4) = true := kTt (by omega); clear c3
   (first | rw [b6] | (simp only [A2i, A2u]; rw [b6]) | skip)
   have H' := ak H; clear H
   go_wp2
   go_meet
   case rel => exact ⟨_, (true), kE, H', kO, ⟨(kl HB)⟩⟩
  rw [kIn c3] at H; have b6 := kFf c3; have eT : decide (l0.length < 4) = false := kFf (by omega); clear c3
  (first | rw [b6] | (simp only [A2i, A2u]; rw [b6]) | skip)
  obtain ⟨b4, b2⟩ := kX (mn (l0.length : Int) 4)
  (first | rw [b2] at H | simp only [b2] at H)
  (try (have f2 : b4 ≤ 4 := by (rw [← b2]; unfold mn; (repeat' split) <;> omega))); (try (have f3 : b4 ≤ 64 := by omega)); (try (have f4 : 0 ≤ b4 := by (rw [← b2]; unfold mn; (repeat' split) <;> omega))); (try (have f5 : 0 ≤ b4 := by omega)); have cL : (if 4 < (l0.length : Int) then 4 else (l0.length : Int)) = b4 := b2; (try (have cM := cL; simp only [Int.ofNat_lt] at cM))
  by_cases c5 : 0 ≤ (b4)
  ·rw [kIp c5] at H; have gh := kEt c5; have gj := kTt c5; clear c5
   by_cases c6 : (b4) ≤ (l0.length : Int)
   ·rw [kIp c6] at H; have gm := kEt c6; have gn := kTt c6; clear c6; have H' := ak H; clear H; obtain ⟨gH, cN, _, cO, _⟩ := info_parts info5; obtain ⟨f6, f7, f8⟩ := A27 (P := Tryd.prog) (Value.int .u8) 0 22 5 .i64 Tryd.underlying22 cN cO A0 c0 l0 (b4) kD kD bJ.out; have bi := ak (Kd.A2b (h1 := fun _ => rfl) (f7 _ (Kd.A18 bI.out))); have eU := ak f8; clear f7 f8 cN cO; have hcv8 := Kd.A3m (P := Tryd.prog) (A := A0) (c := c0) Tryd.underlying22 Tryd.underlying5 Tryd.underlying9 (Kd.A1i bi.out HB.out)
    have hcv8d := fun (m_ : Nat) => Kd.A3m (P := Tryd.prog) (A := A0) (c := c0) Tryd.underlying22 Tryd.underlying5 Tryd.underlying9 (Kd.C_drewN (Kd.A1i bi.out HB.out) m_)
    (try (have hcv8e := Kd.A3m (P := Tryd.prog) (A := A0) (c := c0) Tryd.underlying22 Tryd.underlying5 Tryd.underlying9 (Kd.C_drew (Kd.A1i bi.out HB.out)))); (try (have hle_ : b4 ≤ (l0.length : Int) := kD; have hln_ : (l0.take (b4 : Int).toNat).length = (b4 : Int).toNat := (by rw [List.length_take]; omega); (try (have hcv8t := hcv8; rw [hln_] at hcv8t)); (try (have hcv8u := hcv8e; rw [hln_] at hcv8u)); clear hle_ hln_))
    go_wp2
    go_meet
    case rel => exact ⟨_, (((strOfNums (l0.take ((b4) : Int).toNat)).toList != ([71, 84, 83, 49] : List UInt8))), (by first | rfl | (simp; done) | (simp only [← b2] <;> (first | rfl | simp)) | (simp [*]; done)), H', kO, ⟨(kl HB)⟩⟩
   exact (kA c6 H).elim
  exact (kA c5 H).elim
 case rest =>
  clear eS; obtain ⟨kq, bs, rfl, HA, bj, HB⟩ := hcut
  cases kq with
  | zero => exact absurd HA.out (by simp [A0c.j0])
  | succ gp =>
   have H := HA.out; clear HA; simp only [A0c.j0] at H
   by_cases c9 : bs = true
   ·subst c9
    rw [if_pos rfl] at H; simp only [Option.some.injEq, Prod.mk.injEq] at H; obtain ⟨rfl, rfl, rfl, rfl⟩ := H
    go_wp2
    refine bodyPost_ret (A1c (rs := [.tmp 2, .tmp 3, .tmp 4, .tmp 5]) rfl (by simp) (.tmp (.tmp (.tmp (.tmp .nil))))) rfl ?_
    exact ⟨_, kF, kNi, (kl HB)⟩
   replace c9 := Bool.eq_false_iff.mpr c9; subst c9
   rw [if_neg (show ¬ (false = true) by decide)] at H
   by_cases c10 : (l0.length : Int) < 5
   ·rw [kIp c10] at H; have cP := kTt c10; have cQ : decide (l0.length < 5) = true := kTt (by omega); clear c10; simp only [Option.some.injEq, Prod.mk.injEq] at H; obtain ⟨rfl, rfl, rfl, rfl⟩ := H
    go_wp2
    refine bodyPost_ret (A1c (rs := [.tmp 2, .tmp 3, .tmp 4, .tmp 5]) rfl (by simp) (.tmp (.tmp (.tmp (.tmp .nil))))) rfl ?_
    exact ⟨_, kF, kNi, (kl HB)⟩
   rw [kIn c10] at H; have cP := kFf c10; have cQ : decide (l0.length < 5) = false := kFf (by omega); clear c10
   by_cases d6 : 4 < (l0.length : Int)
   ·rw [kIp d6] at H; have f9 := kTt d6; have fA : decide (4 < l0.length) = true := kTt (by omega); clear d6; have ca := ak H; clear H; have b7 : 0 ≤ (4 : Int) := (by omega); have bt : 4 < (l0.length : Int) := kD; obtain ⟨a1, cR, a2⟩ := Kd.A2y bI.out 4 b7 bt
    cases cR
    (try simp only [show (4 : Int).toNat = 4 from rfl, Nat.reduceMul, Nat.reduceEqDiff, Go.Addr.add, ↓reduceIte] at a2); have eV : (4 < l0.length) = True := eq_true (by omega); (try rw [show ((4 : Int)).toNat = 4 from rfl] at a2); replace a2 := (HB.out.cell (World.block_lt_of_cell? w _ a2)).trans a2; replace b7 := kEt b7
    (try (have bk := bt; simp only [List.length_drop, List.length_take] at bk; replace bk := kEt bk)); replace bt := kEt bt
    go_upto_region 6 with (fail)
    go_cut [47] (fun gq wc => ∃ (kq : Nat) (aU : Bool), gq = .bool aU ∧ A0b (A0c.j1 kq l0 (wrap64 (rd l0 4)) aU = some (r1, r2, r3, r4)) ∧ A0b (kq ≤ gp) ∧ A0b (Below w.heap.size w wc))
    case first =>
     have H := ca.out; clear ca
     by_cases cS : (wrap64 (rd l0 4)) = 1
     ·rw [kIp cS] at H; obtain ⟨aV, cT⟩ := kqT cS; clear cS
      (first | rw [aV] | (simp only [A2i, A2u]; rw [aV]) | skip)
      have H' := ak H; clear H
      go_wp2
      go_meet
      case rel => exact ⟨_, (false), kE, H', ⟨by have := bj.out; first | omega | exact Nat.le_refl _⟩, ⟨(kl HB)⟩⟩
     rw [kIn cS] at H; obtain ⟨aV, cT⟩ := kqF cS
     (first | rw [aV] | (simp only [A2i, A2u]; rw [aV]) | skip)
     have H' := ak H; clear H
     go_wp2
     go_meet
     case rel => exact ⟨_, (((wrap64 (rd l0 4)) != 2)), kE, H', ⟨by have := bj.out; first | omega | exact Nat.le_refl _⟩, ⟨(kl HB)⟩⟩
    case rest =>
     clear ca; obtain ⟨kq, aU, rfl, HA, a9, HB⟩ := hcut
     cases kq with
     | zero => exact absurd HA.out (by simp [A0c.j1])
     | succ b8 =>
      have H := HA.out; clear HA; simp only [A0c.j1] at H
      by_cases d7 : aU = true
      ·subst d7
       rw [if_pos rfl] at H; simp only [Option.some.injEq, Prod.mk.injEq] at H; obtain ⟨rfl, rfl, rfl, rfl⟩ := H
       go_wp2
       refine bodyPost_ret (A1c (rs := [.tmp 2, .tmp 3, .tmp 4, .tmp 5]) rfl (by simp) (.tmp (.tmp (.tmp (.tmp .nil))))) rfl ?_
       exact ⟨_, kF, kNi, (kl HB)⟩
      replace d7 := Bool.eq_false_iff.mpr d7; subst d7
      rw [if_neg (show ¬ (false = true) by decide)] at H; replace H := bkH H; obtain ⟨⟨av, bu, bv⟩, eW, H⟩ := H; (try dsimp only at H)
      by_cases cU : bv = 0
      ·rw [kIp cU] at H; obtain ⟨cV, cW⟩ := kqT cU; clear cU
       by_cases cC : av > 65535
       ·rw [kIp cC] at H; have cX : decide (65535 < av) = true := kTt cC; clear cC; simp only [Option.some.injEq, Prod.mk.injEq] at H; obtain ⟨rfl, rfl, rfl, rfl⟩ := H
        go_wp2_with (first | ((with_reducible refine A0l (f := 67) rfl ?_); refine A1d (some 50) rfl rfl Tryd.func67 (by kernel_rfl) rfl #[.slice (some a1) l0.length c0, .int .i64 5] rfl km ?_; (with_reducible refine (A0g.calls b8 _ _ l0 5 av bu bv _ ?ai ?aj eW.out).mono ?_); (case ai => exact kC (Kd.A1i bI.out HB.out)); (case aj => exact bJ.out); rintro e w' ⟨rfl, ⟨nd, rfl⟩⟩; refine ⟨_, rfl, ?_⟩))
        refine bodyPost_ret (A1c (rs := [.tmp 2, .tmp 3, .tmp 4, .tmp 5]) rfl (by simp) (.tmp (.tmp (.tmp (.tmp .nil))))) rfl ?_
        exact ⟨_, kF, kNi, (kl HB)⟩
       rw [kIn cC] at H; have cX : decide (65535 < av) = false := kFf cC; clear cC; have H' := ak H; clear H
       go_wp2_with (first | ((with_reducible refine A0l (f := 67) rfl ?_); refine A1d (some 50) rfl rfl Tryd.func67 (by kernel_rfl) rfl #[.slice (some a1) l0.length c0, .int .i64 5] rfl km ?_; (with_reducible refine (A0g.calls b8 _ _ l0 5 av bu bv _ ?ai ?aj eW.out).mono ?_); (case ai => exact kC (Kd.A1i bI.out HB.out)); (case aj => exact bJ.out); rintro e w' ⟨rfl, ⟨nd, rfl⟩⟩; refine ⟨_, rfl, ?_⟩))
       go_loopg [10, 11, 12, 13, 14] b8 (fun kq eX gr gs gv gw w' => ∃ (af : Int) (ag : List (S70)) (aA : Bool) (ap : Int) (au : Int), eX = .int .i64 af ∧ gs = .bool aA ∧ gv = .int .u64 ap ∧ gw = .int .i64 au ∧ A0b (A0c.l0 kq l0 (wrap64 (rd l0 4)) av af ag aA ap au = some (r1, r2, r3, r4)) ∧ A0b (kq ≤ b8) ∧ A0b (Kd.R k70 70 w' w.heap.size (fun _ => True) gr ag) ∧ A0b (Below w.heap.size w w'))
       case atStart => exact ⟨(wrap64 (5 + bu)), (([] : List (S70))), (true), (0), (0), kE, kE, kE, kE, H', ⟨Nat.le_refl _⟩, ⟨kNi⟩, ⟨(kl HB)⟩⟩
       case round =>
        clear H'; obtain ⟨af, ag, aA, ap, au, rfl, rfl, rfl, rfl, HA, b3, HO_11, HB⟩ := hrel
        cases gk with
        | zero => exact absurd HA.out (by simp [A0c.l0])
        | succ k3 =>
         have H := HA.out; clear HA; simp only [A0c.l0] at H
         by_cases cD : au < (wrap64 (av))
         ·rw [kIp cD] at H; have cY := kTt cD; clear cD
          by_cases cF : (wrap64 ((l0.length : Int) - af)) < 8
          ·rw [kIp cF] at H; have cZ := kTt cF; clear cF; simp only [Option.some.injEq, Prod.mk.injEq] at H; obtain ⟨rfl, rfl, rfl, rfl⟩ := H
           go_wp2
           refine bodyPost_ret (A1c (rs := [.tmp 2, .tmp 3, .tmp 4, .tmp 5]) rfl (by simp) (.tmp (.tmp (.tmp (.tmp .nil))))) rfl ?_
           exact ⟨_, kF, kNi, (kl HB)⟩
          rw [kIn cF] at H; have cZ := kFf cF; clear cF
          by_cases da : 0 ≤ af
          ·rw [kIp da] at H; have fB := kEt da; have fC := kTt da; clear da
           by_cases d8 : af ≤ (wrap64 (af + 8))
           ·rw [kIp d8] at H; have fD := kEt d8; have fE := kTt d8
            by_cases d9 : (wrap64 (af + 8)) ≤ (l0.length : Int)
            ·rw [kIp d9] at H; have fF := kEt d9; have fG := kTt d9; replace H := bkH H; obtain ⟨ae, gx, H⟩ := H; have H' := ak H; clear H; obtain ⟨gy, bL, _, bM, _⟩ := info_parts info5; obtain ⟨gz, eY, db, dc⟩ := A29 (P := Tryd.prog) (Value.int .u8) 0 22 5 .i64 .i64 Tryd.underlying22 bL bM (some a1) c0 l0 af (wrap64 (af + 8)) kD (by first | omega | exact kD) kD bJ.out; have cc := ak (Kd.A2b (h1 := fun _ => rfl) (db _ (Kd.A18 bI.out))); have cf := ak dc; clear db dc bL bM
             go_wp2_with (first | ((with_reducible refine A0l (f := 64) rfl ?_); refine A1d (some 77) rfl rfl Tryd.func64 (by kernel_rfl) rfl #[.slice gz ((l0.take ((wrap64 (af + 8)) : Int).toNat).drop (af : Int).toNat).length (c0 - af.toNat)] rfl (by (try simp only [List.map_toArray, List.map_cons, List.map_nil]); first | done | (rw [show ((l0.take ((wrap64 (af + 8)) : Int).toNat).drop (af : Int).toNat).length = ((wrap64 (af + 8)).toNat - af.toNat) from (by rw [List.length_drop, List.length_take]; have h_ : ((wrap64 (af + 8)) : Int) ≤ (l0.length : Int) := kD; omega)] <;> rfl) | rfl | (simp only [List.length_drop, List.length_take]; rfl)) ?_; (with_reducible refine (A1n.calls k3 _ _ ((l0.take ((wrap64 (af + 8)) : Int).toNat).drop (af : Int).toNat) ae _ ?ai ?aj gx.out).mono ?_); (case ai => exact kC (Kd.A1i cc.out HB.out)); (case aj => exact cf.out); rintro e w' ⟨rfl, ⟨nd, rfl⟩⟩; refine ⟨_, rfl, ?_⟩; (repeat (rw [A3c wr]; generalize hq_ : World.drewN wr _ = wr; have aQ : A0b (Kd.R k70 70 wr w.heap.size (fun _ => True) u11 ag) := ⟨by rw [← hq_]; exact (kr HO_11)⟩; have aR : A0b (Below w.heap.size w wr) := ⟨by rw [← hq_]; exact (kl HB)⟩; clear HO_11 HB hq_; have HO_11 := aQ; have HB := aR; clear aQ aR))) | ((with_reducible refine A0s (N := 15) rfl ?_); (try (refine A10 (by rfl) ?_; dsimp only)); refine bxe 15 #[.int .i64 0, .int .i64 0, .int .i64 0, .int .i64 0] 70 (h := ?_); intro ad hg gI hbox hb; replace HO_11 := ak (Kd.A1x (Kd.A31 (kr HO_11) ad (Nat.le_of_eq hg.symm)) hb); have ac := ak (hbox); have eZ := kG hg HB; have fa := kG hg HB; replace HB := kH HB hb; clear hb hbox hg; obtain ⟨dA, dB, dC, dD⟩ := kc4 ac; obtain ⟨dF, dG, dH, dI⟩ := kf4 ac))
             go_loopg [10, 16, 17] k3 (fun kq eX g0 g1 w' => ∃ (an : Int) (aa : List Int) (aT : Int), eX = .int .i64 an ∧ g1 = .int .i64 aT ∧ A0b (A0c.l1 kq l0 (wrap64 (rd l0 4)) av an ag aA ap au aa aT (wrap64 (ae)) 0 0 0 = some (r1, r2, r3, r4)) ∧ A0b (kq ≤ k3) ∧ A0b (Kd.R k70 70 w' w.heap.size (fun k_ => k_ ≠ ad) u11 ag) ∧ A0b (Kd.R (Kd.int .u64) 28 w' w.heap.size (fun _ => True) g0 aa) ∧ A0b (w'.heap[ad]? = some (.cells #[.int .i64 (wrap64 (ae)), .int .i64 0, .int .i64 0, .int .i64 0] 70 (0, 0))) ∧ A0b (Below w.heap.size w w'))
             case atStart => exact ⟨(wrap64 (af + 8)), (([] : List Int)), (0), kE, kE, H', ⟨Nat.le_refl _⟩, ⟨by (with_reducible repeat (first | apply Kd.R_alloc | apply Kd.A00 | apply Kd.A02)); exact Kd.A1e (Kd.A03 (p := ⟨ad, 3, none⟩) (Kd.A03 (p := ⟨ad, 2, none⟩) (Kd.A03 (p := ⟨ad, 1, none⟩) (Kd.A03 (p := ⟨ad, 0, none⟩) (Kd.A1e HO_11.out (fun k_ hk => (⟨hk, hk.2⟩ : _ ∧ k_ ≠ ad))) (fun _ hk => hk.2) (.int .i64 (wrap64 (ae)))) (fun _ hk => hk.2) (.int .i64 0)) (fun _ hk => hk.2) (.int .i64 0)) (fun _ hk => hk.2) (.int .i64 0)) (fun _ hk => hk.1.2)⟩, ⟨kNi⟩, ⟨(kb ac)⟩, ⟨(kl HB)⟩⟩
             case round =>
              clear H'; obtain ⟨an, aa, aT, rfl, rfl, HA, b5, HO_11, HO_16, ac, HB⟩ := hrel
              cases gk with
              | zero => exact absurd HA.out (by simp [A0c.l1])
              | succ k4 =>
               have H := HA.out; clear HA; simp only [A0c.l1] at H
               by_cases cG : aT < 3
               ·rw [kIp cG] at H; have dd := kTt cG; clear cG; replace H := bkH H; obtain ⟨⟨aW, bw, b9⟩, fH, H⟩ := H; (try dsimp only at H)
                by_cases de : b9 = 0
                ·rw [kIp de] at H; obtain ⟨df, dg⟩ := kqT de; clear de
                 by_cases dJ : aa.length < 17592186044416
                 ·rw [kIp dJ] at H; have LMc30 := ak dJ; clear dJ; obtain ⟨bN, aD⟩ : ∃ y_ : List Int, y_ = (aa ++ [aW]) := ⟨_, rfl⟩
                  replace H : (A0c.l1 k4 l0 (wrap64 (rd l0 4)) av (wrap64 (an + bw)) ag aA ap au bN (wrap64 (aT + 1)) (wrap64 (ae)) 0 0 0) = some (r1, r2, r3, r4) := by first | (rw [aD]; with_reducible exact H) | (have H2_ := (Option.bind_some _ _).symm.trans H; rw [aD]; with_reducible exact H2_) | (have H2_ := (Option.bind_some _ _).symm.trans H; with_reducible exact H2_) | with_reducible exact H | (rw [aD]; exact H) | exact H
                  have cg := ak aD; clear aD; have H' := ak H; clear H
                  go_wp2_with (first | ((with_reducible refine A0l (f := 67) rfl ?_); refine A1d (some 89) rfl rfl Tryd.func67 (by kernel_rfl) rfl #[.slice (some a1) l0.length c0, .int .i64 an] rfl km ?_; (with_reducible refine (A0g.calls k4 _ _ l0 an aW bw b9 _ ?ai ?aj fH.out).mono ?_); (case ai => exact kC (Kd.A1i bI.out HB.out)); (case aj => exact bJ.out); rintro e w' ⟨rfl, ⟨nd, rfl⟩⟩; refine ⟨_, rfl, ?_⟩) | ((with_reducible refine A2c (b := .append) (xs := #[.tmp 96, .tmp 98]) rfl ?_); (try (refine A10 (by rfl) ?_; dsimp only)); at_builtin; refine Kd.A3t (Kd.int .u64) (w0 := w) w.heap.size rfl (.tmp 96) (.tmp 98) 128 28 (.int .u64 0) 8 rfl Tryd.underlying128 info28 rfl (by decide) (by omega) u16 aa aW [.int .u64 aW] (fun _ => True) (fun _ => False) rfl rfl ?aP (fun _ hk => hk.elim) ?aF ?aO ?aB ?aS ?aL ?_; (case aP => exact rfl); (case aB => exact (kl HB)); (case aF => exact (fun _ _ => trivial)); (case aO => exact (kr HO_16)); (case aS => exact (A0t (kl HB))); (case aL => have := LMc30.out; omega); intro fI gJ ho hb hg hat; rw [← cg.out] at ho; have aQ := ak (Kd.R_over' (kr HO_11) (Kd.A36 (kr HO_16)) (by decide) hg); have aR := ak (A15 (g := ad) (o := .cells #[.int .i64 (wrap64 (ae)), .int .i64 0, .int .i64 0, .int .i64 0] 70 (0, 0)) (kb ac) hg (Kd.R_ne HO_16.out ac.out (by decide))); have aX := ak (hb); have aY := ak (ho); clear HO_11; clear ac; clear HB; clear HO_16; have HO_11 := aQ; have ac := aR; have HB := aX; have ch := aY; clear aQ aR aX aY; clear ho hb hg hat))
                  go_roundg k4
                  case measure => have := bj.out; have := a9.out; have := b3.out; have := b5.out; omega
                  case rel => exact ⟨(wrap64 (an + bw)), (bN), (wrap64 (aT + 1)), kE, kE, H', ⟨by have := bj.out; have := a9.out; have := b3.out; have := b5.out; omega⟩, ⟨kr HO_11⟩, ⟨kr ch⟩, ⟨kb ac⟩, ⟨(kl HB)⟩⟩
                 exact (kA dJ H).elim
                rw [kIn de] at H; obtain ⟨df, dg⟩ := kqF de; simp only [Option.some.injEq, Prod.mk.injEq] at H; obtain ⟨rfl, rfl, rfl, rfl⟩ := H
                go_wp2_with (first | ((with_reducible refine A0l (f := 67) rfl ?_); refine A1d (some 89) rfl rfl Tryd.func67 (by kernel_rfl) rfl #[.slice (some a1) l0.length c0, .int .i64 an] rfl km ?_; (with_reducible refine (A0g.calls k4 _ _ l0 an aW bw b9 _ ?ai ?aj fH.out).mono ?_); (case ai => exact kC (Kd.A1i bI.out HB.out)); (case aj => exact bJ.out); rintro e w' ⟨rfl, ⟨nd, rfl⟩⟩; refine ⟨_, rfl, ?_⟩))
                refine bodyPost_ret (A1c (rs := [.tmp 2, .tmp 3, .tmp 4, .tmp 5]) rfl (by simp) (.tmp (.tmp (.tmp (.tmp .nil))))) rfl ?_
                exact ⟨_, kF, kNi, (kl HB)⟩
               rw [kIn cG] at H; have dd := kFf cG; clear cG
               by_cases dK : aA = true
               ·subst dK
                rw [if_pos rfl] at H
                by_cases dL : 0 < (aa.length : Int)
                ·rw [kIp dL] at H; have fJ := kTt dL; have fK : decide (0 < aa.length) = true := kTt (by omega); clear dL
                 by_cases cH : (rd aa 0) ≤ (IntKind.u64.wrap (9223372036854775807 - (IntKind.u64.wrap ((wrap64 (ae))))))
                 ·rw [kIp cH] at H; have dh := kTt cH; clear cH
                  by_cases dM : 1 < (aa.length : Int)
                  ·rw [kIp dM] at H; have fL := kTt dM; have fM : decide (1 < aa.length) = true := kTt (by omega); clear dM
                   by_cases cI : (rd aa 1) ≤ 65535
                   ·rw [kIp cI] at H; have di := kTt cI; clear cI
                    by_cases dN : 2 < (aa.length : Int)
                    ·rw [kIp dN] at H; have fN := kTt dN; have fO : decide (2 < aa.length) = true := kTt (by omega); clear dN
                     by_cases cJ : (rd aa 2) ≤ 2147483647
                     ·rw [kIp cJ] at H; have dj := kTt cJ; clear cJ
                      by_cases dO : ag.length < 4398046511104
                      ·rw [kIp dO] at H; have LMc39 := ak dO; clear dO; obtain ⟨bO, aE⟩ : ∃ y_ : List (S70), y_ = (ag ++ [(⟨(wrap64 (ae)), wrap64 ((wrap64 (ae)) + (wrap64 (rd aa 0))), wrap64 (rd aa 1), wrap64 (rd aa 2)⟩ : S70)]) := ⟨_, rfl⟩
                       replace H : (A0c.l0 k4 l0 (wrap64 (rd l0 4)) av an bO (decide ((rd aa 2) ≤ 2147483647)) (IntKind.u64.wrap (ap + (rd aa 2))) (wrap64 (au + 1))) = some (r1, r2, r3, r4) := by first | (rw [aE]; with_reducible exact H) | (have H2_ := (Option.bind_some _ _).symm.trans H; rw [aE]; with_reducible exact H2_) | (have H2_ := (Option.bind_some _ _).symm.trans H; with_reducible exact H2_) | with_reducible exact H | (rw [aE]; exact H) | exact H
                       have ci := ak aE; clear aE; have H' := ak H; clear H; obtain ⟨dP, dQ, dR, dS⟩ := kc4 ac; obtain ⟨dT, dU, dV, dW⟩ := kf4 ac; obtain ⟨g2, g3, fb⟩ := Kd.A11 HO_16.out; subst fb; have aw : 0 ≤ (0 : Int) := (by omega); have ao : 0 < (aa.length : Int) := kD; obtain ⟨ah, aG, al⟩ := Kd.A2y (Kd.A0y HO_16.out).2.2 0 aw ao
                       cases aG
                       have bm : (0 < aa.length) = True := eq_true (by omega); (try rw [show ((0 : Int)).toNat = 0 from rfl] at al); (try rw [Addr.add_zero'] at al); replace aw := kEt aw
                       (try (have am := ao; simp only [List.length_drop, List.length_take] at am; replace am := kEt am)); replace ao := kEt ao
                       have a3 : 0 ≤ (1 : Int) := (by omega); have ay : 1 < (aa.length : Int) := kD; obtain ⟨aH, aZ, aq⟩ := Kd.A2y (Kd.A0y HO_16.out).2.2 1 a3 ay; obtain rfl : ah = aH := (by injection aZ); (try simp only [show (1 : Int).toNat = 1 from rfl, Nat.reduceMul, Nat.reduceEqDiff, Go.Addr.add, ↓reduceIte] at aq); have bA : (1 < aa.length) = True := eq_true (by omega); (try rw [show ((1 : Int)).toNat = 1 from rfl] at aq); replace a3 := kEt a3
                       (try (have ax := ay; simp only [List.length_drop, List.length_take] at ax; replace ax := kEt ax)); replace ay := kEt ay
                       have aI : 0 ≤ (2 : Int) := (by omega); have a6 : 2 < (aa.length : Int) := kD; obtain ⟨bn, bB, a4⟩ := Kd.A2y (Kd.A0y HO_16.out).2.2 2 aI a6; obtain rfl : ah = bn := (by injection bB); (try simp only [show (2 : Int).toNat = 2 from rfl, Nat.reduceMul, Nat.reduceEqDiff, Go.Addr.add, ↓reduceIte] at a4); have cj : (2 < aa.length) = True := eq_true (by omega); (try rw [show ((2 : Int)).toNat = 2 from rfl] at a4); replace aI := kEt aI
                       (try (have a5 := a6; simp only [List.length_drop, List.length_take] at a5; replace a5 := kEt a5)); replace a6 := kEt a6
                       try go_wp2
                       replace HO_11 := ak (Kd.A02 HO_11.out); replace HO_16 := ak (Kd.A02 HO_16.out); replace ac := ak (A0v ac.out); replace HB := ak (A04 HB.out); have bC : 0 ≤ (0 : Int) := (by omega); have bx : 0 < (aa.length : Int) := kD; obtain ⟨ck, dk, a7⟩ := Kd.A2y (Kd.A0y HO_16.out).2.2 0 bC bx; obtain rfl : ah = ck := (by injection dk); have fc : (0 < aa.length) = True := eq_true (by omega); (try rw [show ((0 : Int)).toNat = 0 from rfl] at a7); (try rw [Addr.add_zero'] at a7); replace bC := kEt bC
                       (try (have bo := bx; simp only [List.length_drop, List.length_take] at bo; replace bo := kEt bo)); replace bx := kEt bx
                       refine A28 (n := 9) (S := fun w' => w'.cell? ⟨ad, 0, none⟩ = some (.int .i64 (wrap64 (ae))) ∧ w'.cell? ⟨ad, 1, none⟩ = some (.int .i64 0) ∧ w'.cell? ⟨ad, 2, none⟩ = some (.int .i64 0) ∧ w'.cell? ⟨ad, 3, none⟩ = some (.int .i64 0) ∧ w'.cell? ah = some (.int .u64 (rd aa 0))) (ds := [8]) (bl 9 0) (by kernel_rfl) rfl rfl ⟨(A16 ac.out 0).trans rfl, (A16 ac.out 1).trans rfl, (A16 ac.out 2).trans rfl, (A16 ac.out 3).trans rfl, a7⟩ (fun hHeld => ?_); refine A2j A0c.tab36 A0c.bits36 (fun HT_ HW_ => ?_)
                       generalize wr.drew = gK at HO_11 HO_16 ac HB a7 hHeld ⊢; refine pv 0 128 ?_; refine pv 2 130 ?_; refine pv 3 131 ?_; refine ta 1 (some 129) (bl 9 15) (h := ?_); refine ta 4 (some 132) (bl 9 31) (h := ?_); refine pv 5 133 ?_; refine pv 6 134 ?_; refine pv 7 135 ?_; refine last_ (i := 8) (N := none) (bl 9 511) rfl rfl (A2s HT_.out (by kernel_rfl)) (by decide) (fun K hK => ?_); have g4 := (kc4 ac).2.1; have fP := A0d ac.out 1; refine skip_ (w1 := ?_) (by rfl) rfl ?_ ?_
                       rotate_left
                       ·go_simp
                        rfl
                       refine hK.out _ _ ?_; clear hK K; refine A3u (A22 HT_.out (by kernel_rfl)) ?_; have bD : 0 ≤ (1 : Int) := (by omega); have bz : 1 < (aa.length : Int) := kD; obtain ⟨cm, dl, a8⟩ := Kd.A2y (Kd.A0y HO_16.out).2.2 1 bD bz; obtain rfl : ah = cm := (by injection dl); (try simp only [show (1 : Int).toNat = 1 from rfl, Nat.reduceMul, Nat.reduceEqDiff, Go.Addr.add, ↓reduceIte] at a8); have fd : (1 < aa.length) = True := eq_true (by omega); (try rw [show ((1 : Int)).toNat = 1 from rfl] at a8); have ba : ah.block ≠ ad := Kd.own_blk (Kd.R_ne HO_16.out ac.out (by decide)); replace a8 := (cell_far (p := ⟨ad, 1, none⟩) (ab_ ba) (.int .i64 (wrap64 ((wrap64 (ae)) + (wrap64 (rd aa 0)))))).trans a8; clear ba; replace bD := kEt bD
                       (try (have bp := bz; simp only [List.length_drop, List.length_take] at bp; replace bp := kEt bp)); replace bz := kEt bz
                       obtain ⟨dX, dY, dZ, ea⟩ := kc4 ac; obtain ⟨eb, ec, ed, ee⟩ := kf4 ac; have bE : 0 ≤ (2 : Int) := (by omega); have b0 : 2 < (aa.length : Int) := kD; obtain ⟨co, dm, az⟩ := Kd.A2y (Kd.A0y HO_16.out).2.2 2 bE b0; obtain rfl : ah = co := (by injection dm); (try simp only [show (2 : Int).toNat = 2 from rfl, Nat.reduceMul, Nat.reduceEqDiff, Go.Addr.add, ↓reduceIte] at az); have fe : (2 < aa.length) = True := eq_true (by omega); (try rw [show ((2 : Int)).toNat = 2 from rfl] at az); have bb : ah.block ≠ ad := Kd.own_blk (Kd.R_ne HO_16.out ac.out (by decide)); have bc : ah.block ≠ ad := Kd.own_blk (Kd.R_ne HO_16.out ac.out (by decide)); replace az := (cell_far (p := ⟨ad, 1, none⟩) (ab_ bb) (.int .i64 (wrap64 ((wrap64 (ae)) + (wrap64 (rd aa 0)))))).trans az; replace az := (cell_far (p := ⟨ad, 2, none⟩) (ab_ bc) (.int .i64 (wrap64 (rd aa 1)))).trans az; clear bb; clear bc; replace bE := kEt bE
                       (try (have bq := b0; simp only [List.length_drop, List.length_take] at bq; replace bq := kEt bq)); replace b0 := kEt b0
                       have bF : 0 ≤ (2 : Int) := (by omega); have b1 : 2 < (aa.length : Int) := kD; obtain ⟨cp, dn, ar⟩ := Kd.A2y (Kd.A0y HO_16.out).2.2 2 bF b1; obtain rfl : ah = cp := (by injection dn); (try simp only [show (2 : Int).toNat = 2 from rfl, Nat.reduceMul, Nat.reduceEqDiff, Go.Addr.add, ↓reduceIte] at ar); have ff : (2 < aa.length) = True := eq_true (by omega); (try rw [show ((2 : Int)).toNat = 2 from rfl] at ar); have be : ah.block ≠ ad := Kd.own_blk (Kd.R_ne HO_16.out ac.out (by decide)); have bf : ah.block ≠ ad := Kd.own_blk (Kd.R_ne HO_16.out ac.out (by decide)); have bh : ah.block ≠ ad := Kd.own_blk (Kd.R_ne HO_16.out ac.out (by decide)); replace ar := (cell_far (p := ⟨ad, 1, none⟩) (ab_ be) (.int .i64 (wrap64 ((wrap64 (ae)) + (wrap64 (rd aa 0)))))).trans ar; replace ar := (cell_far (p := ⟨ad, 2, none⟩) (ab_ bf) (.int .i64 (wrap64 (rd aa 1)))).trans ar; replace ar := (cell_far (p := ⟨ad, 3, none⟩) (ab_ bh) (.int .i64 (wrap64 (rd aa 2)))).trans ar; clear be; clear bf; clear bh; replace bF := kEt bF
                       (try (have br := b1; simp only [List.length_drop, List.length_take] at br; replace br := kEt br)); replace b1 := kEt b1
                       try go_wp2_with (first | ((with_reducible refine A2c (b := .append) (xs := #[.tmp 151, .tmp 153]) rfl ?_); (try (refine A10 (by rfl) ?_; dsimp only)); at_builtin; refine Kd.A3t k70 (w0 := w) w.heap.size rfl (.tmp 151) (.tmp 153) 75 70 (.agg #[(.int .i64 0), (.int .i64 0), (.int .i64 0), (.int .i64 0)]) 32 rfl Tryd.underlying75 info70 rfl (by decide) (by omega) u11 ag (⟨(wrap64 (ae)), wrap64 ((wrap64 (ae)) + (wrap64 (rd aa 0))), wrap64 (rd aa 1), wrap64 (rd aa 2)⟩ : S70) [.int .i64 (wrap64 (ae)), .int .i64 (wrap64 ((wrap64 (ae)) + (wrap64 (rd aa 0)))), .int .i64 (wrap64 (rd aa 1)), .int .i64 (wrap64 (rd aa 2))] (fun k_ => k_ ≠ ad) (fun _ => False) rfl (by first | (go_simp; done) | (go_simp; rfl)) ?aP (fun _ hk => hk.elim) ?aF ?aO ?aB ?aS ?aL ?_; (case aP => exact k70_mkM _ _ _ (⟨(wrap64 (ae)), wrap64 ((wrap64 (ae)) + (wrap64 (rd aa 0))), wrap64 (rd aa 1), wrap64 (rd aa 2)⟩ : S70)); (case aB => exact (kl HB)); (case aF => exact (fun k_ hk => Kd.freshB (g := ad) (o := .cells #[.int .i64 (wrap64 (ae)), .int .i64 (wrap64 ((wrap64 (ae)) + (wrap64 (rd aa 0)))), .int .i64 (wrap64 (rd aa 1)), .int .i64 (wrap64 (rd aa 2))] 70 (0, 0)) (kb ac) k_ hk)); (case aO => exact (by (with_reducible repeat (first | apply Kd.R_alloc | apply Kd.A00 | apply Kd.A02)); exact Kd.A1e (Kd.A03 (p := ⟨ad, 3, none⟩) (Kd.A03 (p := ⟨ad, 2, none⟩) (Kd.A03 (p := ⟨ad, 1, none⟩) (Kd.A1e HO_11.out (fun k_ hk => (⟨hk, hk⟩ : _ ∧ k_ ≠ ad))) (fun _ hk => hk.2) (.int .i64 (wrap64 ((wrap64 (ae)) + (wrap64 (rd aa 0)))))) (fun _ hk => hk.2) (.int .i64 (wrap64 (rd aa 1)))) (fun _ hk => hk.2) (.int .i64 (wrap64 (rd aa 2)))) (fun _ hk => hk.1))); (case aS => exact (A0t (kl HB))); (case aL => have := LMc39.out; omega); intro fQ gL ho hb hg hat; rw [← ci.out] at ho; have aQ := ak (Kd.R_over' (by (with_reducible repeat (first | apply Kd.R_alloc | apply Kd.A00 | apply Kd.A02)); exact (Kd.A1e (Kd.A03 (p := ⟨ad, 3, none⟩) (Kd.A03 (p := ⟨ad, 2, none⟩) (Kd.A03 (p := ⟨ad, 1, none⟩) (Kd.A2a HO_16.out ac.out (by decide)) (fun _ hk => hk.2) (.int .i64 (wrap64 ((wrap64 (ae)) + (wrap64 (rd aa 0)))))) (fun _ hk => hk.2) (.int .i64 (wrap64 (rd aa 1)))) (fun _ hk => hk.2) (.int .i64 (wrap64 (rd aa 2)))) (fun _ h_ => h_.1))) (Kd.A36 (by (with_reducible repeat (first | apply Kd.R_alloc | apply Kd.A00 | apply Kd.A02)); exact (Kd.A1e (Kd.A03 (p := ⟨ad, 3, none⟩) (Kd.A03 (p := ⟨ad, 2, none⟩) (Kd.A03 (p := ⟨ad, 1, none⟩) (Kd.A1e HO_11.out (fun k_ hk => (⟨hk, hk⟩ : _ ∧ k_ ≠ ad))) (fun _ hk => hk.2) (.int .i64 (wrap64 ((wrap64 (ae)) + (wrap64 (rd aa 0)))))) (fun _ hk => hk.2) (.int .i64 (wrap64 (rd aa 1)))) (fun _ hk => hk.2) (.int .i64 (wrap64 (rd aa 2)))) (fun _ h_ => h_.1)))) (by decide) hg); have aR := ak (A15 (g := ad) (o := .cells #[.int .i64 (wrap64 (ae)), .int .i64 (wrap64 ((wrap64 (ae)) + (wrap64 (rd aa 0)))), .int .i64 (wrap64 (rd aa 1)), .int .i64 (wrap64 (rd aa 2))] 70 (0, 0)) (kb ac) hg (Kd.R_away HO_11.out (fun _ hk => hk))); have aX := ak (hb); have aY := ak (ho); clear HO_16; clear ac; clear HB; clear HO_11; have HO_16 := aQ; have ac := aR; have HB := aX; have cq := aY; clear aQ aR aX aY; clear ho hb hg hat))
                       go_roundg k4
                       case measure => have := bj.out; have := a9.out; have := b3.out; have := b5.out; omega
                       case rel => exact ⟨(an), (bO), (decide ((rd aa 2) ≤ 2147483647)), (IntKind.u64.wrap (ap + (rd aa 2))), (wrap64 (au + 1)), kE, kE, kE, kE, H', ⟨by have := bj.out; have := a9.out; have := b3.out; have := b5.out; omega⟩, ⟨by (with_reducible repeat (first | apply Kd.R_alloc | apply Kd.A00 | apply Kd.A02)); exact Kd.A1e cq.out (fun _ hk => trivial)⟩, ⟨(kl HB)⟩⟩
                      exact (kA dO H).elim
                     rw [kIn cJ] at H; have dj := kFf cJ; clear cJ
                     by_cases ef : ag.length < 4398046511104
                     ·rw [kIp ef] at H; have LMc46 := ak ef; clear ef; obtain ⟨bP, aJ⟩ : ∃ y_ : List (S70), y_ = (ag ++ [(⟨(wrap64 (ae)), 0, 0, 0⟩ : S70)]) := ⟨_, rfl⟩
                      replace H : (A0c.l0 k4 l0 (wrap64 (rd l0 4)) av an bP (decide ((rd aa 2) ≤ 2147483647)) ap (wrap64 (au + 1))) = some (r1, r2, r3, r4) := by first | (rw [aJ]; with_reducible exact H) | (have H2_ := (Option.bind_some _ _).symm.trans H; rw [aJ]; with_reducible exact H2_) | (have H2_ := (Option.bind_some _ _).symm.trans H; with_reducible exact H2_) | with_reducible exact H | (rw [aJ]; exact H) | exact H
                      have cr := ak aJ; clear aJ; have H' := ak H; clear H; obtain ⟨eg, eh, ei, ej⟩ := kc4 ac; obtain ⟨ek, el, em, eo⟩ := kf4 ac; obtain ⟨g5, g6, fg⟩ := Kd.A11 HO_16.out; subst fg; have aw : 0 ≤ (0 : Int) := (by omega); have ao : 0 < (aa.length : Int) := kD; obtain ⟨ah, aG, al⟩ := Kd.A2y (Kd.A0y HO_16.out).2.2 0 aw ao
                      cases aG
                      have bm : (0 < aa.length) = True := eq_true (by omega); (try rw [show ((0 : Int)).toNat = 0 from rfl] at al); (try rw [Addr.add_zero'] at al); replace aw := kEt aw
                      (try (have am := ao; simp only [List.length_drop, List.length_take] at am; replace am := kEt am)); replace ao := kEt ao
                      have a3 : 0 ≤ (1 : Int) := (by omega); have ay : 1 < (aa.length : Int) := kD; obtain ⟨aH, aZ, aq⟩ := Kd.A2y (Kd.A0y HO_16.out).2.2 1 a3 ay; obtain rfl : ah = aH := (by injection aZ); (try simp only [show (1 : Int).toNat = 1 from rfl, Nat.reduceMul, Nat.reduceEqDiff, Go.Addr.add, ↓reduceIte] at aq); have bA : (1 < aa.length) = True := eq_true (by omega); (try rw [show ((1 : Int)).toNat = 1 from rfl] at aq); replace a3 := kEt a3
                      (try (have ax := ay; simp only [List.length_drop, List.length_take] at ax; replace ax := kEt ax)); replace ay := kEt ay
                      have aI : 0 ≤ (2 : Int) := (by omega); have a6 : 2 < (aa.length : Int) := kD; obtain ⟨bn, bB, a4⟩ := Kd.A2y (Kd.A0y HO_16.out).2.2 2 aI a6; obtain rfl : ah = bn := (by injection bB); (try simp only [show (2 : Int).toNat = 2 from rfl, Nat.reduceMul, Nat.reduceEqDiff, Go.Addr.add, ↓reduceIte] at a4); have cj : (2 < aa.length) = True := eq_true (by omega); (try rw [show ((2 : Int)).toNat = 2 from rfl] at a4); replace aI := kEt aI
                      (try (have a5 := a6; simp only [List.length_drop, List.length_take] at a5; replace a5 := kEt a5)); replace a6 := kEt a6
                      go_wp2_with (first | ((with_reducible refine A2c (b := .append) (xs := #[.tmp 151, .tmp 153]) rfl ?_); (try (refine A10 (by rfl) ?_; dsimp only)); at_builtin; refine Kd.A3t k70 (w0 := w) w.heap.size rfl (.tmp 151) (.tmp 153) 75 70 (.agg #[(.int .i64 0), (.int .i64 0), (.int .i64 0), (.int .i64 0)]) 32 rfl Tryd.underlying75 info70 rfl (by decide) (by omega) u11 ag (⟨(wrap64 (ae)), 0, 0, 0⟩ : S70) [.int .i64 (wrap64 (ae)), .int .i64 0, .int .i64 0, .int .i64 0] (fun k_ => k_ ≠ ad) (fun _ => False) rfl rfl ?aP (fun _ hk => hk.elim) ?aF ?aO ?aB ?aS ?aL ?_; (case aP => exact k70_mkM _ _ _ (⟨(wrap64 (ae)), 0, 0, 0⟩ : S70)); (case aB => exact (kl HB)); (case aF => exact (fun k_ hk => Kd.freshB (g := ad) (o := .cells #[.int .i64 (wrap64 (ae)), .int .i64 0, .int .i64 0, .int .i64 0] 70 (0, 0)) (kb ac) k_ hk)); (case aO => exact (kr HO_11)); (case aS => exact (A0t (kl HB))); (case aL => have := LMc46.out; omega); intro fR gM ho hb hg hat; rw [← cr.out] at ho; have aQ := ak (Kd.R_over' (kr HO_16) (Kd.A36 (kr HO_11)) (by decide) hg); have aR := ak (A15 (g := ad) (o := .cells #[.int .i64 (wrap64 (ae)), .int .i64 0, .int .i64 0, .int .i64 0] 70 (0, 0)) (kb ac) hg (Kd.R_away HO_11.out (fun _ hk => hk))); have aX := ak (hb); have aY := ak (ho); clear HO_16; clear ac; clear HB; clear HO_11; have HO_16 := aQ; have ac := aR; have HB := aX; have cs := aY; clear aQ aR aX aY; clear ho hb hg hat))
                      go_roundg k4
                      case measure => have := bj.out; have := a9.out; have := b3.out; have := b5.out; omega
                      case rel => exact ⟨(an), (bP), (decide ((rd aa 2) ≤ 2147483647)), (ap), (wrap64 (au + 1)), kE, kE, kE, kE, H', ⟨by have := bj.out; have := a9.out; have := b3.out; have := b5.out; omega⟩, ⟨by (with_reducible repeat (first | apply Kd.R_alloc | apply Kd.A00 | apply Kd.A02)); exact Kd.A1e cs.out (fun _ hk => trivial)⟩, ⟨(kl HB)⟩⟩
                     exact (kA ef H).elim
                    exact (kA dN H).elim
                   rw [kIn cI] at H; have di := kFf cI; clear cI
                   by_cases ep : ag.length < 4398046511104
                   ·rw [kIp ep] at H; have LMc50 := ak ep; clear ep; obtain ⟨bQ, aK⟩ : ∃ y_ : List (S70), y_ = (ag ++ [(⟨(wrap64 (ae)), 0, 0, 0⟩ : S70)]) := ⟨_, rfl⟩
                    replace H : (A0c.l0 k4 l0 (wrap64 (rd l0 4)) av an bQ false ap (wrap64 (au + 1))) = some (r1, r2, r3, r4) := by first | (rw [aK]; with_reducible exact H) | (have H2_ := (Option.bind_some _ _).symm.trans H; rw [aK]; with_reducible exact H2_) | (have H2_ := (Option.bind_some _ _).symm.trans H; with_reducible exact H2_) | with_reducible exact H | (rw [aK]; exact H) | exact H
                    have ct := ak aK; clear aK; have H' := ak H; clear H; obtain ⟨et, eu, ev, ew⟩ := kc4 ac; obtain ⟨ex, ey, ez, e0⟩ := kf4 ac; obtain ⟨g7, g8, fh⟩ := Kd.A11 HO_16.out; subst fh; have aw : 0 ≤ (0 : Int) := (by omega); have ao : 0 < (aa.length : Int) := kD; obtain ⟨ah, aG, al⟩ := Kd.A2y (Kd.A0y HO_16.out).2.2 0 aw ao
                    cases aG
                    have bm : (0 < aa.length) = True := eq_true (by omega); (try rw [show ((0 : Int)).toNat = 0 from rfl] at al); (try rw [Addr.add_zero'] at al); replace aw := kEt aw
                    (try (have am := ao; simp only [List.length_drop, List.length_take] at am; replace am := kEt am)); replace ao := kEt ao
                    have a3 : 0 ≤ (1 : Int) := (by omega); have ay : 1 < (aa.length : Int) := kD; obtain ⟨aH, aZ, aq⟩ := Kd.A2y (Kd.A0y HO_16.out).2.2 1 a3 ay; obtain rfl : ah = aH := (by injection aZ); (try simp only [show (1 : Int).toNat = 1 from rfl, Nat.reduceMul, Nat.reduceEqDiff, Go.Addr.add, ↓reduceIte] at aq); have bA : (1 < aa.length) = True := eq_true (by omega); (try rw [show ((1 : Int)).toNat = 1 from rfl] at aq); replace a3 := kEt a3
                    (try (have ax := ay; simp only [List.length_drop, List.length_take] at ax; replace ax := kEt ax)); replace ay := kEt ay
                    go_wp2_with (first | ((with_reducible refine A2c (b := .append) (xs := #[.tmp 151, .tmp 153]) rfl ?_); (try (refine A10 (by rfl) ?_; dsimp only)); at_builtin; refine Kd.A3t k70 (w0 := w) w.heap.size rfl (.tmp 151) (.tmp 153) 75 70 (.agg #[(.int .i64 0), (.int .i64 0), (.int .i64 0), (.int .i64 0)]) 32 rfl Tryd.underlying75 info70 rfl (by decide) (by omega) u11 ag (⟨(wrap64 (ae)), 0, 0, 0⟩ : S70) [.int .i64 (wrap64 (ae)), .int .i64 0, .int .i64 0, .int .i64 0] (fun k_ => k_ ≠ ad) (fun _ => False) rfl rfl ?aP (fun _ hk => hk.elim) ?aF ?aO ?aB ?aS ?aL ?_; (case aP => exact k70_mkM _ _ _ (⟨(wrap64 (ae)), 0, 0, 0⟩ : S70)); (case aB => exact (kl HB)); (case aF => exact (fun k_ hk => Kd.freshB (g := ad) (o := .cells #[.int .i64 (wrap64 (ae)), .int .i64 0, .int .i64 0, .int .i64 0] 70 (0, 0)) (kb ac) k_ hk)); (case aO => exact (kr HO_11)); (case aS => exact (A0t (kl HB))); (case aL => have := LMc50.out; omega); intro fS gN ho hb hg hat; rw [← ct.out] at ho; have aQ := ak (Kd.R_over' (kr HO_16) (Kd.A36 (kr HO_11)) (by decide) hg); have aR := ak (A15 (g := ad) (o := .cells #[.int .i64 (wrap64 (ae)), .int .i64 0, .int .i64 0, .int .i64 0] 70 (0, 0)) (kb ac) hg (Kd.R_away HO_11.out (fun _ hk => hk))); have aX := ak (hb); have aY := ak (ho); clear HO_16; clear ac; clear HB; clear HO_11; have HO_16 := aQ; have ac := aR; have HB := aX; have cu := aY; clear aQ aR aX aY; clear ho hb hg hat))
                    go_roundg k4
                    case measure => have := bj.out; have := a9.out; have := b3.out; have := b5.out; omega
                    case rel => exact ⟨(an), (bQ), (false), (ap), (wrap64 (au + 1)), kE, kE, kE, kE, H', ⟨by have := bj.out; have := a9.out; have := b3.out; have := b5.out; omega⟩, ⟨by (with_reducible repeat (first | apply Kd.R_alloc | apply Kd.A00 | apply Kd.A02)); exact Kd.A1e cu.out (fun _ hk => trivial)⟩, ⟨(kl HB)⟩⟩
                   exact (kA ep H).elim
                  exact (kA dM H).elim
                 rw [kIn cH] at H; have dh := kFf cH; clear cH
                 by_cases e4 : ag.length < 4398046511104
                 ·rw [kIp e4] at H; have LMc54 := ak e4; clear e4; obtain ⟨bR, aM⟩ : ∃ y_ : List (S70), y_ = (ag ++ [(⟨(wrap64 (ae)), 0, 0, 0⟩ : S70)]) := ⟨_, rfl⟩
                  replace H : (A0c.l0 k4 l0 (wrap64 (rd l0 4)) av an bR false ap (wrap64 (au + 1))) = some (r1, r2, r3, r4) := by first | (rw [aM]; with_reducible exact H) | (have H2_ := (Option.bind_some _ _).symm.trans H; rw [aM]; with_reducible exact H2_) | (have H2_ := (Option.bind_some _ _).symm.trans H; with_reducible exact H2_) | with_reducible exact H | (rw [aM]; exact H) | exact H
                  have cv := ak aM; clear aM; have H' := ak H; clear H; obtain ⟨e5, e6, e7, e8⟩ := kc4 ac; obtain ⟨e9, eA, eB, eC⟩ := kf4 ac; obtain ⟨g9, gA, fi⟩ := Kd.A11 HO_16.out; subst fi; have aw : 0 ≤ (0 : Int) := (by omega); have ao : 0 < (aa.length : Int) := kD; obtain ⟨ah, aG, al⟩ := Kd.A2y (Kd.A0y HO_16.out).2.2 0 aw ao
                  cases aG
                  have bm : (0 < aa.length) = True := eq_true (by omega); (try rw [show ((0 : Int)).toNat = 0 from rfl] at al); (try rw [Addr.add_zero'] at al); replace aw := kEt aw
                  (try (have am := ao; simp only [List.length_drop, List.length_take] at am; replace am := kEt am)); replace ao := kEt ao
                  go_wp2_with (first | ((with_reducible refine A2c (b := .append) (xs := #[.tmp 151, .tmp 153]) rfl ?_); (try (refine A10 (by rfl) ?_; dsimp only)); at_builtin; refine Kd.A3t k70 (w0 := w) w.heap.size rfl (.tmp 151) (.tmp 153) 75 70 (.agg #[(.int .i64 0), (.int .i64 0), (.int .i64 0), (.int .i64 0)]) 32 rfl Tryd.underlying75 info70 rfl (by decide) (by omega) u11 ag (⟨(wrap64 (ae)), 0, 0, 0⟩ : S70) [.int .i64 (wrap64 (ae)), .int .i64 0, .int .i64 0, .int .i64 0] (fun k_ => k_ ≠ ad) (fun _ => False) rfl rfl ?aP (fun _ hk => hk.elim) ?aF ?aO ?aB ?aS ?aL ?_; (case aP => exact k70_mkM _ _ _ (⟨(wrap64 (ae)), 0, 0, 0⟩ : S70)); (case aB => exact (kl HB)); (case aF => exact (fun k_ hk => Kd.freshB (g := ad) (o := .cells #[.int .i64 (wrap64 (ae)), .int .i64 0, .int .i64 0, .int .i64 0] 70 (0, 0)) (kb ac) k_ hk)); (case aO => exact (kr HO_11)); (case aS => exact (A0t (kl HB))); (case aL => have := LMc54.out; omega); intro fT gO ho hb hg hat; rw [← cv.out] at ho; have aQ := ak (Kd.R_over' (kr HO_16) (Kd.A36 (kr HO_11)) (by decide) hg); have aR := ak (A15 (g := ad) (o := .cells #[.int .i64 (wrap64 (ae)), .int .i64 0, .int .i64 0, .int .i64 0] 70 (0, 0)) (kb ac) hg (Kd.R_away HO_11.out (fun _ hk => hk))); have aX := ak (hb); have aY := ak (ho); clear HO_16; clear ac; clear HB; clear HO_11; have HO_16 := aQ; have ac := aR; have HB := aX; have cw := aY; clear aQ aR aX aY; clear ho hb hg hat))
                  go_roundg k4
                  case measure => have := bj.out; have := a9.out; have := b3.out; have := b5.out; omega
                  case rel => exact ⟨(an), (bR), (false), (ap), (wrap64 (au + 1)), kE, kE, kE, kE, H', ⟨by have := bj.out; have := a9.out; have := b3.out; have := b5.out; omega⟩, ⟨by (with_reducible repeat (first | apply Kd.R_alloc | apply Kd.A00 | apply Kd.A02)); exact Kd.A1e cw.out (fun _ hk => trivial)⟩, ⟨(kl HB)⟩⟩
                 exact (kA e4 H).elim
                exact (kA dL H).elim
               replace dK := Bool.eq_false_iff.mpr dK; subst dK
               rw [if_neg (show ¬ (false = true) by decide)] at H
               by_cases eD : ag.length < 4398046511104
               ·rw [kIp eD] at H; have LMc58 := ak eD; clear eD; obtain ⟨bS, aN⟩ : ∃ y_ : List (S70), y_ = (ag ++ [(⟨(wrap64 (ae)), 0, 0, 0⟩ : S70)]) := ⟨_, rfl⟩
                replace H : (A0c.l0 k4 l0 (wrap64 (rd l0 4)) av an bS false ap (wrap64 (au + 1))) = some (r1, r2, r3, r4) := by first | (rw [aN]; with_reducible exact H) | (have H2_ := (Option.bind_some _ _).symm.trans H; rw [aN]; with_reducible exact H2_) | (have H2_ := (Option.bind_some _ _).symm.trans H; with_reducible exact H2_) | with_reducible exact H | (rw [aN]; exact H) | exact H
                have cx := ak aN; clear aN; have H' := ak H; clear H; obtain ⟨eE, eF, eG, eH⟩ := kc4 ac; obtain ⟨eI, eJ, eK, eL⟩ := kf4 ac
                go_wp2_with (first | ((with_reducible refine A2c (b := .append) (xs := #[.tmp 151, .tmp 153]) rfl ?_); (try (refine A10 (by rfl) ?_; dsimp only)); at_builtin; refine Kd.A3t k70 (w0 := w) w.heap.size rfl (.tmp 151) (.tmp 153) 75 70 (.agg #[(.int .i64 0), (.int .i64 0), (.int .i64 0), (.int .i64 0)]) 32 rfl Tryd.underlying75 info70 rfl (by decide) (by omega) u11 ag (⟨(wrap64 (ae)), 0, 0, 0⟩ : S70) [.int .i64 (wrap64 (ae)), .int .i64 0, .int .i64 0, .int .i64 0] (fun k_ => k_ ≠ ad) (fun _ => False) rfl rfl ?aP (fun _ hk => hk.elim) ?aF ?aO ?aB ?aS ?aL ?_; (case aP => exact k70_mkM _ _ _ (⟨(wrap64 (ae)), 0, 0, 0⟩ : S70)); (case aB => exact (kl HB)); (case aF => exact (fun k_ hk => Kd.freshB (g := ad) (o := .cells #[.int .i64 (wrap64 (ae)), .int .i64 0, .int .i64 0, .int .i64 0] 70 (0, 0)) (kb ac) k_ hk)); (case aO => exact (kr HO_11)); (case aS => exact (A0t (kl HB))); (case aL => have := LMc58.out; omega); intro fU gP ho hb hg hat; rw [← cx.out] at ho; have aQ := ak (Kd.R_over' (kr HO_16) (Kd.A36 (kr HO_11)) (by decide) hg); have aR := ak (A15 (g := ad) (o := .cells #[.int .i64 (wrap64 (ae)), .int .i64 0, .int .i64 0, .int .i64 0] 70 (0, 0)) (kb ac) hg (Kd.R_away HO_11.out (fun _ hk => hk))); have aX := ak (hb); have aY := ak (ho); clear HO_16; clear ac; clear HB; clear HO_11; have HO_16 := aQ; have ac := aR; have HB := aX; have cy := aY; clear aQ aR aX aY; clear ho hb hg hat))
                go_roundg k4
                case measure => have := bj.out; have := a9.out; have := b3.out; have := b5.out; omega
                case rel => exact ⟨(an), (bS), (false), (ap), (wrap64 (au + 1)), kE, kE, kE, kE, H', ⟨by have := bj.out; have := a9.out; have := b3.out; have := b5.out; omega⟩, ⟨by (with_reducible repeat (first | apply Kd.R_alloc | apply Kd.A00 | apply Kd.A02)); exact Kd.A1e cy.out (fun _ hk => trivial)⟩, ⟨(kl HB)⟩⟩
               exact (kA eD H).elim
            exact (kA d9 H).elim
           exact (kA d8 H).elim
          exact (kA da H).elim
         rw [kIn cD] at H; have cY := kFf cD; clear cD
         by_cases cK : (wrap64 ((l0.length : Int) - af)) < 4
         ·rw [kIp cK] at H; have dp := kTt cK; clear cK; simp only [Option.some.injEq, Prod.mk.injEq] at H; obtain ⟨rfl, rfl, rfl, rfl⟩ := H
          go_wp2
          refine bodyPost_ret (A1c (rs := [.tmp 2, .tmp 3, .tmp 4, .tmp 5]) rfl (by simp) (.tmp (.tmp (.tmp (.tmp .nil))))) rfl ?_
          exact ⟨_, kF, kNi, (kl HB)⟩
         rw [kIn cK] at H; have dp := kFf cK; clear cK; have cz := ak H; clear H
         go_upto_region 43 with (fail)
         go_cut [171] (fun fj wc => ∃ (kq : Nat) (aC : Bool), fj = .bool aC ∧ A0b (A0c.j4 kq l0 (wrap64 (rd l0 4)) af ag aA ap aC = some (r1, r2, r3, r4)) ∧ A0b (kq ≤ k3) ∧ A0b (Kd.R k70 70 wc w.heap.size (fun _ => True) u11 ag) ∧ A0b (Below w.heap.size w wc))
         case first =>
          have H := cz.out; clear cz
          by_cases dq : 0 ≤ af
          ·rw [kIp dq] at H; have fV := kEt dq; have fW := kTt dq; clear dq
           by_cases eM : af ≤ (wrap64 (af + 4))
           ·rw [kIp eM] at H; have fX := kEt eM; have fY := kTt eM
            by_cases eN : (wrap64 (af + 4)) ≤ (l0.length : Int)
            ·rw [kIp eN] at H; have fZ := kEt eN; have ga := kTt eN; replace H := bkH H; obtain ⟨bT, gB, H⟩ := H; have gb := eq_true (kD : 0 ≤ af)
             by_cases dr : af ≤ (l0.length : Int)
             ·rw [kIp dr] at H; have gc := kEt dr; have gf := kTt dr; clear dr; replace H := bkH H; obtain ⟨bU, gC, H⟩ := H; have H' := ak H; clear H
              try go_wp2
              replace HO_11 := ak (Kd.A02 HO_11.out); replace HB := ak (A04 HB.out); obtain ⟨gD, bV, _, bW, _⟩ := info_parts info5; obtain ⟨gE, fk, dt, du⟩ := A29 (P := Tryd.prog) (Value.int .u8) 0 22 5 .i64 .i64 Tryd.underlying22 bV bW (some a1) c0 l0 af (wrap64 (af + 4)) kD (by first | omega | exact kD) kD bJ.out; have bG := ak (Kd.A2b (h1 := fun _ => rfl) (dt _ (Kd.A18 bI.out))); have cA := ak du; clear dt du bV bW; obtain ⟨gF, bX, _, bY, _⟩ := info_parts info5; obtain ⟨fl, dv, dw⟩ := A27 (P := Tryd.prog) (Value.int .u8) 0 22 5 .i64 Tryd.underlying22 bX bY (some a1) c0 l0 af kD kD bJ.out; have bH := ak (Kd.A2b (h1 := fun _ => rfl) (dv _ (Kd.A18 bI.out))); have cB := ak dw; clear dv dw bX bY
              refine A28 (n := 12) (S := fun w' => True) (ds := []) (bl 12 0) (by kernel_rfl) rfl rfl trivial (fun hHeld => ?_); refine A2j A0c.tab43 A0c.bits43 (fun HT_ HW_ => ?_)
              generalize wr.drew = gQ at HO_11 HB bG bH hHeld ⊢; refine pv 0 160 ?_; refine pv 1 161 ?_; refine pv 2 162 ?_; refine pv 3 163 ?_; refine pv 4 164 ?_; refine pv 6 166 ?_; refine pv 7 167 ?_; refine pv 8 168 ?_; refine one_ (i := 5) (N := some 165) (bl 12 511) rfl rfl (A2s HT_.out (by kernel_rfl)) (by decide) (fun K hK => ?_); refine goes_ Tryd.func64 (by kernel_rfl) rfl #[.slice gE ((l0.take ((wrap64 (af + 4)) : Int).toNat).drop (af : Int).toNat).length (c0 - af.toNat)] (by rfl) rfl rfl (by (try simp only [List.map_toArray, List.map_cons, List.map_nil]); first | done | (rw [show ((l0.take ((wrap64 (af + 4)) : Int).toNat).drop (af : Int).toNat).length = ((wrap64 (af + 4)).toNat - af.toNat) from (by rw [List.length_drop, List.length_take]; have h_ : ((wrap64 (af + 4)) : Int) ≤ (l0.length : Int) := kD; omega)] <;> rfl) | rfl | (simp only [List.length_drop, List.length_take]; rfl)) ?_
              with_reducible refine (A1n.calls k3 _ _ ((l0.take ((wrap64 (af + 4)) : Int).toNat).drop (af : Int).toNat) bT _ ?ai ?aj gB.out).mono ?_
              (case ai => exact kC (Kd.A1i bG.out HB.out))
              (case aj => exact cA.out)
              rintro e w' ⟨rfl, ⟨nd, rfl⟩⟩; refine ⟨_, rfl, ?_⟩; refine hK.out _ _ trivial (fun hHeld => ?_); clear hK K; refine nm (some 165) (h := ?_)
              refine one_ (i := 9) (N := some 169) (bl 12 1023) rfl rfl (A2s HT_.out (by kernel_rfl)) (by decide) (fun K hK => ?_); refine goes_ Tryd.func27 (by kernel_rfl) rfl #[.slice (some a1) (l0.take (af : Int).toNat).length c0] (by rfl) rfl rfl (by (try simp only [List.map_toArray, List.map_cons, List.map_nil]); first | done | (rw [show (l0.take (af : Int).toNat).length = af.toNat from (by rw [List.length_take]; have h_ : (af : Int) ≤ (l0.length : Int) := kD; omega)] <;> rfl) | rfl | (simp only [List.length_drop, List.length_take]; rfl)) ?_
              with_reducible refine (A09.calls k3 _ _ (l0.take (af : Int).toNat) bU _ ?ai ?aj gC.out).mono ?_
              (case ai => exact kC (Kd.A1i bH.out (kl HB)))
              (case aj => exact cB.out)
              rintro e w' ⟨rfl, ⟨nd, rfl⟩⟩; refine ⟨_, rfl, ?_⟩; refine hK.out _ _ trivial (fun hHeld => ?_); clear hK K; refine nm (some 169) (h := ?_)
              refine pv 10 170 ?_; refine pv 11 171 ?_; refine A3u (A22 HT_.out (by kernel_rfl)) ?_
              try go_wp2
              go_meet
              case rel => exact ⟨_, ((bT != (IntKind.u64.wrap (bU)))), kE, H', ⟨by have := bj.out; have := a9.out; have := b3.out; first | omega | exact Nat.le_refl _⟩, ⟨kr HO_11⟩, ⟨(kl HB)⟩⟩
             exact (kA dr H).elim
            exact (kA eN H).elim
           exact (kA eM H).elim
          exact (kA dq H).elim
         case rest =>
          clear cz; obtain ⟨kq, aC, rfl, HA, gG, HO_11, HB⟩ := hcut
          cases kq with
          | zero => exact absurd HA.out (by simp [A0c.j4])
          | succ bK =>
           have H := HA.out; clear HA; simp only [A0c.j4] at H
           by_cases eO : aC = true
           ·subst eO
            rw [if_pos rfl] at H; simp only [Option.some.injEq, Prod.mk.injEq] at H; obtain ⟨rfl, rfl, rfl, rfl⟩ := H
            go_wp2
            refine bodyPost_ret (A1c (rs := [.tmp 2, .tmp 3, .tmp 4, .tmp 5]) rfl (by simp) (.tmp (.tmp (.tmp (.tmp .nil))))) rfl ?_
            exact ⟨_, kF, kNi, (kl HB)⟩
           replace eO := Bool.eq_false_iff.mpr eO; subst eO
           rw [if_neg (show ¬ (false = true) by decide)] at H; replace H := bkH H; obtain ⟨bZ, eP, H⟩ := H
           by_cases eQ : aA = true
           ·subst eQ
            rw [if_pos rfl] at H
            by_cases eR : bZ = true
            ·subst eR
             rw [if_pos rfl] at H
             by_cases dz : ap = (IntKind.u64.wrap (wrap64 ((wrap64 ((l0.length : Int) - af)) - 4)))
             ·rw [kIp dz] at H; obtain ⟨d0, d5⟩ := kqT dz; clear dz; simp only [Option.some.injEq, Prod.mk.injEq] at H; obtain ⟨rfl, rfl, rfl, rfl⟩ := H; obtain ⟨fm, fo, fp⟩ := Kd.A11 HO_11.out; subst fp
              go_wp2_with (first | ((with_reducible refine A0l (f := 68) rfl ?_); refine A1d (some 174) rfl rfl Tryd.func68 (by kernel_rfl) rfl #[.int .i64 (wrap64 (rd l0 4)), .slice fm ag.length fo] rfl km ?_; (with_reducible refine (A0n.calls bK (wrap64 (rd l0 4)) _ _ ag true _ ?ai ?aj eP.out).mono ?_); (case ai => exact kC (Kd.A0y HO_11.out).2.2); (case aj => exact (Kd.A0y HO_11.out).2.1); rintro e gR ⟨rfl, hb⟩; refine ⟨_, rfl, ?_⟩; replace HO_11 := ak (Kd.A1x (kr HO_11) hb); replace HB := kH HB hb; ))
              refine bodyPost_ret (A1c (rs := [.tmp 2, .tmp 3, .tmp 4, .tmp 5]) rfl (by simp) (.tmp (.tmp (.tmp (.tmp .nil))))) rfl ?_
              exact ⟨_, kF, by (with_reducible repeat (first | apply Kd.R_alloc | apply Kd.A00 | apply Kd.A02)); exact HO_11.out, (kl HB)⟩
             rw [kIn dz] at H; obtain ⟨d0, d5⟩ := kqF dz; simp only [Option.some.injEq, Prod.mk.injEq] at H; obtain ⟨rfl, rfl, rfl, rfl⟩ := H; obtain ⟨fq, fs, ft⟩ := Kd.A11 HO_11.out; subst ft
             go_wp2_with (first | ((with_reducible refine A0l (f := 68) rfl ?_); refine A1d (some 174) rfl rfl Tryd.func68 (by kernel_rfl) rfl #[.int .i64 (wrap64 (rd l0 4)), .slice fq ag.length fs] rfl km ?_; (with_reducible refine (A0n.calls bK (wrap64 (rd l0 4)) _ _ ag true _ ?ai ?aj eP.out).mono ?_); (case ai => exact kC (Kd.A0y HO_11.out).2.2); (case aj => exact (Kd.A0y HO_11.out).2.1); rintro e gS ⟨rfl, hb⟩; refine ⟨_, rfl, ?_⟩; replace HO_11 := ak (Kd.A1x (kr HO_11) hb); replace HB := kH HB hb; ))
             refine bodyPost_ret (A1c (rs := [.tmp 2, .tmp 3, .tmp 4, .tmp 5]) rfl (by simp) (.tmp (.tmp (.tmp (.tmp .nil))))) rfl ?_
             exact ⟨_, kF, kNi, (kl HB)⟩
            replace eR := Bool.eq_false_iff.mpr eR; subst eR
            rw [if_neg (show ¬ (false = true) by decide)] at H; simp only [Option.some.injEq, Prod.mk.injEq] at H; obtain ⟨rfl, rfl, rfl, rfl⟩ := H; obtain ⟨fu, fv, fw⟩ := Kd.A11 HO_11.out; subst fw
            go_wp2_with (first | ((with_reducible refine A0l (f := 68) rfl ?_); refine A1d (some 174) rfl rfl Tryd.func68 (by kernel_rfl) rfl #[.int .i64 (wrap64 (rd l0 4)), .slice fu ag.length fv] rfl km ?_; (with_reducible refine (A0n.calls bK (wrap64 (rd l0 4)) _ _ ag false _ ?ai ?aj eP.out).mono ?_); (case ai => exact kC (Kd.A0y HO_11.out).2.2); (case aj => exact (Kd.A0y HO_11.out).2.1); rintro e gT ⟨rfl, hb⟩; refine ⟨_, rfl, ?_⟩; replace HO_11 := ak (Kd.A1x (kr HO_11) hb); replace HB := kH HB hb; ))
            refine bodyPost_ret (A1c (rs := [.tmp 2, .tmp 3, .tmp 4, .tmp 5]) rfl (by simp) (.tmp (.tmp (.tmp (.tmp .nil))))) rfl ?_
            exact ⟨_, kF, kNi, (kl HB)⟩
           replace eQ := Bool.eq_false_iff.mpr eQ; subst eQ
           rw [if_neg (show ¬ (false = true) by decide)] at H; simp only [Option.some.injEq, Prod.mk.injEq] at H; obtain ⟨rfl, rfl, rfl, rfl⟩ := H; obtain ⟨fx, fy, fz⟩ := Kd.A11 HO_11.out; subst fz
           go_wp2_with (first | ((with_reducible refine A0l (f := 68) rfl ?_); refine A1d (some 174) rfl rfl Tryd.func68 (by kernel_rfl) rfl #[.int .i64 (wrap64 (rd l0 4)), .slice fx ag.length fy] rfl km ?_; (with_reducible refine (A0n.calls bK (wrap64 (rd l0 4)) _ _ ag bZ _ ?ai ?aj eP.out).mono ?_); (case ai => exact kC (Kd.A0y HO_11.out).2.2); (case aj => exact (Kd.A0y HO_11.out).2.1); rintro e gU ⟨rfl, hb⟩; refine ⟨_, rfl, ?_⟩; replace HO_11 := ak (Kd.A1x (kr HO_11) hb); replace HB := kH HB hb; ))
           refine bodyPost_ret (A1c (rs := [.tmp 2, .tmp 3, .tmp 4, .tmp 5]) rfl (by simp) (.tmp (.tmp (.tmp (.tmp .nil))))) rfl ?_
           exact ⟨_, kF, kNi, (kl HB)⟩
      rw [kIn cU] at H; obtain ⟨cV, cW⟩ := kqF cU; simp only [Option.some.injEq, Prod.mk.injEq] at H; obtain ⟨rfl, rfl, rfl, rfl⟩ := H
      go_wp2_with (first | ((with_reducible refine A0l (f := 67) rfl ?_); refine A1d (some 50) rfl rfl Tryd.func67 (by kernel_rfl) rfl #[.slice (some a1) l0.length c0, .int .i64 5] rfl km ?_; (with_reducible refine (A0g.calls b8 _ _ l0 5 av bu bv _ ?ai ?aj eW.out).mono ?_); (case ai => exact kC (Kd.A1i bI.out HB.out)); (case aj => exact bJ.out); rintro e w' ⟨rfl, ⟨nd, rfl⟩⟩; refine ⟨_, rfl, ?_⟩))
      refine bodyPost_ret (A1c (rs := [.tmp 2, .tmp 3, .tmp 4, .tmp 5]) rfl (by simp) (.tmp (.tmp (.tmp (.tmp .nil))))) rfl ?_
      exact ⟨_, kF, kNi, (kl HB)⟩
   exact (kA d6 H).elim
end Go.Proofs.YtodocfjbpkicgaaDoor.All
