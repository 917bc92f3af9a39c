-- copied by a program of the session
import Derived.Test.YtodocfjbpkicgaaDoorKwAllx31
set_option linter.unusedSimpArgs false
set_option linter.unusedVariables false
set_option maxHeartbeats 8000000
set_option maxRecDepth 100000
section
namespace Go.Proofs.YtodocfjbpkicgaaDoor.All
open Go.RowKit Go.Zw Go.Zl Go.Zm
attribute [local go_sem] A2h A2r
mutual
def A1p.j0 : Nat → List Int → Int → Bool → Option (Int × Int × Option Int)
 | 0, _, _, _ => none
 | k + 1, x0, x1, aa => if aa = true then (some (0, 0, some 2)) else (if 0 ≤ x1 then (if x1 ≤ (x0.length : Int) then (A1p.l0 k 0 (x0.drop (x1 : Int).toNat) ((x0.drop (x1 : Int).toNat).length : Int) 0) else (none)) else (none))
def A1p.l0 : Nat → Int → List Int → Int → Int → Option (Int × Int × Option Int)
 | 0, _, _, _, _ => none
 | k + 1, x7, ac, ad, aa => if aa < ad then (if 0 ≤ aa then (if aa < (ac.length : Int) then (if aa = 9 then (A1p.j2 k x7 aa (rd ac aa) ac ad aa (decide ((rd ac aa) > 1))) else (A1p.j2 k x7 aa (rd ac aa) ac ad aa false)) else (none)) else (none)) else (some (0, 0, some 2))
def A1p.j2 : Nat → Int → Int → Int → List Int → Int → Int → Bool → Option (Int × Int × Option Int)
 | 0, _, _, _, _, _, _, _ => none
 | k + 1, x7, x8, x9, aa, ac, ad, ae => if ae = true then (some (0, 0, some 3)) else (if 0 ≤ (wrap64 (7 * x8)) then (if x9 < 128 then (if x8 > 0 then (if x9 = 0 then (some (0, 0, some 3)) else (some (Go.bits .or .u64 x7 (shl .u64 (IntKind.u64.wrap (Go.bits .and .u8 x9 127)) (wrap64 (7 * x8))), wrap64 (x8 + 1), none))) else (some (Go.bits .or .u64 x7 (shl .u64 (IntKind.u64.wrap (Go.bits .and .u8 x9 127)) (wrap64 (7 * x8))), wrap64 (x8 + 1), none))) else (A1p.l0 k (Go.bits .or .u64 x7 (shl .u64 (IntKind.u64.wrap (Go.bits .and .u8 x9 127)) (wrap64 (7 * x8)))) aa ac (wrap64 (ad + 1)))) else (none))
end
def A1p.f (k : Nat) (l0 : List Int) (a1 : Int) : Option (Int × Int × Option Int) := if a1 < 0 then (A1p.j0 k l0 a1 true) else (A1p.j0 k l0 a1 (decide (a1 > (l0.length : Int))))
theorem A1p.A2x : ∀ k, (∀ y0 y1 y2, LeO (A1p.j0 k y0 y1 y2) (A1p.j0 (k + 1) y0 y1 y2)) ∧ (∀ y0 y1 y2 y3, LeO (A1p.l0 k y0 y1 y2 y3) (A1p.l0 (k + 1) y0 y1 y2 y3)) ∧ (∀ y0 y1 y2 y3 y4 y5 y6, LeO (A1p.j2 k y0 y1 y2 y3 y4 y5 y6) (A1p.j2 (k + 1) y0 y1 y2 y3 y4 y5 y6))
 | 0 => ⟨fun _ _ _ r h => by simp [A1p.j0] at h, fun _ _ _ _ r h => by simp [A1p.l0] at h, fun _ _ _ _ _ _ _ r h => by simp [A1p.j2] at h⟩
 | k + 1 => by
  obtain ⟨ih0, ih1, ih2⟩ := A1p.A2x k
  refine ⟨?_, ?_, ?_⟩ <;> intros <;> (first | unfold A1p.j0 | unfold A1p.l0 | unfold A1p.j2) <;> (
   repeat' first
   | with_reducible apply ih0
   | with_reducible apply ih1
   | with_reducible apply ih2
   | (with_reducible exact LeO.refl _)
   | (with_reducible exact LeO.none _)
   | (with_reducible refine LeO.ite ?_ ?_)
   | (with_reducible refine LeO.bind ?_ (fun _ => ?_))
   | exact LeO.none _
   | refine LeO.ite ?_ ?_
   | refine LeO.bind ?_ (fun _ => ?_))
theorem A1p.mono : ∀ a0 a1 k, LeO (A1p.f k a0 a1) (A1p.f (k + 1) a0 a1) := by
 intro a0 a1 k
 obtain ⟨ih0, ih1, ih2⟩ := A1p.A2x k
 unfold A1p.f
 repeat' first
   | with_reducible apply ih0
   | with_reducible apply ih1
   | with_reducible apply ih2
   | (with_reducible exact LeO.refl _)
   | (with_reducible exact LeO.none _)
   | (with_reducible refine LeO.ite ?_ ?_)
   | (with_reducible refine LeO.bind ?_ (fun _ => ?_))
   | exact LeO.none _
   | refine LeO.ite ?_ ?_
   | refine LeO.bind ?_ (fun _ => ?_)
theorem A1p.calls (k : Nat) (A0 : Option Addr) (c0 : Nat) (l0 : List Int) (a1 : Int) (r1 : Int) (r2 : Int) (r3 : Option Int) (w : World) (hr0 : Kd.C (Kd.int .u8) w A0 l0.length l0) (hc0 : l0.length ≤ c0) (h : A1p.f k l0 a1 = some (r1, r2, r3)) :
  Calls Tryd.prog 121 #[.slice A0 l0.length c0, .int .i64 a1] w fun e w' => e = .returned (.tuple #[.int .u64 r1, .int .i64 r2, errW r3]) ∧ A0q w w' := by
 have hu38 := Tryd.underlying38; have hu94 := Tryd.underlying94; have aV := ak hr0; have aW := ak hc0; clear hr0 hc0; have H := h; clear h; unfold A1p.f at H; have aH := ak H; clear H
 go_enter Tryd.func121, Tryd.ntmps121
 go_upto_region 1 with (fail)
 go_cut [17] (fun aX wc => ∃ (kq : Nat) (ag : Bool), aX = .bool ag ∧ A0b (A1p.j0 kq l0 a1 ag = some (r1, r2, r3)) ∧ A0b (kq ≤ k) ∧ A0q w wc)
 case first =>
  have H := aH.out; clear aH
  by_cases c4 : a1 < 0
  ·rw [kIp c4] at H; have aj : decide (a1 < 0) = true := kTt c4; clear c4
   (first | rw [aj] | (simp only [A2i, A2u]; rw [aj]) | skip)
   have H' := ak H; clear H
   go_wp2
   go_meet
   case rel => exact ⟨_, (true), kE, H', kO, by repeat (first | exact A0q.refl _ | apply A0q.step)⟩
  rw [kIn c4] at H; have aj : decide (a1 < 0) = false := kFf c4; clear c4
  (first | rw [aj] | (simp only [A2i, A2u]; rw [aj]) | skip)
  have H' := ak H; clear H
  go_wp2
  go_meet
  case rel => exact ⟨_, (decide (a1 > (l0.length : Int))), kE, H', kO, by repeat (first | exact A0q.refl _ | apply A0q.step)⟩
 case rest =>
  clear aH; obtain ⟨kq, ag, rfl, HA, aD, ⟨mc2, rfl⟩⟩ := hcut
  cases kq with
  | zero => exact absurd HA.out (by simp [A1p.j0])
  | succ aO =>
   have H := HA.out; clear HA; simp only [A1p.j0] at H
   by_cases c5 : ag = true
   ·subst c5
    rw [if_pos rfl] at H; obtain ⟨rfl, rfl, rfl⟩ := kI3 H
    go_wp2
    go_ret3
    exact ⟨by first | rfl | (simp; done) | (simp [*]; done), by repeat (first | exact A0q.refl _ | apply A0q.step)⟩
   replace c5 := Bool.eq_false_iff.mpr c5; subst c5
   rw [if_neg (show ¬ (false = true) by decide)] at H
   by_cases c6 : 0 ≤ a1
   ·rw [kIp c6] at H; have aY := kEt c6; have aZ := kTt c6; clear c6
    by_cases c7 : a1 ≤ (l0.length : Int)
    ·rw [kIp c7] at H; have ba := kEt c7; have bb := kTt c7; clear c7; have H' := ak H; clear H; obtain ⟨bf, aw, _, ax, _⟩ := info_parts info5; obtain ⟨A8, aP, aQ, aR⟩ := A3l (P := Tryd.prog) (Value.int .u8) 0 22 5 .i64 Tryd.underlying22 aw ax A0 c0 l0 a1 kD kD aW.out; have an := ak (Kd.A2b (h1 := fun _ => rfl) (aQ _ (Kd.A18 aV.out))); have aI := ak aR; clear aQ aR aw ax
     go_wp2
     go_loopg [7, 23] aO (fun kq v7 bc w' => ∃ (al : Int) (x23_2 : Int), v7 = .int .u64 al ∧ bc = .int .i64 x23_2 ∧ A0b (A1p.l0 kq al (l0.drop (a1 : Int).toNat) ((l0.drop (a1 : Int).toNat).length : Int) x23_2 = some (r1, r2, r3)) ∧ A0b (kq ≤ aO) ∧ A0q w w')
     case atStart => exact ⟨(0), (0), kE, kE, H', ⟨Nat.le_refl _⟩, by repeat (first | exact A0q.refl _ | apply A0q.step)⟩
     case round =>
      clear H'; obtain ⟨al, x23_2, rfl, rfl, HA, aE, ⟨m2, rfl⟩⟩ := hrel
      cases gk with
      | zero => exact absurd HA.out (by simp [A1p.l0])
      | succ k2 =>
       have H := HA.out; clear HA; simp only [A1p.l0] at H
       by_cases c9 : x23_2 < ((l0.drop (a1 : Int).toNat).length : Int)
       ·rw [kIp c9] at H; have ao : decide (x23_2 < ((l0.drop (a1 : Int).toNat).length : Int)) = true := kTt c9; (try (have ap := ao; simp only [List.length_drop, List.length_take] at ap)); clear c9
        by_cases c10 : 0 ≤ x23_2
        ·rw [kIp c10] at H; have aS := kTt c10; clear c10
         by_cases aF : x23_2 < ((l0.drop (a1 : Int).toNat).length : Int)
         ·rw [kIp aF] at H; have ay := kTt aF; (try (have az := ay; simp only [List.length_drop, List.length_take] at az)); clear aF; have aq := ak H; clear H; have am : 0 ≤ (x23_2 : Int) := kD; have ah : x23_2 < ((l0.drop (a1 : Int).toNat).length : Int) := kD; obtain ⟨aJ, a2, a3⟩ := Kd.A2y an.out x23_2 am ah
          cases a2
          replace am := kEt am
          (try (have af := ah; simp only [List.length_drop, List.length_take] at af; replace af := kEt af)); replace ah := kEt ah
          go_upto_region 7 with (fail)
          go_cut [33] (fun be wc => ∃ (kq : Nat) (ad : Bool), be = .bool ad ∧ A0b (A1p.j2 kq al x23_2 (rd (l0.drop (a1 : Int).toNat) x23_2) (l0.drop (a1 : Int).toNat) ((l0.drop (a1 : Int).toNat).length : Int) x23_2 ad = some (r1, r2, r3)) ∧ A0b (kq ≤ k2) ∧ A0q w wc)
          case first =>
           have H := aq.out; clear aq
           by_cases a4 : x23_2 = 9
           ·rw [kIp a4] at H; obtain ⟨ae, a5⟩ := kqT a4; clear a4
            (first | rw [ae] | (simp only [A2i, A2u]; rw [ae]) | skip)
            have H' := ak H; clear H
            go_wp2
            go_meet
            case rel => exact ⟨_, (decide ((rd (l0.drop (a1 : Int).toNat) x23_2) > 1)), kE, H', ⟨by have := aD.out; have := aE.out; first | omega | exact Nat.le_refl _⟩, by repeat (first | exact A0q.refl _ | apply A0q.step)⟩
           rw [kIn a4] at H; obtain ⟨ae, a5⟩ := kqF a4
           (first | rw [ae] | (simp only [A2i, A2u]; rw [ae]) | skip)
           have H' := ak H; clear H
           go_wp2
           go_meet
           case rel => exact ⟨_, (false), kE, H', ⟨by have := aD.out; have := aE.out; first | omega | exact Nat.le_refl _⟩, by repeat (first | exact A0q.refl _ | apply A0q.step)⟩
          case rest =>
           clear aq; obtain ⟨kq, ad, rfl, HA, a6, ⟨mc11, rfl⟩⟩ := hcut
           cases kq with
           | zero => exact absurd HA.out (by simp [A1p.j2])
           | succ aK =>
            have H := HA.out; clear HA; simp only [A1p.j2] at H
            by_cases aG : ad = true
            ·subst aG
             rw [if_pos rfl] at H; obtain ⟨rfl, rfl, rfl⟩ := kI3 H
             go_wp2
             go_ret3
             exact ⟨by first | rfl | (simp; done) | (simp [*]; done), by repeat (first | exact A0q.refl _ | apply A0q.step)⟩
            replace aG := Bool.eq_false_iff.mpr aG; subst aG
            rw [if_neg (show ¬ (false = true) by decide)] at H; obtain ⟨ai, ac⟩ := kX (wrap64 (7 * x23_2))
            (first | rw [ac] at H | simp only [ac] at H)
            have aL : (IntKind.i64.wrap (7 * x23_2)) = ai := (A2i _).trans ac
            by_cases a7 : 0 ≤ (ai)
            ·rw [kIp a7] at H; have aT := kEt a7; have aU := kTt a7; clear a7; obtain ⟨ar, aa⟩ := kX (shl .u64 (IntKind.u64.wrap (Go.bits .and .u8 (rd (l0.drop (a1 : Int).toNat) x23_2) 127)) (ai))
             (first | rw [aa] at H | simp only [aa] at H)
             have aM : (IntKind.u64.wrap ((IntKind.u64.wrap (Go.bits .and .u8 (rd (l0.drop (a1 : Int).toNat) x23_2) 127)) * 2 ^ min (ai).toNat 64)) = ar := aa; have aN : (ai) ≤ 64 → (IntKind.u64.wrap ((IntKind.u64.wrap (Go.bits .and .u8 (rd (l0.drop (a1 : Int).toNat) x23_2) 127)) * 2 ^ (ai).toNat)) = ar := shl_small aa
             by_cases au : (rd (l0.drop (a1 : Int).toNat) x23_2) < 128
             ·rw [kIp au] at H; have a8 := kTt au; clear au
              by_cases av : x23_2 > 0
              ·rw [kIp av] at H; have a9 : decide (0 < x23_2) = true := kTt av; clear av
               by_cases aA : (rd (l0.drop (a1 : Int).toNat) x23_2) = 0
               ·rw [kIp aA] at H; obtain ⟨aB, aC⟩ := kqT aA; clear aA; obtain ⟨rfl, rfl, rfl⟩ := kI3 H
                go_wp2
                go_ret3
                exact ⟨by first | rfl | (simp; done) | (simp only [← ac, ← aa] <;> (first | rfl | simp)) | (simp [*]; done), by repeat (first | exact A0q.refl _ | apply A0q.step)⟩
               rw [kIn aA] at H; obtain ⟨aB, aC⟩ := kqF aA; obtain ⟨rfl, rfl, rfl⟩ := kI3 H
               go_wp2
               go_ret3
               exact ⟨by first | rfl | (simp; done) | (simp only [← ac, ← aa] <;> (first | rfl | simp)) | (simp [*]; done), by repeat (first | exact A0q.refl _ | apply A0q.step)⟩
              rw [kIn av] at H; have a9 : decide (0 < x23_2) = false := kFf av; clear av; obtain ⟨rfl, rfl, rfl⟩ := kI3 H
              go_wp2
              go_ret3
              exact ⟨by first | rfl | (simp; done) | (simp only [← ac, ← aa] <;> (first | rfl | simp)) | (simp [*]; done), by repeat (first | exact A0q.refl _ | apply A0q.step)⟩
             rw [kIn au] at H; have a8 := kFf au; clear au; have H' := ak H; clear H
             go_wp2
             go_roundg aK
             case measure => have := aD.out; have := aE.out; have := a6.out; omega
             case rel => exact ⟨(Go.bits .or .u64 al (ar)), (wrap64 (x23_2 + 1)), (by first | rfl | (simp; done) | (simp only [← aa] <;> (first | rfl | simp)) | (simp [*]; done)), kE, H', ⟨by have := aD.out; have := aE.out; have := a6.out; omega⟩, by repeat (first | exact A0q.refl _ | apply A0q.step)⟩
            exact (kA a7 H).elim
         exact (kA aF H).elim
        exact (kA c10 H).elim
       rw [kIn c9] at H; have ao : decide (x23_2 < ((l0.drop (a1 : Int).toNat).length : Int)) = false := kFf c9; (try (have ap := ao; simp only [List.length_drop, List.length_take] at ap)); clear c9; obtain ⟨rfl, rfl, rfl⟩ := kI3 H
       go_wp2
       go_ret3
       exact ⟨by first | rfl | (simp; done) | (simp [*]; done), by repeat (first | exact A0q.refl _ | apply A0q.step)⟩
    exact (kA c7 H).elim
   exact (kA c6 H).elim
end Go.Proofs.YtodocfjbpkicgaaDoor.All
end
section
namespace Go.Proofs.YtodocfjbpkicgaaDoor.All
open Go.RowKit Go.Zw Go.Zl Go.Zm
attribute [local go_sem] A2h A2r
def stringslite_HasPrefix.f (a0 : ByteArray) (a1 : ByteArray) : Option (Bool) := if (a0.size : Int) ≥ (a1.size : Int) then (if 0 ≤ (a1.size : Int) then (if (a1.size : Int) ≤ (a0.size : Int) then (some ((a0.extract 0 ((a1.size : Int) : Int).toNat).toList == a1.toList)) else (none)) else (none)) else (some false)
theorem stringslite_HasPrefix.calls (a0 : ByteArray) (a1 : ByteArray) (r : Bool) (w : World) (h : stringslite_HasPrefix.f a0 a1 = some r) :
  Calls Tryd.prog 114 #[.string a0, .string a1] w fun e w' => e = .returned (.bool r) ∧ A0q w w' := by
 have H := h; clear h; unfold stringslite_HasPrefix.f at H
 by_cases c3 : (a0.size : Int) ≥ (a1.size : Int)
 ·rw [kIp c3] at H; have aa : decide ((a1.size : Int) ≤ (a0.size : Int)) = true := kTt c3; have ac : decide (a1.size ≤ a0.size) = true := kTt (Int.ofNat_le.mp c3); clear c3
  by_cases c4 : 0 ≤ (a1.size : Int)
  ·rw [kIp c4] at H; have ad := kEt c4; have ae : decide (0 ≤ (a1.size : Int)) = true := kTt c4; clear c4
   by_cases c5 : (a1.size : Int) ≤ (a0.size : Int)
   ·rw [kIp c5] at H; have af := kEt c5; have ag : decide ((a1.size : Int) ≤ (a0.size : Int)) = true := kTt c5; clear c5; obtain rfl := Option.some.inj H
    go_enter Tryd.func114, Tryd.ntmps114
    go_wp2
    go_ret
    exact ⟨by first | rfl | (simp; done) | (simp [*]; done), by repeat (first | exact A0q.refl _ | apply A0q.step)⟩
   exact (kA c5 H).elim
  exact (kA c4 H).elim
 rw [kIn c3] at H; have aa : decide ((a1.size : Int) ≤ (a0.size : Int)) = false := kFf c3; have ac : decide (a1.size ≤ a0.size) = false := kFf (fun h => c3 (Int.ofNat_le.mpr h)); clear c3; obtain rfl := Option.some.inj H
 go_enter Tryd.func114, Tryd.ntmps114
 go_wp2
 go_ret
 exact ⟨by first | rfl | (simp; done) | (simp [*]; done), by repeat (first | exact A0q.refl _ | apply A0q.step)⟩
end Go.Proofs.YtodocfjbpkicgaaDoor.All
end
section
namespace Go.Proofs.YtodocfjbpkicgaaDoor.All
open Go.RowKit Go.Zw Go.Zl Go.Zm
attribute [local go_sem] A2h A2r
attribute [local go_sem high] errW_match A34
def A3r.f (aa : Int) (a0_1 : Int) (ac : Int) (ad : Int) : Option (Int × Int × Int × Int × Bool) := if (IntKind.u64.wrap ((IntKind.u64.wrap (wrap64 (aa + (wrap64 (a0_1))))) - (IntKind.u64.wrap (aa)))) = a0_1 then (if (wrap64 (aa + (wrap64 (a0_1)))) < aa then (some (0, 0, 0, 0, false)) else (if ac > 65535 then (some (0, 0, 0, 0, false)) else (if ad > 2147483647 then (some (0, 0, 0, 0, false)) else (some (aa, wrap64 (aa + (wrap64 (a0_1))), wrap64 (ac), wrap64 (ad), true))))) else (some (0, 0, 0, 0, false))
theorem A3r.calls (ag : Int) (a0_1 : Int) (ah : Int) (ai : Int) (r1 : Int) (r2 : Int) (r3 : Int) (r4 : Int) (r5 : Bool) (w : World) (h : A3r.f ag a0_1 ah ai = some (r1, r2, r3, r4, r5)) :
  Calls Tryd.prog 97 #[.agg #[.int .i64 ag, .int .u64 a0_1, .int .u64 ah, .int .u64 ai]] w fun e w' => e = .returned (.tuple #[.agg #[.int .i64 r1, .int .i64 r2, .int .i64 r3, .int .i64 r4], .bool r5]) ∧ Below w.heap.size w w' := by
 have hu178 := Tryd.underlying178; have hu62 := Tryd.underlying62; have HB := ak (Below.refl w.heap.size w); have H := h; clear h; unfold A3r.f at H
 by_cases c2 : (IntKind.u64.wrap ((IntKind.u64.wrap (wrap64 (ag + (wrap64 (a0_1))))) - (IntKind.u64.wrap (ag)))) = a0_1
 ·rw [kIp c2] at H; obtain ⟨b0, b1⟩ := kqT c2; clear c2
  by_cases c3 : (wrap64 (ag + (wrap64 (a0_1)))) < ag
  ·rw [kIp c3] at H; have b2 : decide ((wrap64 (ag + (wrap64 (a0_1)))) < ag) = true := kTt c3; clear c3; simp only [Option.some.injEq, Prod.mk.injEq] at H; obtain ⟨rfl, rfl, rfl, rfl, rfl⟩ := H
   go_enter Tryd.func97, Tryd.ntmps97
   go_wp2_with (first | ((with_reducible refine A0s (N := 1) rfl ?_); refine bxe 1 #[.int .i64 ag, .int .u64 a0_1, .int .u64 ah, .int .u64 ai] 178 (h := ?_); intro aj hg w4 hbox hb; have aa := ak (hbox); have al := kG hg HB; have am := kG hg HB; replace HB := kH HB hb; clear hb hbox hg) | ((with_reducible refine A0s (N := 2) rfl ?_); refine bxe 2 #[.int .i64 0, .int .i64 0, .int .i64 0, .int .i64 0] 62 (h := ?_); intro af hg w5 hbox hb; have ae := ak (hbox); have an := kG hg HB; have ao := kG hg HB; replace HB := kH HB hb; obtain ⟨ac, ad⟩ := kN hg aa; replace aa := kB aa hb; clear hb hbox hg; have bS := ac.out; have bT := ad.out; obtain ⟨b3, b4, b5, b6⟩ := kc4 aa; obtain ⟨b7, b8, b9, bA⟩ := kf4 aa; obtain ⟨bB, bC, bD, bE⟩ := kc4 ae; obtain ⟨bF, bG, bH, bI⟩ := kf4 ae))
   refine bodyPost_ret (results_ct rfl _ _ af 62 #[.int .i64 0, .int .i64 0, .int .i64 0, .int .i64 0] (0, 0) _ rfl (kb ae) Tryd.underlying62 rfl (by kernel_rfl)) rfl ?_
   exact ⟨kF, (kl HB)⟩
  rw [kIn c3] at H; have b2 : decide ((wrap64 (ag + (wrap64 (a0_1)))) < ag) = false := kFf c3; clear c3
  by_cases c9 : ah > 65535
  ·rw [kIp c9] at H; have bJ : decide (65535 < ah) = true := kTt c9; clear c9; simp only [Option.some.injEq, Prod.mk.injEq] at H; obtain ⟨rfl, rfl, rfl, rfl, rfl⟩ := H
   go_enter Tryd.func97, Tryd.ntmps97
   go_wp2_with (first | ((with_reducible refine A0s (N := 1) rfl ?_); refine bxe 1 #[.int .i64 ag, .int .u64 a0_1, .int .u64 ah, .int .u64 ai] 178 (h := ?_); intro aj hg bU hbox hb; have aa := ak (hbox); have al := kG hg HB; have am := kG hg HB; replace HB := kH HB hb; clear hb hbox hg) | ((with_reducible refine A0s (N := 2) rfl ?_); refine bxe 2 #[.int .i64 0, .int .i64 0, .int .i64 0, .int .i64 0] 62 (h := ?_); intro af hg bV hbox hb; have ae := ak (hbox); have an := kG hg HB; have ao := kG hg HB; replace HB := kH HB hb; obtain ⟨ac, ad⟩ := kN hg aa; replace aa := kB aa hb; clear hb hbox hg; have bK := ac.out; have bL := ad.out; obtain ⟨ar, au, av, aw⟩ := kc4 aa; obtain ⟨ax, ay, az, a1⟩ := kf4 aa; obtain ⟨a2, a3, a4, a5⟩ := kc4 ae; obtain ⟨a6, a7, a8, a9⟩ := kf4 ae))
   refine bodyPost_ret (results_ct rfl _ _ af 62 #[.int .i64 0, .int .i64 0, .int .i64 0, .int .i64 0] (0, 0) _ rfl (kb ae) Tryd.underlying62 rfl (by kernel_rfl)) rfl ?_
   exact ⟨kF, (kl HB)⟩
  rw [kIn c9] at H; have bJ : decide (65535 < ah) = false := kFf c9; clear c9
  by_cases ap : ai > 2147483647
  ·rw [kIp ap] at H; have aq : decide (2147483647 < ai) = true := kTt ap; clear ap; simp only [Option.some.injEq, Prod.mk.injEq] at H; obtain ⟨rfl, rfl, rfl, rfl, rfl⟩ := H
   go_enter Tryd.func97, Tryd.ntmps97
   go_wp2_with (first | ((with_reducible refine A0s (N := 1) rfl ?_); refine bxe 1 #[.int .i64 ag, .int .u64 a0_1, .int .u64 ah, .int .u64 ai] 178 (h := ?_); intro aj hg bW hbox hb; have aa := ak (hbox); have al := kG hg HB; have am := kG hg HB; replace HB := kH HB hb; clear hb hbox hg) | ((with_reducible refine A0s (N := 2) rfl ?_); refine bxe 2 #[.int .i64 0, .int .i64 0, .int .i64 0, .int .i64 0] 62 (h := ?_); intro af hg bX hbox hb; have ae := ak (hbox); have an := kG hg HB; have ao := kG hg HB; replace HB := kH HB hb; obtain ⟨ac, ad⟩ := kN hg aa; replace aa := kB aa hb; clear hb hbox hg; have bM := ac.out; have bN := ad.out; obtain ⟨aA, aB, aC, aD⟩ := kc4 aa; obtain ⟨aE, aF, aG, aH⟩ := kf4 aa; obtain ⟨aI, aJ, aK, aL⟩ := kc4 ae; obtain ⟨aM, aN, aO, aP⟩ := kf4 ae))
   refine bodyPost_ret (results_ct rfl _ _ af 62 #[.int .i64 0, .int .i64 0, .int .i64 0, .int .i64 0] (0, 0) _ rfl (kb ae) Tryd.underlying62 rfl (by kernel_rfl)) rfl ?_
   exact ⟨kF, (kl HB)⟩
  rw [kIn ap] at H; have aq : decide (2147483647 < ai) = false := kFf ap; clear ap; simp only [Option.some.injEq, Prod.mk.injEq] at H; obtain ⟨rfl, rfl, rfl, rfl, rfl⟩ := H
  go_enter Tryd.func97, Tryd.ntmps97
  go_wp2_with (first | ((with_reducible refine A0s (N := 1) rfl ?_); refine bxe 1 #[.int .i64 ag, .int .u64 a0_1, .int .u64 ah, .int .u64 ai] 178 (h := ?_); intro aj hg bY hbox hb; have aa := ak (hbox); have al := kG hg HB; have am := kG hg HB; replace HB := kH HB hb; clear hb hbox hg) | ((with_reducible refine A0s (N := 2) rfl ?_); refine bxe 2 #[.int .i64 0, .int .i64 0, .int .i64 0, .int .i64 0] 62 (h := ?_); intro af hg bZ hbox hb; have ae := ak (hbox); have an := kG hg HB; have ao := kG hg HB; replace HB := kH HB hb; obtain ⟨ac, ad⟩ := kN hg aa; replace aa := kB aa hb; clear hb hbox hg; have bO := ac.out; have bP := ad.out; obtain ⟨aQ, aR, aS, aT⟩ := kc4 aa; obtain ⟨aU, aV, aW, aX⟩ := kf4 aa; obtain ⟨aY, aZ, ba, bb⟩ := kc4 ae; obtain ⟨bc, be, bf, bh⟩ := kf4 ae))
  refine bodyPost_ret (results_ct rfl _ _ af 62 #[.int .i64 ag, .int .i64 (wrap64 (ag + (wrap64 (a0_1)))), .int .i64 (wrap64 (ah)), .int .i64 (wrap64 (ai))] (0, 0) _ rfl (kb ae) Tryd.underlying62 rfl (by kernel_rfl)) rfl ?_
  exact ⟨kF, (kl HB)⟩
 rw [kIn c2] at H; obtain ⟨b0, b1⟩ := kqF c2; simp only [Option.some.injEq, Prod.mk.injEq] at H; obtain ⟨rfl, rfl, rfl, rfl, rfl⟩ := H
 go_enter Tryd.func97, Tryd.ntmps97
 go_wp2_with (first | ((with_reducible refine A0s (N := 1) rfl ?_); refine bxe 1 #[.int .i64 ag, .int .u64 a0_1, .int .u64 ah, .int .u64 ai] 178 (h := ?_); intro aj hg ca hbox hb; have aa := ak (hbox); have al := kG hg HB; have am := kG hg HB; replace HB := kH HB hb; clear hb hbox hg) | ((with_reducible refine A0s (N := 2) rfl ?_); refine bxe 2 #[.int .i64 0, .int .i64 0, .int .i64 0, .int .i64 0] 62 (h := ?_); intro af hg cc hbox hb; have ae := ak (hbox); have an := kG hg HB; have ao := kG hg HB; replace HB := kH HB hb; obtain ⟨ac, ad⟩ := kN hg aa; replace aa := kB aa hb; clear hb hbox hg; have bQ := ac.out; have bR := ad.out; obtain ⟨bi, bj, bk, bm⟩ := kc4 aa; obtain ⟨bn, bo, bp, bq⟩ := kf4 aa; obtain ⟨br, bs, bt, bu⟩ := kc4 ae; obtain ⟨bv, bw, bx, bz⟩ := kf4 ae))
 refine bodyPost_ret (results_ct rfl _ _ af 62 #[.int .i64 0, .int .i64 0, .int .i64 0, .int .i64 0] (0, 0) _ rfl (kb ae) Tryd.underlying62 rfl (by kernel_rfl)) rfl ?_
 exact ⟨kF, (kl HB)⟩
end Go.Proofs.YtodocfjbpkicgaaDoor.All
end
section
namespace Go.Proofs.YtodocfjbpkicgaaDoor.All
open Go.RowKit Go.Zw Go.Zl Go.Zm
attribute [local go_sem] A2h A2r
def A1n.l0 : Nat → List Int → Int → Int → Option (Int)
 | 0, _, _, _ => none
 | k + 1, x0, x3, x4 => if x4 < (x0.length : Int) then (if 0 ≤ x4 then (A1n.l0 k x0 (IntKind.u64.wrap ((IntKind.u64.wrap (256 * x3)) + (IntKind.u64.wrap (rd x0 x4)))) (wrap64 (x4 + 1))) else (none)) else (some x3)
def A1n.f (k : Nat) (l0 : List Int) : Option (Int) := A1n.l0 k l0 0 0
theorem A1n.calls (k : Nat) (A0 : Option Addr) (c0 : Nat) (l0 : List Int) (r : Int) (w : World) (hr0 : Kd.C (Kd.int .u8) w A0 l0.length l0) (hc0 : l0.length ≤ c0) (h : A1n.f k l0 = some r) :
  Calls Tryd.prog 64 #[.slice A0 l0.length c0] w fun e w' => e = .returned (.int .u64 r) ∧ A0q w w' := by
 have al := ak hr0; have an := ak hc0; clear hr0 hc0; have H := h; clear h; unfold A1n.f at H; have H' := ak H; clear H
 go_enter Tryd.func64, Tryd.ntmps64
 go_wp2
 go_loopg [3, 4] k (fun kq v3 v4 w' => ∃ (ae : Int) (x4_1 : Int), v3 = .int .u64 ae ∧ v4 = .int .i64 x4_1 ∧ A0b (A1n.l0 kq l0 ae x4_1 = some r) ∧ A0b (kq ≤ k) ∧ A0q w w')
 case atStart => exact ⟨(0), (0), kE, kE, H', ⟨Nat.le_refl _⟩, by repeat (first | exact A0q.refl _ | apply A0q.step)⟩
 case round =>
  clear H'; obtain ⟨ae, x4_1, rfl, rfl, HA, aj, ⟨m1, rfl⟩⟩ := hrel
  cases gk with
  | zero => exact absurd HA.out (by simp [A1n.l0])
  | succ k1 =>
   have H := HA.out; clear HA; simp only [A1n.l0] at H
   by_cases c2 : x4_1 < (l0.length : Int)
   ·rw [kIp c2] at H; have ah : decide (x4_1 < (l0.length : Int)) = true := kTt c2; clear c2
    by_cases c3 : 0 ≤ x4_1
    ·rw [kIp c3] at H; have am : decide (0 ≤ x4_1) = true := kTt c3; clear c3; have H' := ak H; clear H; have ad : 0 ≤ (x4_1 : Int) := kD; have ac : x4_1 < (l0.length : Int) := kD; obtain ⟨ai, af, ag⟩ := Kd.A2y al.out x4_1 ad ac
     cases af
     replace ad := kEt ad
     (try (have aa := ac; simp only [List.length_drop, List.length_take] at aa; replace aa := kEt aa)); replace ac := kEt ac
     go_wp2
     go_roundg k1
     case measure => have := aj.out; omega
     case rel => exact ⟨(IntKind.u64.wrap ((IntKind.u64.wrap (256 * ae)) + (IntKind.u64.wrap (rd l0 x4_1)))), (wrap64 (x4_1 + 1)), kE, kE, H', ⟨by have := aj.out; omega⟩, by repeat (first | exact A0q.refl _ | apply A0q.step)⟩
    exact (kA c3 H).elim
   rw [kIn c2] at H; have ah : decide (x4_1 < (l0.length : Int)) = false := kFf c2; clear c2; obtain rfl := Option.some.inj H
   go_wp2
   go_ret
   exact ⟨by first | rfl | (simp; done) | (simp [*]; done), by repeat (first | exact A0q.refl _ | apply A0q.step)⟩
end Go.Proofs.YtodocfjbpkicgaaDoor.All
end
section
namespace Go.Proofs.YtodocfjbpkicgaaDoor.All
open Go.RowKit Go.Zw Go.Zl Go.Zm
attribute [local go_sem] A2h A2r
mutual
def A1k.l0 : Nat → List Int → List Int → Int → Option (List Int)
 | 0, _, _, _ => none
 | k + 1, x0, x3, x4 => if x4 < (x0.length : Int) then (if 0 ≤ x4 then (A1k.l1 k x0 x3 x4 (rd x0 x4) 0) else (none)) else (some x3)
def A1k.l1 : Nat → List Int → List Int → Int → Int → Int → Option (List Int)
 | 0, _, _, _, _, _ => none
 | k + 1, x0, x3, x4, x5, x6 => if x6 < 8 then (if x3.length < 140737488355328 then (A1k.l1 k x0 (x3 ++ [(Int.tdiv x5 128) % 256]) x4 ((x5 * 2) % 256) (wrap64 (x6 + 1))) else (none)) else (A1k.l0 k x0 x3 (wrap64 (x4 + 1)))
end
def A1k.f (k : Nat) (l0 : List Int) : Option (List Int) := A1k.l0 k l0 ([] : List Int) 0
theorem A1k.calls (k : Nat) (A0 : Option Addr) (c0 : Nat) (l0 : List Int) (r : List Int) (w : World) (hr0 : Kd.C (Kd.int .u8) w A0 l0.length l0) (hc0 : l0.length ≤ c0) (h : A1k.f k l0 = some r) :
  Calls Tryd.prog 13 #[.slice A0 l0.length c0] w fun e w' => ∃ au : Value, e = .returned (au) ∧ Kd.R (Kd.int .u8) 5 w' w.heap.size (fun _ => True) au r ∧ Below w.heap.size w w' := by
 have ay := ak hr0; have a2 := ak hc0; clear hr0 hc0; have HB := ak (Below.refl w.heap.size w); have H := h; clear h; unfold A1k.f at H; have H' := ak H; clear H
 go_enter Tryd.func13, Tryd.ntmps13
 go_wp2
 go_loopg [3, 4] k (fun kq v3 v4 w' => ∃ (ag : List Int) (x4_1 : Int), v4 = .int .i64 x4_1 ∧ A0b (A1k.l0 kq l0 ag x4_1 = some r) ∧ A0b (kq ≤ k) ∧ A0b (Kd.R (Kd.int .u8) 5 w' w.heap.size (fun _ => True) v3 ag) ∧ A0b (Below w.heap.size w w'))
 case atStart => exact ⟨(([] : List Int)), (0), kE, H', ⟨Nat.le_refl _⟩, ⟨kNi⟩, ⟨(kl HB)⟩⟩
 case round =>
  clear H'; obtain ⟨ag, x4_1, rfl, HA, an, HO_3, HB⟩ := hrel
  cases gk with
  | zero => exact absurd HA.out (by simp [A1k.l0])
  | succ k1 =>
   have H := HA.out; clear HA; simp only [A1k.l0] at H
   by_cases c2 : x4_1 < (l0.length : Int)
   ·rw [kIp c2] at H; have ap : decide (x4_1 < (l0.length : Int)) = true := kTt c2; clear c2
    by_cases c3 : 0 ≤ x4_1
    ·rw [kIp c3] at H; have az : decide (0 ≤ x4_1) = true := kTt c3; clear c3; have H' := ak H; clear H; have ai : 0 ≤ (x4_1 : Int) := kD; have ah : x4_1 < (l0.length : Int) := kD; obtain ⟨av, aq, aa⟩ := Kd.A2y ay.out x4_1 ai ah
     cases aq
     replace aa := (HB.out.cell (World.block_lt_of_cell? w _ aa)).trans aa; replace ai := kEt ai
     (try (have af := ah; simp only [List.length_drop, List.length_take] at af; replace af := kEt af)); replace ah := kEt ah
     go_wp2
     go_loopg [3, 5, 6] k1 (fun kq v3 v5 v6 w' => ∃ (ae : List Int) (x5_2 : Int) (ac : Int), v5 = .int .u8 x5_2 ∧ v6 = .int .i64 ac ∧ A0b (A1k.l1 kq l0 ae x4_1 x5_2 ac = some r) ∧ A0b (kq ≤ k1) ∧ A0b (Kd.R (Kd.int .u8) 5 w' w.heap.size (fun _ => True) v3 ae) ∧ A0b (Below w.heap.size w w'))
     case atStart => exact ⟨(ag), (rd l0 x4_1), (0), kE, kE, H', ⟨Nat.le_refl _⟩, ⟨kr HO_3⟩, ⟨(kl HB)⟩⟩
     case round =>
      clear H'; obtain ⟨ae, x5_2, ac, rfl, rfl, HA, ao, HO_3, HB⟩ := hrel
      cases gk with
      | zero => exact absurd HA.out (by simp [A1k.l1])
      | succ k2 =>
       have H := HA.out; clear HA; simp only [A1k.l1] at H
       by_cases c4 : ac < 8
       ·rw [kIp c4] at H; have ar : decide (ac < 8) = true := kTt c4; clear c4
        by_cases c5 : ae.length < 140737488355328
        ·rw [kIp c5] at H; have LMc5 := ak c5; clear c5; obtain ⟨aj, ad⟩ : ∃ y_ : List Int, y_ = (ae ++ [(Int.tdiv x5_2 128) % 256]) := ⟨_, rfl⟩
         replace H : (A1k.l1 k2 l0 aj x4_1 ((x5_2 * 2) % 256) (wrap64 (ac + 1))) = some r := by first | (rw [ad]; with_reducible exact H) | (have H2_ := (Option.bind_some _ _).symm.trans H; rw [ad]; with_reducible exact H2_) | (have H2_ := (Option.bind_some _ _).symm.trans H; with_reducible exact H2_) | with_reducible exact H | (rw [ad]; exact H) | exact H
         have al := ak ad; clear ad; have H' := ak H; clear H
         go_wp2_with (first | ((with_reducible refine A2c (b := .append) (xs := #[.tmp 21, .tmp 24]) rfl ?_); at_builtin; refine Kd.A3t (Kd.int .u8) (w0 := w) w.heap.size rfl (.tmp 21) (.tmp 24) 22 5 (.int .u8 0) 1 rfl Tryd.underlying22 info5 rfl (by decide) (by omega) u3 ae ((Int.tdiv x5_2 128) % 256) [.int .u8 ((Int.tdiv x5_2 128) % 256)] (fun _ => True) (fun _ => False) rfl rfl ?aP (fun _ hk => hk.elim) ?aF ?aO ?aB ?aS ?aL ?_; (case aP => exact rfl); (case aB => exact (kl HB)); (case aF => exact (fun _ _ => trivial)); (case aO => exact (kr HO_3)); (case aS => exact (A0t (kl HB))); (case aL => have := LMc5.out; omega); intro a1 w6 ho hb hg hat; rw [← al.out] at ho; have aw := ak (hb); have ax := ak (ho); clear HB; clear HO_3; have HB := aw; have am := ax; clear aw ax; clear ho hb hg hat))
         go_roundg k2
         case measure => have := an.out; have := ao.out; omega
         case rel => exact ⟨(aj), ((x5_2 * 2) % 256), (wrap64 (ac + 1)), kE, kE, H', ⟨by have := an.out; have := ao.out; omega⟩, ⟨kr am⟩, ⟨(kl HB)⟩⟩
        exact (kA c5 H).elim
       rw [kIn c4] at H; have ar : decide (ac < 8) = false := kFf c4; clear c4; have H' := ak H; clear H
       go_wp2
       go_roundg k2
       case measure => have := an.out; have := ao.out; omega
       case rel => exact ⟨(ae), (wrap64 (x4_1 + 1)), kE, H', ⟨by have := an.out; have := ao.out; omega⟩, ⟨kr HO_3⟩, ⟨(kl HB)⟩⟩
    exact (kA c3 H).elim
   rw [kIn c2] at H; have ap : decide (x4_1 < (l0.length : Int)) = false := kFf c2; clear c2; obtain rfl := Option.some.inj H
   go_wp2
   go_ret
   exact ⟨_, kF, by (with_reducible repeat (first | apply Kd.R_alloc | apply Kd.A00 | apply Kd.A02)); exact HO_3.out, (kl HB)⟩
end Go.Proofs.YtodocfjbpkicgaaDoor.All
end
section
namespace Go.Proofs.YtodocfjbpkicgaaDoor.All
open Go.RowKit Go.Zw Go.Zl Go.Zm
attribute [local go_sem] A2h A2r
def A0u.l0 : Nat → List Int → Int → Int → Option (Int)
 | 0, _, _, _ => none
 | k + 1, x0, x3, x4 => if x4 < (x0.length : Int) then (if 0 ≤ x4 then (A0u.l0 k x0 (IntKind.u64.wrap ((IntKind.u64.wrap (2 * x3)) + (IntKind.u64.wrap (rd x0 x4)))) (wrap64 (x4 + 1))) else (none)) else (some x3)
def A0u.f (k : Nat) (l0 : List Int) : Option (Int) := A0u.l0 k l0 0 0
theorem A0u.calls (k : Nat) (A0 : Option Addr) (c0 : Nat) (l0 : List Int) (r : Int) (w : World) (hr0 : Kd.C (Kd.int .u8) w A0 l0.length l0) (hc0 : l0.length ≤ c0) (h : A0u.f k l0 = some r) :
  Calls Tryd.prog 45 #[.slice A0 l0.length c0] w fun e w' => e = .returned (.int .u64 r) ∧ A0q w w' := by
 have al := ak hr0; have an := ak hc0; clear hr0 hc0; have H := h; clear h; unfold A0u.f at H; have H' := ak H; clear H
 go_enter Tryd.func45, Tryd.ntmps45
 go_wp2
 go_loopg [3, 4] k (fun kq v3 v4 w' => ∃ (ac : Int) (x4_1 : Int), v3 = .int .u64 ac ∧ v4 = .int .i64 x4_1 ∧ A0b (A0u.l0 kq l0 ac x4_1 = some r) ∧ A0b (kq ≤ k) ∧ A0q w w')
 case atStart => exact ⟨(0), (0), kE, kE, H', ⟨Nat.le_refl _⟩, by repeat (first | exact A0q.refl _ | apply A0q.step)⟩
 case round =>
  clear H'; obtain ⟨ac, x4_1, rfl, rfl, HA, ai, ⟨m1, rfl⟩⟩ := hrel
  cases gk with
  | zero => exact absurd HA.out (by simp [A0u.l0])
  | succ k1 =>
   have H := HA.out; clear HA; simp only [A0u.l0] at H
   by_cases c2 : x4_1 < (l0.length : Int)
   ·rw [kIp c2] at H; have ag : decide (x4_1 < (l0.length : Int)) = true := kTt c2; clear c2
    by_cases c3 : 0 ≤ x4_1
    ·rw [kIp c3] at H; have am : decide (0 ≤ x4_1) = true := kTt c3; clear c3; have H' := ak H; clear H; have ae : 0 ≤ (x4_1 : Int) := kD; have ad : x4_1 < (l0.length : Int) := kD; obtain ⟨aj, ah, af⟩ := Kd.A2y al.out x4_1 ae ad
     cases ah
     replace ae := kEt ae
     (try (have aa := ad; simp only [List.length_drop, List.length_take] at aa; replace aa := kEt aa)); replace ad := kEt ad
     go_wp2
     go_roundg k1
     case measure => have := ai.out; omega
     case rel => exact ⟨(IntKind.u64.wrap ((IntKind.u64.wrap (2 * ac)) + (IntKind.u64.wrap (rd l0 x4_1)))), (wrap64 (x4_1 + 1)), kE, kE, H', ⟨by have := ai.out; omega⟩, by repeat (first | exact A0q.refl _ | apply A0q.step)⟩
    exact (kA c3 H).elim
   rw [kIn c2] at H; have ag : decide (x4_1 < (l0.length : Int)) = false := kFf c2; clear c2; obtain rfl := Option.some.inj H
   go_wp2
   go_ret
   exact ⟨by first | rfl | (simp; done) | (simp [*]; done), by repeat (first | exact A0q.refl _ | apply A0q.step)⟩
end Go.Proofs.YtodocfjbpkicgaaDoor.All
end
