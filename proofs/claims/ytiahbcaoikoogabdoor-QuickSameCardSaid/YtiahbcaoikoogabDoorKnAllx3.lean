-- copied by a program of the session
import Derived.Test.YtiahbcaoikoogabDoorKnAllx0
namespace Go.Proofs.YtiahbcaoikoogabDoor.All
open Go.RowKit Go.Proofs.YtiahbcaoikoogabDoorW.PrintWords Go.Proofs.YtiahbcaoikoogabDoorW.PrintLast Go.Proofs.YtiahbcaoikoogabDoorW.PrintMore
attribute [local go_sem] A2m A2n A25 A26 A2b A2c A2o A2p
set_option linter.unusedVariables false
set_option linter.unusedSimpArgs false
mutual
def A06.j0 : Nat → List Int → Int → Int → Bool → Option (Int × Bool)
 | 0, _, _, _, _ => none
 | k + 1, x0, x1, x2, aa => if aa = true then (some (0, false)) else (A06.l0 k x0 x1 x2 0 x1)
def A06.l0 : Nat → List Int → Int → Int → Int → Int → Option (Int × Bool)
 | 0, _, _, _, _, _ => none
 | k + 1, x0, x1, x2, x8, x9 => if x9 < (wrap64 (x1 + x2)) then (if 0 ≤ (wrap64 (Int.tdiv x9 8)) then (if (wrap64 (Int.tdiv x9 8)) < (x0.length : Int) then (if 0 ≤ (wrap64 (7 - (Int.tmod x9 8))) then (A06.l0 k x0 x1 x2 (Go.bits .or .u64 (IntKind.u64.wrap (x8 * 2)) (IntKind.u64.wrap (Go.bits .and .u8 (shr .u8 (rd x0 (wrap64 (Int.tdiv x9 8))) (wrap64 (7 - (Int.tmod x9 8)))) 1))) (wrap64 (x9 + 1))) else (none)) else (none)) else (none)) else (some (x8, true))
end
def A06.f (k : Nat) (l0 : List Int) (a1 : Int) (a2 : Int) : Option (Int × Bool) := if a2 < 0 then (A06.j0 k l0 a1 a2 true) else (if a2 > 64 then (A06.j0 k l0 a1 a2 true) else (if a1 < 0 then (A06.j0 k l0 a1 a2 true) else (if a1 > (wrap64 (8 * (l0.length : Int))) then (A06.j0 k l0 a1 a2 true) else (A06.j0 k l0 a1 a2 (decide (a2 > (wrap64 ((wrap64 (8 * (l0.length : Int))) - a1))))))))
set_option maxHeartbeats 8000000 in
set_option maxRecDepth 100000 in
theorem A06.calls (k : Nat) (A0 : Option Addr) (c0 : Nat) (l0 : List Int) (a1 : Int) (a2 : Int) (r1 : Int) (r2 : Bool) (w : World) (hr0 : Kd.C (Kd.int .u8) w A0 l0.length l0) (hc0 : l0.length ≤ c0) (h : A06.f k l0 a1 a2 = some (r1, r2)) :
  Calls Tryd.prog 24 #[.slice A0 l0.length c0, .int .i64 a1, .int .i64 a2] w fun e w' => e = .returned (.tuple #[.int .u64 r1, .bool r2]) ∧ A1i w w' := by
 have aG := ak hr0; have aI := ak hc0; clear hr0 hc0; have H : (if a2 < 0 then (A06.j0 k l0 a1 a2 true) else (if a2 > 64 then (A06.j0 k l0 a1 a2 true) else (if a1 < 0 then (A06.j0 k l0 a1 a2 true) else (if a1 > (wrap64 (8 * (l0.length : Int))) then (A06.j0 k l0 a1 a2 true) else (A06.j0 k l0 a1 a2 (decide (a2 > (wrap64 ((wrap64 (8 * (l0.length : Int))) - a1))))))))) = some (r1, r2) := h; clear h; have aw := ak H; clear H
 go_enter Tryd.func24, Tryd.ntmps24
 go_upto_region 1 with (fail)
 go_cut [35] (fun aH wc => ∃ (kq : Nat) (ag : Bool), aH = .bool ag ∧ A0e (A06.j0 kq l0 a1 a2 ag = some (r1, r2)) ∧ A0e (kq ≤ k) ∧ A1i w wc)
 case first =>
  have H := aw.out; clear aw
  by_cases c5 : a2 < 0
  ·rw [if_pos c5] at H; have ah := decide_eq_true c5; clear c5
   (first | rw [ah] | (simp only [A2w, A3k]; rw [ah]) | skip)
   have H' := ak H; clear H
   go_wp2
   go_meet
   case rel => exact ⟨_, (true), kE, H', ⟨by first | omega | exact Nat.le_refl _⟩, by repeat (first | exact A1i.refl _ | apply A1i.step)⟩
  ·rw [if_neg c5] at H; have ah := decide_eq_false c5; clear c5
   (first | rw [ah] | (simp only [A2w, A3k]; rw [ah]) | skip)
   by_cases c6 : a2 > 64
   ·rw [if_pos c6] at H; have ax : decide (64 < a2) = true := decide_eq_true c6; clear c6; have H' := ak H; clear H
    go_wp2
    go_meet
    case rel => exact ⟨_, (true), kE, H', ⟨by first | omega | exact Nat.le_refl _⟩, by repeat (first | exact A1i.refl _ | apply A1i.step)⟩
   ·rw [if_neg c6] at H; have ax : decide (64 < a2) = false := decide_eq_false c6; clear c6
    by_cases c7 : a1 < 0
    ·rw [if_pos c7] at H; have ay := decide_eq_true c7; clear c7; have H' := ak H; clear H
     go_wp2
     go_meet
     case rel => exact ⟨_, (true), kE, H', ⟨by first | omega | exact Nat.le_refl _⟩, by repeat (first | exact A1i.refl _ | apply A1i.step)⟩
    ·rw [if_neg c7] at H; have ay := decide_eq_false c7; clear c7
     by_cases c8 : a1 > (wrap64 (8 * (l0.length : Int)))
     ·rw [if_pos c8] at H; have az : decide ((wrap64 (8 * (l0.length : Int))) < a1) = true := decide_eq_true c8; clear c8; have H' := ak H; clear H
      go_wp2
      go_meet
      case rel => exact ⟨_, (true), kE, H', ⟨by first | omega | exact Nat.le_refl _⟩, by repeat (first | exact A1i.refl _ | apply A1i.step)⟩
     ·rw [if_neg c8] at H; have az : decide ((wrap64 (8 * (l0.length : Int))) < a1) = false := decide_eq_false c8; clear c8; have H' := ak H; clear H
      go_wp2
      go_meet
      case rel => exact ⟨_, (decide (a2 > (wrap64 ((wrap64 (8 * (l0.length : Int))) - a1)))), kE, H', ⟨by first | omega | exact Nat.le_refl _⟩, by repeat (first | exact A1i.refl _ | apply A1i.step)⟩
 case rest =>
  clear aw; obtain ⟨kq, ag, rfl, HA, a8, ⟨mc3, rfl⟩⟩ := hcut
  cases kq with
  | zero => exact absurd HA.out (by simp [A06.j0])
  | succ a9 =>
   have H := HA.out; clear HA; simp only [A06.j0] at H
   by_cases c9 : ag = true
   ·subst c9
    rw [if_pos rfl] at H; simp only [Option.some.injEq, Prod.mk.injEq] at H; obtain ⟨rfl, rfl⟩ := H
    go_wp2
    go_ret2
    exact ⟨by first | rfl | (simp; done) | (simp [*]; done), by repeat (first | exact A1i.refl _ | apply A1i.step)⟩
   ·replace c9 := Bool.eq_false_iff.mpr c9; subst c9
    rw [if_neg (show ¬ (false = true) by decide)] at H; have H' := ak H; clear H
    go_wp2
    go_loopg [8, 9] a9 (fun kq v8 v9 w' => ∃ (af : Int) (aa : Int), v8 = .int .u64 af ∧ v9 = .int .i64 aa ∧ A0e (A06.l0 kq l0 a1 a2 af aa = some (r1, r2)) ∧ A0e (kq ≤ a9) ∧ A1i w w')
    case atStart => exact ⟨(0), (a1), kE, kE, H', ⟨Nat.le_refl _⟩, by repeat (first | exact A1i.refl _ | apply A1i.step)⟩
    case round =>
     clear H'; (try clear c9); obtain ⟨af, aa, rfl, rfl, HA, aA, ⟨m2, rfl⟩⟩ := hrel
     cases gk with
     | zero => exact absurd HA.out (by simp [A06.l0])
     | succ k2 =>
      have H := HA.out; clear HA; simp only [A06.l0] at H
      by_cases c10 : aa < (wrap64 (a1 + a2))
      ·rw [if_pos c10] at H; have ap := decide_eq_true c10; clear c10; obtain ⟨ac, ai⟩ : ∃ j_ : Int, (wrap64 (Int.tdiv aa 8)) = j_ := ⟨_, rfl⟩
       replace H : (if 0 ≤ (ac) then (if (ac) < (l0.length : Int) then (if 0 ≤ (wrap64 (7 - (Int.tmod aa 8))) then (A06.l0 k2 l0 a1 a2 (Go.bits .or .u64 (IntKind.u64.wrap (af * 2)) (IntKind.u64.wrap (Go.bits .and .u8 (shr .u8 (rd l0 (ac)) (wrap64 (7 - (Int.tmod aa 8)))) 1))) (wrap64 (aa + 1))) else (none)) else (none)) else (none)) = some (r1, r2) := by first | (rw [ai] at H; exact H) | (simp only [ai] at H ⊢; exact H)
       have a3 : (IntKind.i64.wrap (Int.tdiv aa 8)) = ac := (A2w _).trans ai
       by_cases ar : 0 ≤ (ac)
       ·rw [if_pos ar] at H; have aB := decide_eq_true ar; clear ar
        by_cases au : (ac) < (l0.length : Int)
        ·rw [if_pos au] at H; have aC := decide_eq_true au; clear au; obtain ⟨ad, aj⟩ : ∃ j_ : Int, (wrap64 (7 - (Int.tmod aa 8))) = j_ := ⟨_, rfl⟩
         replace H : (if 0 ≤ (ad) then (A06.l0 k2 l0 a1 a2 (Go.bits .or .u64 (IntKind.u64.wrap (af * 2)) (IntKind.u64.wrap (Go.bits .and .u8 (shr .u8 (rd l0 (ac)) (ad)) 1))) (wrap64 (aa + 1))) else (none)) = some (r1, r2) := by first | (rw [aj] at H; exact H) | (simp only [aj] at H ⊢; exact H)
         have a4 : (IntKind.i64.wrap (7 - (Int.tmod aa 8))) = ad := (A2w _).trans aj
         by_cases aq : 0 ≤ (ad)
         ·rw [if_pos aq] at H; have aD := eq_true aq; have aE := decide_eq_true aq; clear aq; obtain ⟨am, ae⟩ : ∃ j_ : Int, (shr .u8 (rd l0 (ac)) (ad)) = j_ := ⟨_, rfl⟩
          replace H : (A06.l0 k2 l0 a1 a2 (Go.bits .or .u64 (IntKind.u64.wrap (af * 2)) (IntKind.u64.wrap (Go.bits .and .u8 (am) 1))) (wrap64 (aa + 1))) = some (r1, r2) := by first | (rw [ae] at H; exact H) | (simp only [ae] at H ⊢; exact H)
          have a5 : ((rd l0 (ac)) / 2 ^ min (ad).toNat 8) = am := ae; have a6 : (ad) ≤ 8 → ((rd l0 (ac)) / 2 ^ (ad).toNat) = am := shr_small ae; have H' := ak H; clear H; have ao : 0 ≤ ((ac) : Int) := kD; have an : (ac) < (l0.length : Int) := kD; obtain ⟨aF, a7, av⟩ := Kd.at_int aG.out (ac) ao an
          cases a7
          replace ao := eq_true ao
          (try (have al := an; simp only [List.length_drop, List.length_take] at al; replace al := eq_true al)); replace an := eq_true an
          go_wp2
          go_roundg k2
          case measure => have := a8.out; have := aA.out; omega
          case rel => exact ⟨(Go.bits .or .u64 (IntKind.u64.wrap (af * 2)) (IntKind.u64.wrap (Go.bits .and .u8 (am) 1))), (wrap64 (aa + 1)), (by first | rfl | (simp; done) | (simp only [← ae] <;> (first | rfl | simp)) | (simp [*]; done)), kE, H', ⟨by have := a8.out; have := aA.out; omega⟩, by repeat (first | exact A1i.refl _ | apply A1i.step)⟩
         ·rw [if_neg aq] at H
          exact absurd H (by simp)
        ·rw [if_neg au] at H
         exact absurd H (by simp)
       ·rw [if_neg ar] at H
        exact absurd H (by simp)
      ·rw [if_neg c10] at H; have ap := decide_eq_false c10; clear c10; simp only [Option.some.injEq, Prod.mk.injEq] at H; obtain ⟨rfl, rfl⟩ := H
       go_wp2
       go_ret2
       exact ⟨by first | rfl | (simp; done) | (simp [*]; done), by repeat (first | exact A1i.refl _ | apply A1i.step)⟩
end Go.Proofs.YtiahbcaoikoogabDoor.All
