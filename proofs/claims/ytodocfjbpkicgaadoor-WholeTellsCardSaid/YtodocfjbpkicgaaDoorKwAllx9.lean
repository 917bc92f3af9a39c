-- copied by a program of the session
import Derived.Test.YtodocfjbpkicgaaDoorKwAllx12
set_option linter.unusedSimpArgs false
set_option linter.unusedVariables false
set_option maxHeartbeats 8000000
set_option maxRecDepth 100000
section
namespace Go.Proofs.YtodocfjbpkicgaaDoor.All
open Go.RowKit Go.Zw Go.Zl Go.Zm
attribute [local go_sem] A2h A2r
mutual
def A0n.j0 : Nat → List (S70) → Bool → Option (Bool)
 | 0, _, _ => none
 | k + 1, x1, aa => if aa = true then (some false) else (A0n.l0 k x1 0)
def A0n.l0 : Nat → List (S70) → Int → Option (Bool)
 | 0, _, _ => none
 | k + 1, x1, x5 => if x5 < (x1.length : Int) then (if 0 ≤ x5 then (if ((A1s x1 x5).f2) < 1 then (A0n.j2 k x1 x5 true ((A1s x1 x5).f0) ((A1s x1 x5).f1) ((A1s x1 x5).f2) ((A1s x1 x5).f3)) else (if ((A1s x1 x5).f2) > 65535 then (A0n.j2 k x1 x5 true ((A1s x1 x5).f0) ((A1s x1 x5).f1) ((A1s x1 x5).f2) ((A1s x1 x5).f3)) else (if ((A1s x1 x5).f3) < 4 then (A0n.j2 k x1 x5 true ((A1s x1 x5).f0) ((A1s x1 x5).f1) ((A1s x1 x5).f2) ((A1s x1 x5).f3)) else (if ((A1s x1 x5).f3) > 2147483647 then (A0n.j2 k x1 x5 true ((A1s x1 x5).f0) ((A1s x1 x5).f1) ((A1s x1 x5).f2) ((A1s x1 x5).f3)) else (A0n.j2 k x1 x5 (decide (((A1s x1 x5).f1) < ((A1s x1 x5).f0))) ((A1s x1 x5).f0) ((A1s x1 x5).f1) ((A1s x1 x5).f2) ((A1s x1 x5).f3)))))) else (none)) else (some true)
def A0n.j2 : Nat → List (S70) → Int → Bool → Int → Int → Int → Int → Option (Bool)
 | 0, _, _, _, _, _, _, _ => none
 | k + 1, x1, x5, af, aa, ac, ad, ae => if af = true then (some false) else (if x5 > 0 then (if 0 ≤ (wrap64 (x5 - 1)) then (if (wrap64 (x5 - 1)) < (x1.length : Int) then (if aa ≤ ((A1s x1 (wrap64 (x5 - 1))).f1) then (some false) else (A0n.l0 k x1 (wrap64 (x5 + 1)))) else (none)) else (none)) else (A0n.l0 k x1 (wrap64 (x5 + 1))))
end
def A0n.f (k : Nat) (a0 : Int) (l1 : List (S70)) : Option (Bool) := if a0 = 1 then (A0n.j0 k l1 (decide ((l1.length : Int) > 65535))) else (if a0 = 2 then (A0n.j0 k l1 (decide ((l1.length : Int) > 65535))) else (A0n.j0 k l1 true))
theorem A0n.calls (k : Nat) (a0 : Int) (A1 : Option Addr) (c1 : Nat) (l1 : List (S70)) (r : Bool) (w : World) (hr1 : Kd.C k70 w A1 l1.length l1) (hc1 : l1.length ≤ c1) (h : A0n.f k a0 l1 = some r) :
  Calls Tryd.prog 68 #[.int .i64 a0, .slice A1 l1.length c1] w fun e w' => e = .returned (.bool r) ∧ Below w.heap.size w w' := by
 have hu70 := Tryd.underlying70; have bU := ak hr1; have cp := ak hc1; clear hr1 hc1; have HB := ak (Below.refl w.heap.size w); have H := h; clear h; unfold A0n.f at H; have bV := ak H; clear H
 go_enter Tryd.func68, Tryd.ntmps68
 go_upto_region 1 with (fail)
 repeat (go_quiet (fail); go_upto_region 1 with (fail))
 go_cut [17] (fun ck wc => ∃ (kq : Nat) (av : Bool), ck = .bool av ∧ A0b (A0n.j0 kq l1 av = some r) ∧ A0b (kq ≤ k) ∧ A0b (Below w.heap.size w wc))
 case first =>
  have H := bV.out; clear bV
  by_cases c4 : a0 = 1
  ·rw [kIp c4] at H; obtain ⟨a8, bW⟩ := kqT c4; clear c4
   (first | rw [a8] | (simp only [A2i, A2u]; rw [a8]) | skip)
   have H' := ak H; clear H
   go_wp2
   repeat ((first | go_quiet (fail) | go_region); try go_wp2)
   go_meet
   case rel => exact ⟨_, (decide ((l1.length : Int) > 65535)), kE, H', kO, ⟨(kl HB)⟩⟩
  rw [kIn c4] at H; obtain ⟨a8, bW⟩ := kqF c4
  (first | rw [a8] | (simp only [A2i, A2u]; rw [a8]) | skip)
  by_cases c5 : a0 = 2
  ·rw [kIp c5] at H; obtain ⟨bX, bY⟩ := kqT c5; clear c5; have H' := ak H; clear H
   go_wp2
   repeat ((first | go_quiet (fail) | go_region); try go_wp2)
   go_meet
   case rel => exact ⟨_, (decide ((l1.length : Int) > 65535)), kE, H', kO, ⟨(kl HB)⟩⟩
  rw [kIn c5] at H; obtain ⟨bX, bY⟩ := kqF c5; have H' := ak H; clear H
  go_wp2
  repeat ((first | go_quiet (fail) | go_region); try go_wp2)
  go_meet
  case rel => exact ⟨_, (true), kE, H', kO, ⟨(kl HB)⟩⟩
 case rest =>
  clear bV; obtain ⟨kq, av, rfl, HA, aE, HB⟩ := hcut
  cases kq with
  | zero => exact absurd HA.out (by simp [A0n.j0])
  | succ cf =>
   have H := HA.out; clear HA; simp only [A0n.j0] at H
   by_cases c6 : av = true
   ·subst c6
    rw [if_pos rfl] at H; obtain rfl := Option.some.inj H
    go_wp2
    repeat ((first | go_quiet (fail) | go_region); try go_wp2)
    go_ret
    exact ⟨kF, (kl HB)⟩
   replace c6 := Bool.eq_false_iff.mpr c6; subst c6
   rw [if_neg (show ¬ (false = true) by decide)] at H; have H' := ak H; clear H
   go_wp2
   repeat ((first | go_quiet (fail) | go_region); try go_wp2)
   go_loopg [5] cf (fun kq v5 w' => ∃ (x5_2 : Int), v5 = .int .i64 x5_2 ∧ A0b (A0n.l0 kq l1 x5_2 = some r) ∧ A0b (kq ≤ cf) ∧ A0b (Below w.heap.size w w'))
   case atStart => exact ⟨(0), kE, H', ⟨Nat.le_refl _⟩, ⟨(kl HB)⟩⟩
   case round =>
    clear H'; obtain ⟨x5_2, rfl, HA, aF, HB⟩ := hrel
    cases gk with
    | zero => exact absurd HA.out (by simp [A0n.l0])
    | succ k2 =>
     have H := HA.out; clear HA; simp only [A0n.l0] at H
     by_cases c7 : x5_2 < (l1.length : Int)
     ·rw [kIp c7] at H; have bZ : decide (x5_2 < (l1.length : Int)) = true := kTt c7; clear c7
      by_cases c8 : 0 ≤ x5_2
      ·rw [kIp c8] at H; have cm : decide (0 ≤ x5_2) = true := kTt c8; clear c8; have ca := ak H; clear H; have a9 : 0 ≤ (x5_2 : Int) := kD; have aw : x5_2 < (l1.length : Int) := kD; obtain ⟨aA, aM, ai, aj, al, am⟩ := at_T70 bU.out x5_2 a9 aw
       cases aM
       replace ai := (HB.out.cell (World.block_lt_of_cell? w _ ai)).trans ai; replace aj := (HB.out.cell (World.block_lt_of_cell? w _ aj)).trans aj; replace al := (HB.out.cell (World.block_lt_of_cell? w _ al)).trans al; replace am := (HB.out.cell (World.block_lt_of_cell? w _ am)).trans am; replace a9 := kEt a9
       (try (have aq := aw; simp only [List.length_drop, List.length_take] at aq; replace aq := kEt aq)); replace aw := kEt aw
       go_upto_region 7 with (first | ((with_reducible refine A0s (N := 6) rfl ?_); (try (refine A10 (by rfl) ?_; dsimp only)); refine bxe 6 #[.int .i64 0, .int .i64 0, .int .i64 0, .int .i64 0] 70 (h := ?_); intro ar hg cg hbox hb; have aa := ak (hbox); have aB := kG hg HB; have aC := kG hg HB; replace HB := kH HB hb; clear hb hbox hg; obtain ⟨ax, ay, az, a1⟩ := kc4 aa; obtain ⟨a2, a3, a4, a5⟩ := kf4 aa))
       repeat (go_quiet (first | ((with_reducible refine A0s (N := 6) rfl ?_); (try (refine A10 (by rfl) ?_; dsimp only)); refine bxe 6 #[.int .i64 0, .int .i64 0, .int .i64 0, .int .i64 0] 70 (h := ?_); intro ar hg cg hbox hb; have aa := ak (hbox); have aB := kG hg HB; have aC := kG hg HB; replace HB := kH HB hb; clear hb hbox hg; obtain ⟨ax, ay, az, a1⟩ := kc4 aa; obtain ⟨a2, a3, a4, a5⟩ := kf4 aa)); go_upto_region 7 with (first | ((with_reducible refine A0s (N := 6) rfl ?_); (try (refine A10 (by rfl) ?_; dsimp only)); refine bxe 6 #[.int .i64 0, .int .i64 0, .int .i64 0, .int .i64 0] 70 (h := ?_); intro ar hg cg hbox hb; have aa := ak (hbox); have aB := kG hg HB; have aC := kG hg HB; replace HB := kH HB hb; clear hb hbox hg; obtain ⟨ax, ay, az, a1⟩ := kc4 aa; obtain ⟨a2, a3, a4, a5⟩ := kf4 aa)))
       (try simp only [Act.put, List.setIfInBounds_toArray, List.set_cons_zero, List.set_cons_succ])
       go_cut [52] (fun co wc => ∃ (kq : Nat) (a6 : Bool), co = .bool a6 ∧ A0b (A0n.j2 kq l1 x5_2 a6 ((A1s l1 x5_2).f0) ((A1s l1 x5_2).f1) ((A1s l1 x5_2).f2) ((A1s l1 x5_2).f3) = some r) ∧ A0b (kq ≤ k2) ∧ A0b (wc.heap[ar]? = some (.cells #[.int .i64 ((A1s l1 x5_2).f0), .int .i64 ((A1s l1 x5_2).f1), .int .i64 ((A1s l1 x5_2).f2), .int .i64 ((A1s l1 x5_2).f3)] 70 (0, 0))) ∧ A0b (Below w.heap.size w wc))
       case first =>
        have H := ca.out; clear ca
        by_cases aG : ((A1s l1 x5_2).f2) < 1
        ·rw [kIp aG] at H; have ap := kTt aG; clear aG
         (first | rw [ap] | (simp only [A2i, A2u]; rw [ap]) | skip)
         have H' := ak H; clear H; obtain ⟨aS, aT, aU, aV⟩ := kc4 aa; obtain ⟨aW, aX, aY, aZ⟩ := kf4 aa
         go_wp2
         repeat ((first | go_quiet (fail) | go_region); try go_wp2)
         go_meet
         case rel => exact ⟨_, (true), kE, H', ⟨by have := aE.out; have := aF.out; first | omega | exact Nat.le_refl _⟩, ⟨(kb aa)⟩, ⟨(kl HB)⟩⟩
        rw [kIn aG] at H; have ap := kFf aG; clear aG
        (first | rw [ap] | (simp only [A2i, A2u]; rw [ap]) | skip)
        by_cases aH : ((A1s l1 x5_2).f2) > 65535
        ·rw [kIp aH] at H; have aN : decide (65535 < ((A1s l1 x5_2).f2)) = true := kTt aH; clear aH; have H' := ak H; clear H; obtain ⟨ba, bb, bc, be⟩ := kc4 aa; obtain ⟨bf, bh, bi, bj⟩ := kf4 aa
         go_wp2
         repeat ((first | go_quiet (fail) | go_region); try go_wp2)
         go_meet
         case rel => exact ⟨_, (true), kE, H', ⟨by have := aE.out; have := aF.out; first | omega | exact Nat.le_refl _⟩, ⟨(kb aa)⟩, ⟨(kl HB)⟩⟩
        rw [kIn aH] at H; have aN : decide (65535 < ((A1s l1 x5_2).f2)) = false := kFf aH; clear aH
        by_cases aI : ((A1s l1 x5_2).f3) < 4
        ·rw [kIp aI] at H; have aO := kTt aI; clear aI; have H' := ak H; clear H; obtain ⟨bk, bm, bn, bo⟩ := kc4 aa; obtain ⟨bp, bq, br, bs⟩ := kf4 aa
         go_wp2
         repeat ((first | go_quiet (fail) | go_region); try go_wp2)
         go_meet
         case rel => exact ⟨_, (true), kE, H', ⟨by have := aE.out; have := aF.out; first | omega | exact Nat.le_refl _⟩, ⟨(kb aa)⟩, ⟨(kl HB)⟩⟩
        rw [kIn aI] at H; have aO := kFf aI; clear aI
        by_cases aJ : ((A1s l1 x5_2).f3) > 2147483647
        ·rw [kIp aJ] at H; have aP : decide (2147483647 < ((A1s l1 x5_2).f3)) = true := kTt aJ; clear aJ; have H' := ak H; clear H; obtain ⟨bt, bu, bv, bw⟩ := kc4 aa; obtain ⟨bx, bz, b0, b1⟩ := kf4 aa
         go_wp2
         repeat ((first | go_quiet (fail) | go_region); try go_wp2)
         go_meet
         case rel => exact ⟨_, (true), kE, H', ⟨by have := aE.out; have := aF.out; first | omega | exact Nat.le_refl _⟩, ⟨(kb aa)⟩, ⟨(kl HB)⟩⟩
        rw [kIn aJ] at H; have aP : decide (2147483647 < ((A1s l1 x5_2).f3)) = false := kFf aJ; clear aJ; have H' := ak H; clear H; obtain ⟨b2, b3, b4, b5⟩ := kc4 aa; obtain ⟨b6, b7, b8, b9⟩ := kf4 aa
        go_wp2
        repeat ((first | go_quiet (fail) | go_region); try go_wp2)
        go_meet
        case rel => exact ⟨_, (decide (((A1s l1 x5_2).f1) < ((A1s l1 x5_2).f0))), kE, H', ⟨by have := aE.out; have := aF.out; first | omega | exact Nat.le_refl _⟩, ⟨(kb aa)⟩, ⟨(kl HB)⟩⟩
       case rest =>
        clear ca; obtain ⟨kq, a6, rfl, HA, bA, aa, HB⟩ := hcut
        cases kq with
        | zero => exact absurd HA.out (by simp [A0n.j2])
        | succ ch =>
         have H := HA.out; clear HA; simp only [A0n.j2] at H
         by_cases bB : a6 = true
         ·subst bB
          rw [if_pos rfl] at H; obtain rfl := Option.some.inj H
          go_wp2
          repeat ((first | go_quiet (fail) | go_region); try go_wp2)
          go_ret
          exact ⟨kF, (kl HB)⟩
         replace bB := Bool.eq_false_iff.mpr bB; subst bB
         rw [if_neg (show ¬ (false = true) by decide)] at H
         by_cases aK : x5_2 > 0
         ·rw [kIp aK] at H; have aQ : decide (0 < x5_2) = true := kTt aK; clear aK; obtain ⟨ao, a7⟩ := kX (wrap64 (x5_2 - 1))
          (first | rw [a7] at H | simp only [a7] at H)
          have cc : (IntKind.i64.wrap (x5_2 - 1)) = ao := (A2i _).trans a7
          by_cases bC : 0 ≤ (ao)
          ·rw [kIp bC] at H; have ci := kTt bC; clear bC
           by_cases bD : (ao) < (l1.length : Int)
           ·rw [kIp bD] at H; have cj := kTt bD; clear bD
            by_cases aL : ((A1s l1 x5_2).f0) ≤ ((A1s l1 (ao)).f1)
            ·rw [kIp aL] at H; have aR := kTt aL; clear aL; obtain rfl := Option.some.inj H; obtain ⟨bE, bF, bG, bH⟩ := kc4 aa; obtain ⟨bI, bJ, bK, bL⟩ := kf4 aa; have an : 0 ≤ ((ao) : Int) := kD; have ah : (ao) < (l1.length : Int) := kD; obtain ⟨au, aD, ac, ad, ae, af⟩ := at_T70 bU.out (ao) an ah; obtain rfl : aA = au := (by injection aD); replace ac := (HB.out.cell (World.block_lt_of_cell? w _ ac)).trans ac; replace ad := (HB.out.cell (World.block_lt_of_cell? w _ ad)).trans ad; replace ae := (HB.out.cell (World.block_lt_of_cell? w _ ae)).trans ae; replace af := (HB.out.cell (World.block_lt_of_cell? w _ af)).trans af; replace an := kEt an
             (try (have ag := ah; simp only [List.length_drop, List.length_take] at ag; replace ag := kEt ag)); replace ah := kEt ah
             go_wp2
             repeat ((first | go_quiet (fail) | go_region); try go_wp2)
             go_ret
             exact ⟨by first | rfl | (simp [A0i, A0j] <;> rfl) | (simp only [← a7]; first | rfl | (simp [A0i, A0j] <;> rfl)) | (simp [*, A0i, A0j] <;> rfl), (kl HB)⟩
            rw [kIn aL] at H; have aR := kFf aL; clear aL; have H' := ak H; clear H; obtain ⟨bM, bN, bO, bP⟩ := kc4 aa; obtain ⟨bQ, bR, bS, bT⟩ := kf4 aa; have an : 0 ≤ ((ao) : Int) := kD; have ah : (ao) < (l1.length : Int) := kD; obtain ⟨au, aD, ac, ad, ae, af⟩ := at_T70 bU.out (ao) an ah; obtain rfl : aA = au := (by injection aD); replace ac := (HB.out.cell (World.block_lt_of_cell? w _ ac)).trans ac; replace ad := (HB.out.cell (World.block_lt_of_cell? w _ ad)).trans ad; replace ae := (HB.out.cell (World.block_lt_of_cell? w _ ae)).trans ae; replace af := (HB.out.cell (World.block_lt_of_cell? w _ af)).trans af; replace an := kEt an
            (try (have ag := ah; simp only [List.length_drop, List.length_take] at ag; replace ag := kEt ag)); replace ah := kEt ah
            go_wp2
            repeat ((first | go_quiet (fail) | go_region); try go_wp2)
            go_roundg ch
            case measure => have := aE.out; have := aF.out; have := bA.out; omega
            case rel => exact ⟨(wrap64 (x5_2 + 1)), kE, H', ⟨by have := aE.out; have := aF.out; have := bA.out; omega⟩, ⟨(kl HB)⟩⟩
           exact (kA bD H).elim
          exact (kA bC H).elim
         rw [kIn aK] at H; have aQ : decide (0 < x5_2) = false := kFf aK; clear aK; have H' := ak H; clear H
         go_wp2
         repeat ((first | go_quiet (fail) | go_region); try go_wp2)
         go_roundg ch
         case measure => have := aE.out; have := aF.out; have := bA.out; omega
         case rel => exact ⟨(wrap64 (x5_2 + 1)), kE, H', ⟨by have := aE.out; have := aF.out; have := bA.out; omega⟩, ⟨(kl HB)⟩⟩
      exact (kA c8 H).elim
     rw [kIn c7] at H; have bZ : decide (x5_2 < (l1.length : Int)) = false := kFf c7; clear c7; obtain rfl := Option.some.inj H
     go_wp2
     repeat ((first | go_quiet (fail) | go_region); try go_wp2)
     go_ret
     exact ⟨kF, (kl HB)⟩
end Go.Proofs.YtodocfjbpkicgaaDoor.All
end
section
namespace Go.Proofs.YtodocfjbpkicgaaDoor.All
open Go.RowKit Go.Zw Go.Zl Go.Zm
attribute [local go_sem] A2h A2r
attribute [local go_sem high] eqA42
def A14.l0 : Nat → List (S42) → List (S42) → Int → Option (Int)
 | 0, _, _, _ => none
 | k + 1, x0, x1, x5 => if x5 < (x0.length : Int) then (if 0 ≤ x5 then (if x5 < (x1.length : Int) then (if (!(((A25 x0 x5).f0) == ((A25 x1 x5).f0)) || (!(((A25 x0 x5).f1) == ((A25 x1 x5).f1)))) = true then (some 0) else (A14.l0 k x0 x1 (wrap64 (x5 + 1)))) else (none)) else (none)) else (some 1)
def A14.f (k : Nat) (l0 : List (S42)) (l1 : List (S42)) : Option (Int) := if (l0.length : Int) = (l1.length : Int) then (A14.l0 k l0 l1 0) else (some 0)
theorem A14.calls (k : Nat) (A0 : Option Addr) (c0 : Nat) (l0 : List (S42)) (A1 : Option Addr) (c1 : Nat) (l1 : List (S42)) (r : Int) (w : World) (hr0 : Kd.C k42 w A0 l0.length l0) (hc0 : l0.length ≤ c0) (hr1 : Kd.C k42 w A1 l1.length l1) (hc1 : l1.length ≤ c1) (h : A14.f k l0 l1 = some r) :
  Calls Tryd.prog 16 #[.slice A0 l0.length c0, .slice A1 l1.length c1] w fun e w' => e = .returned (.int .i64 r) ∧ A0q w w' := by
 have hu42 := Tryd.underlying42; have ax := ak hr0; have a3 := ak hc0; clear hr0 hc0; have ay := ak hr1; have a4 := ak hc1; clear hr1 hc1; have H := h; clear h; unfold A14.f at H
 by_cases c3 : (l0.length : Int) = (l1.length : Int)
 ·rw [kIp c3] at H; obtain ⟨aq, ar⟩ := kqT c3
  have au : (l0.length == l1.length) = true := by first | simpa using c3 | (simp at c3 ⊢; omega)
  clear c3; have H' := ak H; clear H
  go_enter Tryd.func16, Tryd.ntmps16
  go_wp2
  repeat ((first | go_quiet (fail) | go_region); try go_wp2)
  go_loopg [5] k (fun kq v5 w' => ∃ (x5_1 : Int), v5 = .int .i64 x5_1 ∧ A0b (A14.l0 kq l0 l1 x5_1 = some r) ∧ A0b (kq ≤ k) ∧ A0q w w')
  case atStart => exact ⟨(0), kE, H', ⟨Nat.le_refl _⟩, by repeat (first | exact A0q.refl _ | apply A0q.step)⟩
  case round =>
   clear H'; obtain ⟨x5_1, rfl, HA, az, ⟨m1, rfl⟩⟩ := hrel
   cases gk with
   | zero => exact absurd HA.out (by simp [A14.l0])
   | succ k1 =>
    have H := HA.out; clear HA; simp only [A14.l0] at H
    by_cases c4 : x5_1 < (l0.length : Int)
    ·rw [kIp c4] at H; have av : decide (x5_1 < (l0.length : Int)) = true := kTt c4; clear c4
     by_cases c5 : 0 ≤ x5_1
     ·rw [kIp c5] at H; have a1 : decide (0 ≤ x5_1) = true := kTt c5; clear c5
      by_cases c6 : x5_1 < (l1.length : Int)
      ·rw [kIp c6] at H; have a2 : decide (x5_1 < (l1.length : Int)) = true := kTt c6; clear c6
       by_cases c7 : (!(((A25 l0 x5_1).f0) == ((A25 l1 x5_1).f0)) || (!(((A25 l0 x5_1).f1) == ((A25 l1 x5_1).f1)))) = true
       ·rw [kIp c7] at H; have aw : (!(((A25 l0 x5_1).f0) == ((A25 l1 x5_1).f0)) || (!(((A25 l0 x5_1).f1) == ((A25 l1 x5_1).f1)))) = true := c7; clear c7; obtain rfl := Option.some.inj H; have af : 0 ≤ (x5_1 : Int) := kD; have ad : x5_1 < (l0.length : Int) := kD; obtain ⟨ao, am, ah, ai⟩ := at_T42 ax.out x5_1 af ad
        cases am
        replace af := kEt af
        (try (have aa := ad; simp only [List.length_drop, List.length_take] at aa; replace aa := kEt aa)); replace ad := kEt ad
        have ag : 0 ≤ (x5_1 : Int) := kD; have ae : x5_1 < (l1.length : Int) := kD; obtain ⟨ap, an, aj, al⟩ := at_T42 ay.out x5_1 ag ae
        cases an
        replace ag := kEt ag
        (try (have ac := ae; simp only [List.length_drop, List.length_take] at ac; replace ac := kEt ac)); replace ae := kEt ae
        go_wp2
        repeat ((first | go_quiet (fail) | go_region); try go_wp2)
        go_ret
        exact ⟨by first | rfl | (simp; done) | (simp [*]; done), by repeat (first | exact A0q.refl _ | apply A0q.step)⟩
       rw [kIn c7] at H
       have aw : (!(((A25 l0 x5_1).f0) == ((A25 l1 x5_1).f0)) || (!(((A25 l0 x5_1).f1) == ((A25 l1 x5_1).f1)))) = false := by simpa using c7
       clear c7; have H' := ak H; clear H; have af : 0 ≤ (x5_1 : Int) := kD; have ad : x5_1 < (l0.length : Int) := kD; obtain ⟨ao, am, ah, ai⟩ := at_T42 ax.out x5_1 af ad
       cases am
       replace af := kEt af
       (try (have aa := ad; simp only [List.length_drop, List.length_take] at aa; replace aa := kEt aa)); replace ad := kEt ad
       have ag : 0 ≤ (x5_1 : Int) := kD; have ae : x5_1 < (l1.length : Int) := kD; obtain ⟨ap, an, aj, al⟩ := at_T42 ay.out x5_1 ag ae
       cases an
       replace ag := kEt ag
       (try (have ac := ae; simp only [List.length_drop, List.length_take] at ac; replace ac := kEt ac)); replace ae := kEt ae
       go_wp2
       repeat ((first | go_quiet (fail) | go_region); try go_wp2)
       go_roundg k1
       case measure => have := az.out; omega
       case rel => exact ⟨(wrap64 (x5_1 + 1)), kE, H', ⟨by have := az.out; omega⟩, by repeat (first | exact A0q.refl _ | apply A0q.step)⟩
      exact (kA c6 H).elim
     exact (kA c5 H).elim
    rw [kIn c4] at H; have av : decide (x5_1 < (l0.length : Int)) = false := kFf c4; clear c4; obtain rfl := Option.some.inj H
    go_wp2
    repeat ((first | go_quiet (fail) | go_region); try go_wp2)
    go_ret
    exact ⟨by first | rfl | (simp; done) | (simp [*]; done), by repeat (first | exact A0q.refl _ | apply A0q.step)⟩
 rw [kIn c3] at H; obtain ⟨aq, ar⟩ := kqF c3
 have au : (l0.length == l1.length) = false := by first | simpa using c3 | (simp at c3 ⊢; omega)
 obtain rfl := Option.some.inj H
 go_enter Tryd.func16, Tryd.ntmps16
 go_wp2
 repeat ((first | go_quiet (fail) | go_region); try go_wp2)
 go_ret
 exact ⟨by first | rfl | (simp; done) | (simp [*]; done), by repeat (first | exact A0q.refl _ | apply A0q.step)⟩
end Go.Proofs.YtodocfjbpkicgaaDoor.All
end
section
namespace Go.Proofs.YtodocfjbpkicgaaDoor.All
open Go.RowKit Go.Zw Go.Zl Go.Zm
attribute [local go_sem] A2h A2r
def A32.f (a0 : Int) : Option (Bool) := if a0 = 1 then (some true) else (some (a0 == 2))
theorem A32.calls (a0 : Int) (r : Bool) (w : World) (h : A32.f a0 = some r) :
  Calls Tryd.prog 50 #[.int .i64 a0] w fun e w' => e = .returned (.bool r) ∧ A0q w w' := by
 have H := h; clear h; unfold A32.f at H
 by_cases c2 : a0 = 1
 ·rw [kIp c2] at H; obtain ⟨aa, ac⟩ := kqT c2; clear c2; obtain rfl := Option.some.inj H
  go_enter Tryd.func50, Tryd.ntmps50
  go_wp2
  go_ret
  exact ⟨by first | rfl | (simp; done) | (simp [*]; done), by repeat (first | exact A0q.refl _ | apply A0q.step)⟩
 rw [kIn c2] at H; obtain ⟨aa, ac⟩ := kqF c2; obtain rfl := Option.some.inj H
 go_enter Tryd.func50, Tryd.ntmps50
 go_wp2
 go_ret
 exact ⟨by first | rfl | (simp; done) | (simp [*]; done), by repeat (first | exact A0q.refl _ | apply A0q.step)⟩
def A3b.f (k : Nat) (l0 : List Int) (a1 : Int) : Option (Int × Int × Int × Option Int) := (A0z.f k l0 a1 64).bind fun aa => (if aa.2 = true then ((A0z.f k l0 (wrap64 (a1 + 64)) 64).bind fun ac => (if ac.2 = true then (some (wrap64 (aa.1), ac.1, 128, none)) else (some (0, 0, 0, some 2)))) else (some (0, 0, 0, some 2)))
theorem A3b.mono : ∀ a0 a1 k, LeO (A3b.f k a0 a1) (A3b.f (k + 1) a0 a1) := by
 intro a0 a1 k
 unfold A3b.f
 repeat' first
   | with_reducible apply A0z.mono
   | (with_reducible exact LeO.refl _)
   | (with_reducible exact LeO.none _)
   | (with_reducible refine LeO.ite ?_ ?_)
   | (with_reducible refine LeO.bind ?_ (fun _ => ?_))
   | exact LeO.none _
   | refine LeO.ite ?_ ?_
   | refine LeO.bind ?_ (fun _ => ?_)
theorem A3b.calls (k : Nat) (A0 : Option Addr) (c0 : Nat) (l0 : List Int) (a1 : Int) (r1 : Int) (r2 : Int) (r3 : Int) (r4 : Option Int) (w : World) (hr0 : Kd.C (Kd.int .u8) w A0 l0.length l0) (hc0 : l0.length ≤ c0) (h : A3b.f k l0 a1 = some (r1, r2, r3, r4)) :
  Calls Tryd.prog 51 #[.slice A0 l0.length c0, .int .i64 a1] w fun e w' => e = .returned (.tuple #[.agg #[.int .i64 r1, .int .u64 r2], .int .i64 r3, errW r4]) ∧ Below w.heap.size w w' := by
 have hu42 := Tryd.underlying42; have hu38 := Tryd.underlying38; have hu94 := Tryd.underlying94; have am := ak hr0; have an := ak hc0; clear hr0 hc0; have HB := ak (Below.refl w.heap.size w); have H := h; clear h; unfold A3b.f at H; replace H := bkH H; obtain ⟨⟨ah, az⟩, A3, H⟩ := H; (try dsimp only at H)
 by_cases c4 : az = true
 ·subst c4
  rw [if_pos rfl] at H; replace H := bkH H; obtain ⟨⟨al, a2⟩, A5, H⟩ := H; (try dsimp only at H)
  by_cases c6 : a2 = true
  ·subst c6
   rw [if_pos rfl] at H; simp only [Option.some.injEq, Prod.mk.injEq] at H; obtain ⟨rfl, rfl, rfl, rfl⟩ := H
   go_enter Tryd.func51, Tryd.ntmps51
   go_wp2_with (first | ((with_reducible refine A0s (N := 4) rfl ?_); refine bxe 4 #[.int .i64 0, .int .u64 0] 42 (h := ?_); intro ac hg w7 hbox hb; have aa := ak (hbox); have ai := kG hg HB; have aj := kG hg HB; replace HB := kH HB hb; clear hb hbox hg) | ((with_reducible refine A0l (f := 82) rfl ?_); refine A1d (some 13) rfl rfl Tryd.func82 (by kernel_rfl) rfl #[.slice A0 l0.length c0, .int .i64 a1, .int .i64 64] rfl km ?_; (with_reducible refine (A0z.calls k _ _ l0 a1 64 ah true _ ?ad ?ae A3.out).mono ?_); (case ad => exact kC (Kd.A1i am.out HB.out)); (case ae => exact an.out); rintro e w' ⟨rfl, ⟨nd, rfl⟩⟩; refine ⟨_, rfl, ?_⟩; (repeat (rw [A3c w7]; generalize hq_ : World.drewN w7 _ = w7; have af : A0b (w7.heap[ac]? = some (.cells #[.int .i64 0, .int .u64 0] 42 (0, 0))) := ⟨by rw [← hq_]; exact (kb aa)⟩; have ag : A0b (Below w.heap.size w w7) := ⟨by rw [← hq_]; exact (kl HB)⟩; clear aa HB hq_; have aa := af; have HB := ag; clear af ag))) | ((with_reducible refine A0l (f := 82) rfl ?_); refine A1d (some 24) rfl rfl Tryd.func82 (by kernel_rfl) rfl #[.slice A0 l0.length c0, .int .i64 (wrap64 (a1 + 64)), .int .i64 64] rfl km ?_; (with_reducible refine (A0z.calls k _ _ l0 (wrap64 (a1 + 64)) 64 al true _ ?ad ?ae A5.out).mono ?_); (case ad => exact kC (Kd.A1i am.out HB.out)); (case ae => exact an.out); rintro e w' ⟨rfl, ⟨nd, rfl⟩⟩; refine ⟨_, rfl, ?_⟩; (repeat (rw [A3c w7]; generalize hq_ : World.drewN w7 _ = w7; have af : A0b (w7.heap[ac]? = some (.cells #[.int .i64 0, .int .u64 0] 42 (0, 0))) := ⟨by rw [← hq_]; exact (kb aa)⟩; have ag : A0b (Below w.heap.size w w7) := ⟨by rw [← hq_]; exact (kl HB)⟩; clear aa HB hq_; have aa := af; have HB := ag; clear af ag)); obtain ⟨a3, a4⟩ := kc2 aa; obtain ⟨a5, a6⟩ := kf2 aa))
   refine bodyPost_ret (A3n rfl _ _ ac 42 #[.int .i64 (wrap64 (ah)), .int .u64 al] (0, 0) _ rfl (kb aa) Tryd.underlying42 rfl (by kernel_rfl)) rfl ?_
   exact ⟨kF, (kl HB)⟩
  replace c6 := Bool.eq_false_iff.mpr c6; subst c6
  rw [if_neg (show ¬ (false = true) by decide)] at H; simp only [Option.some.injEq, Prod.mk.injEq] at H; obtain ⟨rfl, rfl, rfl, rfl⟩ := H
  go_enter Tryd.func51, Tryd.ntmps51
  go_wp2_with (first | ((with_reducible refine A0s (N := 4) rfl ?_); refine bxe 4 #[.int .i64 0, .int .u64 0] 42 (h := ?_); intro ac hg w9 hbox hb; have aa := ak (hbox); have ai := kG hg HB; have aj := kG hg HB; replace HB := kH HB hb; clear hb hbox hg) | ((with_reducible refine A0l (f := 82) rfl ?_); refine A1d (some 13) rfl rfl Tryd.func82 (by kernel_rfl) rfl #[.slice A0 l0.length c0, .int .i64 a1, .int .i64 64] rfl km ?_; (with_reducible refine (A0z.calls k _ _ l0 a1 64 ah true _ ?ad ?ae A3.out).mono ?_); (case ad => exact kC (Kd.A1i am.out HB.out)); (case ae => exact an.out); rintro e w' ⟨rfl, ⟨nd, rfl⟩⟩; refine ⟨_, rfl, ?_⟩; (repeat (rw [A3c w9]; generalize hq_ : World.drewN w9 _ = w9; have af : A0b (w9.heap[ac]? = some (.cells #[.int .i64 0, .int .u64 0] 42 (0, 0))) := ⟨by rw [← hq_]; exact (kb aa)⟩; have ag : A0b (Below w.heap.size w w9) := ⟨by rw [← hq_]; exact (kl HB)⟩; clear aa HB hq_; have aa := af; have HB := ag; clear af ag))) | ((with_reducible refine A0l (f := 82) rfl ?_); refine A1d (some 24) rfl rfl Tryd.func82 (by kernel_rfl) rfl #[.slice A0 l0.length c0, .int .i64 (wrap64 (a1 + 64)), .int .i64 64] rfl km ?_; (with_reducible refine (A0z.calls k _ _ l0 (wrap64 (a1 + 64)) 64 al false _ ?ad ?ae A5.out).mono ?_); (case ad => exact kC (Kd.A1i am.out HB.out)); (case ae => exact an.out); rintro e w' ⟨rfl, ⟨nd, rfl⟩⟩; refine ⟨_, rfl, ?_⟩; (repeat (rw [A3c w9]; generalize hq_ : World.drewN w9 _ = w9; have af : A0b (w9.heap[ac]? = some (.cells #[.int .i64 0, .int .u64 0] 42 (0, 0))) := ⟨by rw [← hq_]; exact (kb aa)⟩; have ag : A0b (Below w.heap.size w w9) := ⟨by rw [← hq_]; exact (kl HB)⟩; clear aa HB hq_; have aa := af; have HB := ag; clear af ag)); obtain ⟨ap, aq⟩ := kc2 aa; obtain ⟨ar, au⟩ := kf2 aa))
  refine bodyPost_ret (A3n rfl _ _ ac 42 #[.int .i64 0, .int .u64 0] (0, 0) _ rfl (kb aa) Tryd.underlying42 rfl (by kernel_rfl)) rfl ?_
  exact ⟨kF, (kl HB)⟩
 replace c4 := Bool.eq_false_iff.mpr c4; subst c4
 rw [if_neg (show ¬ (false = true) by decide)] at H; simp only [Option.some.injEq, Prod.mk.injEq] at H; obtain ⟨rfl, rfl, rfl, rfl⟩ := H
 go_enter Tryd.func51, Tryd.ntmps51
 go_wp2_with (first | ((with_reducible refine A0s (N := 4) rfl ?_); refine bxe 4 #[.int .i64 0, .int .u64 0] 42 (h := ?_); intro ac hg ao hbox hb; have aa := ak (hbox); have ai := kG hg HB; have aj := kG hg HB; replace HB := kH HB hb; clear hb hbox hg) | ((with_reducible refine A0l (f := 82) rfl ?_); refine A1d (some 13) rfl rfl Tryd.func82 (by kernel_rfl) rfl #[.slice A0 l0.length c0, .int .i64 a1, .int .i64 64] rfl km ?_; (with_reducible refine (A0z.calls k _ _ l0 a1 64 ah false _ ?ad ?ae A3.out).mono ?_); (case ad => exact kC (Kd.A1i am.out HB.out)); (case ae => exact an.out); rintro e w' ⟨rfl, ⟨nd, rfl⟩⟩; refine ⟨_, rfl, ?_⟩; (repeat (rw [A3c ao]; generalize hq_ : World.drewN ao _ = ao; have af : A0b (ao.heap[ac]? = some (.cells #[.int .i64 0, .int .u64 0] 42 (0, 0))) := ⟨by rw [← hq_]; exact (kb aa)⟩; have ag : A0b (Below w.heap.size w ao) := ⟨by rw [← hq_]; exact (kl HB)⟩; clear aa HB hq_; have aa := af; have HB := ag; clear af ag)); obtain ⟨av, aw⟩ := kc2 aa; obtain ⟨ax, ay⟩ := kf2 aa))
 refine bodyPost_ret (A3n rfl _ _ ac 42 #[.int .i64 0, .int .u64 0] (0, 0) _ rfl (kb aa) Tryd.underlying42 rfl (by kernel_rfl)) rfl ?_
 exact ⟨kF, (kl HB)⟩
def A3i.f (a0 : Int) : Option (Int) := if a0 = 1 then (some 7) else (if a0 = 2 then (some 9) else (if a0 = 3 then (some 12) else (if a0 = 4 then (some 64) else (some 0))))
theorem A3i.calls (a0 : Int) (r : Int) (w : World) (h : A3i.f a0 = some r) :
  Calls Tryd.prog 107 #[.int .i64 a0] w fun e w' => e = .returned (.int .i64 r) ∧ A0q w w' := by
 have H := h; clear h; unfold A3i.f at H
 by_cases c2 : a0 = 1
 ·rw [kIp c2] at H; obtain ⟨aa, ac⟩ := kqT c2; clear c2; obtain rfl := Option.some.inj H
  go_enter Tryd.func107, Tryd.ntmps107
  go_wp2
  go_ret
  exact ⟨by first | rfl | (simp; done) | (simp [*]; done), by repeat (first | exact A0q.refl _ | apply A0q.step)⟩
 rw [kIn c2] at H; obtain ⟨aa, ac⟩ := kqF c2
 by_cases c3 : a0 = 2
 ·rw [kIp c3] at H; obtain ⟨ad, ae⟩ := kqT c3; clear c3; obtain rfl := Option.some.inj H
  go_enter Tryd.func107, Tryd.ntmps107
  go_wp2
  go_ret
  exact ⟨by first | rfl | (simp; done) | (simp [*]; done), by repeat (first | exact A0q.refl _ | apply A0q.step)⟩
 rw [kIn c3] at H; obtain ⟨ad, ae⟩ := kqF c3
 by_cases c4 : a0 = 3
 ·rw [kIp c4] at H; obtain ⟨af, ag⟩ := kqT c4; clear c4; obtain rfl := Option.some.inj H
  go_enter Tryd.func107, Tryd.ntmps107
  go_wp2
  go_ret
  exact ⟨by first | rfl | (simp; done) | (simp [*]; done), by repeat (first | exact A0q.refl _ | apply A0q.step)⟩
 rw [kIn c4] at H; obtain ⟨af, ag⟩ := kqF c4
 by_cases c5 : a0 = 4
 ·rw [kIp c5] at H; obtain ⟨ah, ai⟩ := kqT c5; clear c5; obtain rfl := Option.some.inj H
  go_enter Tryd.func107, Tryd.ntmps107
  go_wp2
  go_ret
  exact ⟨by first | rfl | (simp; done) | (simp [*]; done), by repeat (first | exact A0q.refl _ | apply A0q.step)⟩
 rw [kIn c5] at H; obtain ⟨ah, ai⟩ := kqF c5; obtain rfl := Option.some.inj H
 go_enter Tryd.func107, Tryd.ntmps107
 go_wp2
 go_ret
 exact ⟨by first | rfl | (simp; done) | (simp [*]; done), by repeat (first | exact A0q.refl _ | apply A0q.step)⟩
def A19.l0 : Nat → Int → Int → Option (Int)
 | 0, _, _ => none
 | k + 1, x0, x3 => if x3 < 4 then ((A3i.f x3).bind fun aa => (if 0 ≤ (wrap64 (aa - 1)) then (if x0 ≥ (wrap64 (-(shl .i64 1 (wrap64 (aa - 1))))) then (if x0 < (shl .i64 1 (wrap64 (aa - 1))) then (some x3) else (A19.l0 k x0 (wrap64 (x3 + 1)))) else (A19.l0 k x0 (wrap64 (x3 + 1)))) else (none))) else (some 4)
def A19.f (k : Nat) (a0 : Int) : Option (Int) := if a0 = 0 then (some 0) else (A19.l0 k a0 1)
theorem A19.A2x : ∀ k, (∀ y0 y1, LeO (A19.l0 k y0 y1) (A19.l0 (k + 1) y0 y1))
 | 0 => fun _ _ r h => by simp [A19.l0] at h
 | k + 1 => by
  have ih0 := A19.A2x k <;> intros <;> (first | unfold A19.l0) <;> (
   repeat' first
   | with_reducible apply ih0
   | (with_reducible exact LeO.refl _)
   | (with_reducible exact LeO.none _)
   | (with_reducible refine LeO.ite ?_ ?_)
   | (with_reducible refine LeO.bind ?_ (fun _ => ?_))
   | exact LeO.none _
   | refine LeO.ite ?_ ?_
   | refine LeO.bind ?_ (fun _ => ?_))
theorem A19.mono : ∀ a0 k, LeO (A19.f k a0) (A19.f (k + 1) a0) := by
 intro a0 k
 have ih0 := A19.A2x k
 unfold A19.f
 repeat' first
   | with_reducible apply ih0
   | (with_reducible exact LeO.refl _)
   | (with_reducible exact LeO.none _)
   | (with_reducible refine LeO.ite ?_ ?_)
   | (with_reducible refine LeO.bind ?_ (fun _ => ?_))
   | exact LeO.none _
   | refine LeO.ite ?_ ?_
   | refine LeO.bind ?_ (fun _ => ?_)
theorem A19.calls (k : Nat) (a0 : Int) (r : Int) (w : World) (h : A19.f k a0 = some r) :
  Calls Tryd.prog 108 #[.int .i64 a0] w fun e w' => e = .returned (.int .i64 r) ∧ A0q w w' := by
 have H := h; clear h; unfold A19.f at H
 by_cases c2 : a0 = 0
 ·rw [kIp c2] at H; obtain ⟨al, am⟩ := kqT c2; clear c2; obtain rfl := Option.some.inj H
  go_enter Tryd.func108, Tryd.ntmps108
  go_wp2
  go_ret
  exact ⟨by first | rfl | (simp; done) | (simp [*]; done), by repeat (first | exact A0q.refl _ | apply A0q.step)⟩
 rw [kIn c2] at H; obtain ⟨al, am⟩ := kqF c2; have H' := ak H; clear H
 go_enter Tryd.func108, Tryd.ntmps108
 go_wp2
 go_loopg [3] k (fun kq v3 w' => ∃ (aa : Int), v3 = .int .i64 aa ∧ A0b (A19.l0 kq a0 aa = some r) ∧ A0b (kq ≤ k) ∧ A0q w w')
 case atStart => exact ⟨(1), kE, H', ⟨Nat.le_refl _⟩, by repeat (first | exact A0q.refl _ | apply A0q.step)⟩
 case round =>
  clear H'; obtain ⟨aa, rfl, HA, aj, ⟨m1, rfl⟩⟩ := hrel
  cases gk with
  | zero => exact absurd HA.out (by simp [A19.l0])
  | succ k1 =>
   have H := HA.out; clear HA; simp only [A19.l0] at H
   by_cases c3 : aa < 4
   ·rw [kIp c3] at H; have an : decide (aa < 4) = true := kTt c3; clear c3; replace H := bkH H; obtain ⟨ae, A4, H⟩ := H; obtain ⟨ac, af⟩ := kX (wrap64 (ae - 1))
    (first | rw [af] at H | simp only [af] at H)
    (try rw [af] at A4); have aq : (IntKind.i64.wrap (ae - 1)) = ac := (A2i _).trans af
    by_cases c6 : 0 ≤ (ac)
    ·rw [kIp c6] at H; have ax := kEt c6; have ay : decide (0 ≤ (ac)) = true := kTt c6; clear c6; obtain ⟨ag, ad⟩ := kX (shl .i64 1 (ac))
     (first | rw [ad] at H | simp only [ad] at H)
     (try rw [ad] at A4); have ah : (IntKind.i64.wrap (1 * 2 ^ min (ac).toNat 64)) = ag := ad; have ai : (ac) ≤ 64 → (IntKind.i64.wrap (1 * 2 ^ (ac).toNat)) = ag := shl_small ad
     have ar : (IntKind.i64.wrap (2 ^ min (ac).toNat 64)) = ag := by have h_ := ah; rw [Int.one_mul] at h_; exact h_
     have au : (ac) ≤ 64 → (IntKind.i64.wrap (2 ^ (ac).toNat)) = ag := fun hle_ => by have h_ := ai hle_; rw [Int.one_mul] at h_; exact h_
     have av : (wrap64 (1 * 2 ^ min (ac).toNat 64)) = ag := (A2i _).symm.trans ah
     have aw : (ac) ≤ 64 → (wrap64 (1 * 2 ^ (ac).toNat)) = ag := fun h_ => (A2i _).symm.trans (ai h_)
     by_cases c8 : a0 ≥ (wrap64 (-(ag)))
     ·rw [kIp c8] at H; have ao : decide ((wrap64 (-(ag))) ≤ a0) = true := kTt c8; clear c8
      by_cases c9 : a0 < (ag)
      ·rw [kIp c9] at H; have ap := kTt c9; clear c9; obtain rfl := Option.some.inj H
       go_wp2_with (first | ((with_reducible refine A0l (f := 107) rfl ?_); refine A1d (some 12) rfl rfl Tryd.func107 (by kernel_rfl) rfl #[.int .i64 aa] rfl km ?_; (with_reducible refine (A3i.calls aa ae _ A4.out).mono ?_); rintro e w' ⟨rfl, ⟨nd, rfl⟩⟩; refine ⟨_, rfl, ?_⟩))
       go_ret
       exact ⟨by first | rfl | (simp; done) | (simp only [← af, ← ad] <;> (first | rfl | simp)) | (simp [*]; done), by repeat (first | exact A0q.refl _ | apply A0q.step)⟩
      rw [kIn c9] at H; have ap := kFf c9; clear c9; have H' := ak H; clear H
      go_wp2_with (first | ((with_reducible refine A0l (f := 107) rfl ?_); refine A1d (some 12) rfl rfl Tryd.func107 (by kernel_rfl) rfl #[.int .i64 aa] rfl km ?_; (with_reducible refine (A3i.calls aa ae _ A4.out).mono ?_); rintro e w' ⟨rfl, ⟨nd, rfl⟩⟩; refine ⟨_, rfl, ?_⟩))
      go_roundg k1
      case measure => have := aj.out; omega
      case rel => exact ⟨(wrap64 (aa + 1)), kE, H', ⟨by have := aj.out; omega⟩, by repeat (first | exact A0q.refl _ | apply A0q.step)⟩
     rw [kIn c8] at H; have ao : decide ((wrap64 (-(ag))) ≤ a0) = false := kFf c8; clear c8; have H' := ak H; clear H
     go_wp2_with (first | ((with_reducible refine A0l (f := 107) rfl ?_); refine A1d (some 12) rfl rfl Tryd.func107 (by kernel_rfl) rfl #[.int .i64 aa] rfl km ?_; (with_reducible refine (A3i.calls aa ae _ A4.out).mono ?_); rintro e w' ⟨rfl, ⟨nd, rfl⟩⟩; refine ⟨_, rfl, ?_⟩))
     go_roundg k1
     case measure => have := aj.out; omega
     case rel => exact ⟨(wrap64 (aa + 1)), kE, H', ⟨by have := aj.out; omega⟩, by repeat (first | exact A0q.refl _ | apply A0q.step)⟩
    exact (kA c6 H).elim
   rw [kIn c3] at H; have an : decide (aa < 4) = false := kFf c3; clear c3; obtain rfl := Option.some.inj H
   go_wp2
   go_ret
   exact ⟨by first | rfl | (simp; done) | (simp [*]; done), by repeat (first | exact A0q.refl _ | apply A0q.step)⟩
end Go.Proofs.YtodocfjbpkicgaaDoor.All
end
