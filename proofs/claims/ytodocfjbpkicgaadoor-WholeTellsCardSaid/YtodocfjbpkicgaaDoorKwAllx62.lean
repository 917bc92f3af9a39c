-- copied by a program of the session
import Derived.Test.YtodocfjbpkicgaaDoorKwAllx61
set_option linter.unusedSimpArgs false
set_option linter.unusedVariables false
set_option maxHeartbeats 8000000
set_option maxRecDepth 100000
namespace Go.Proofs.YtodocfjbpkicgaaDoor.All
open Go.RowKit Go.Zw Go.Zl Go.Zm
attribute [local go_sem] A2h A2r
mutual
def A07.j0 : Nat → Int → List Int → Bool → Int → Int → Int → Int → Option ((List (S42)) × Option Int)
 | 0, _, _, _, _, _, _, _ => none
 | k + 1, x0, x2, ah, ac, ad, aa, ae => if ah = true then (some (([] : List (S42)), some 1)) else (if 0 ≤ (wrap64 ((x2.length : Int) - 4)) then (if (wrap64 ((x2.length : Int) - 4)) ≤ (x2.length : Int) then (if 0 ≤ ((x2.take ((wrap64 ((x2.length : Int) - 4)) : Int).toNat).length : Int) then (if ((x2.take ((wrap64 ((x2.length : Int) - 4)) : Int).toNat).length : Int) ≤ (x2.length : Int) then (if 0 < ((x2.drop (((x2.take ((wrap64 ((x2.length : Int) - 4)) : Int).toNat).length : Int) : Int).toNat).length : Int) then (if 1 < ((x2.drop (((x2.take ((wrap64 ((x2.length : Int) - 4)) : Int).toNat).length : Int) : Int).toNat).length : Int) then (if 2 < ((x2.drop (((x2.take ((wrap64 ((x2.length : Int) - 4)) : Int).toNat).length : Int) : Int).toNat).length : Int) then (if 3 < ((x2.drop (((x2.take ((wrap64 ((x2.length : Int) - 4)) : Int).toNat).length : Int) : Int).toNat).length : Int) then ((A2f.f k (x2.take ((wrap64 ((x2.length : Int) - 4)) : Int).toNat)).bind fun ag => (if (Go.bits .or .u32 (Go.bits .or .u32 (Go.bits .or .u32 ((((rd (x2.drop (((x2.take ((wrap64 ((x2.length : Int) - 4)) : Int).toNat).length : Int) : Int).toNat) 0) % 4294967296) * 16777216) % 4294967296) ((((rd (x2.drop (((x2.take ((wrap64 ((x2.length : Int) - 4)) : Int).toNat).length : Int) : Int).toNat) 1) % 4294967296) * 65536) % 4294967296)) ((((rd (x2.drop (((x2.take ((wrap64 ((x2.length : Int) - 4)) : Int).toNat).length : Int) : Int).toNat) 2) % 4294967296) * 256) % 4294967296)) ((rd (x2.drop (((x2.take ((wrap64 ((x2.length : Int) - 4)) : Int).toNat).length : Int) : Int).toNat) 3) % 4294967296)) = ag then ((A1b.f k x0 (x2.take ((wrap64 ((x2.length : Int) - 4)) : Int).toNat) aa).bind fun af => (A07.j1 k af.1 af.2 ac ad aa ae)) else (some (([] : List (S42)), some 7)))) else (none)) else (none)) else (none)) else (none)) else (none)) else (none)) else (none)) else (none))
def A07.j1 : Nat → List (S42) → Option Int → Int → Int → Int → Int → Option ((List (S42)) × Option Int)
 | 0, _, _, _, _, _, _ => none
 | k + 1, ad, ag, aa, ac, ae, af => if ag.isNone = true then (if 0 < (ad.length : Int) then (if ((A25 ad 0).f0) = aa then (if 0 ≤ (wrap64 ((ad.length : Int) - 1)) then (if (wrap64 ((ad.length : Int) - 1)) < (ad.length : Int) then (if ((A25 ad (wrap64 ((ad.length : Int) - 1))).f0) = ac then (some (ad, none)) else (some (([] : List (S42)), some 8))) else (none)) else (none)) else (some (([] : List (S42)), some 8))) else (none)) else (some (([] : List (S42)), some (ag.getD 0)))
end
def A07.f (k : Nat) (a0 : Int) (ac : Int) (ad : Int) (ae : Int) (aa : Int) (l2 : List Int) : Option ((List (S42)) × Option Int) := if (l2.length : Int) = aa then (A07.j0 k a0 l2 (decide (aa < 4)) ac ad ae aa) else (A07.j0 k a0 l2 true ac ad ae aa)
theorem A07.A2x : ∀ k, (∀ y0 y1 y2 y3 y4 y5 y6, LeO (A07.j0 k y0 y1 y2 y3 y4 y5 y6) (A07.j0 (k + 1) y0 y1 y2 y3 y4 y5 y6)) ∧ (∀ y0 y1 y2 y3 y4 y5, LeO (A07.j1 k y0 y1 y2 y3 y4 y5) (A07.j1 (k + 1) y0 y1 y2 y3 y4 y5))
 | 0 => ⟨fun _ _ _ _ _ _ _ r h => by simp [A07.j0] at h, fun _ _ _ _ _ _ r h => by simp [A07.j1] at h⟩
 | k + 1 => by
  obtain ⟨ih0, ih1⟩ := A07.A2x k
  refine ⟨?_, ?_⟩ <;> intros <;> (first | unfold A07.j0 | unfold A07.j1) <;> (
   repeat' first
   | with_reducible apply ih0
   | with_reducible apply ih1
   | with_reducible apply A2f.mono
   | with_reducible apply A1b.mono
   | (with_reducible exact LeO.refl _)
   | (with_reducible exact LeO.none _)
   | (with_reducible refine LeO.ite ?_ ?_)
   | (with_reducible refine LeO.bind ?_ (fun _ => ?_))
   | exact LeO.none _
   | refine LeO.ite ?_ ?_
   | refine LeO.bind ?_ (fun _ => ?_))
theorem A07.mono : ∀ a0 a1 a2 a3 a4 a5 k, LeO (A07.f k a0 a1 a2 a3 a4 a5) (A07.f (k + 1) a0 a1 a2 a3 a4 a5) := by
 intro a0 a1 a2 a3 a4 a5 k
 obtain ⟨ih0, ih1⟩ := A07.A2x k
 unfold A07.f
 repeat' first
   | with_reducible apply ih0
   | with_reducible apply ih1
   | with_reducible apply A2f.mono
   | with_reducible apply A1b.mono
   | (with_reducible exact LeO.refl _)
   | (with_reducible exact LeO.none _)
   | (with_reducible refine LeO.ite ?_ ?_)
   | (with_reducible refine LeO.bind ?_ (fun _ => ?_))
   | exact LeO.none _
   | refine LeO.ite ?_ ?_
   | refine LeO.bind ?_ (fun _ => ?_)
theorem A07.calls (k : Nat) (a0 : Int) (a8 : Int) (a9 : Int) (a6 : Int) (aA : Int) (A2 : Option Addr) (c2 : Nat) (l2 : List Int) (r1 : List (S42)) (r2 : Option Int) (w : World) (hT : A39 w) (hr2 : Kd.C (Kd.int .u8) w A2 l2.length l2) (hc2 : l2.length ≤ c2) (h : A07.f k a0 a8 a9 a6 aA l2 = some (r1, r2)) :
  Calls Tryd.prog 28 #[.int .i64 a0, .agg #[.int .i64 a8, .int .i64 a9, .int .i64 a6, .int .i64 aA], .slice A2 l2.length c2] w fun e w' => ∃ dD : Value, e = .returned (.tuple #[dD, errW r2]) ∧ Kd.R k42 42 w' w.heap.size (fun _ => True) dD r1 ∧ Below w.heap.size w w' := by
 have hu62 := Tryd.underlying62; have hu38 := Tryd.underlying38; have hu94 := Tryd.underlying94; have HT := ak hT; clear hT; have cp := ak hr2; have cq := ak hc2; clear hr2 hc2; have HB := ak (Below.refl w.heap.size w); have H := h; clear h; unfold A07.f at H; have dh := ak H; clear H
 go_enter Tryd.func28, Tryd.ntmps28
 go_upto_region 1 with (first | ((with_reducible refine A0s (N := 4) rfl ?_); (try (refine A10 (by rfl) ?_; dsimp only)); refine bxe 4 #[.int .i64 a8, .int .i64 a9, .int .i64 a6, .int .i64 aA] 62 (h := ?_); intro aI hg w5 hbox hb; have ac := ak (hbox); have aU := kG hg HB; have aV := kG hg HB; replace HB := kH HB hb; clear hb hbox hg))
 repeat (go_quiet (first | ((with_reducible refine A0s (N := 4) rfl ?_); (try (refine A10 (by rfl) ?_; dsimp only)); refine bxe 4 #[.int .i64 a8, .int .i64 a9, .int .i64 a6, .int .i64 aA] 62 (h := ?_); intro aI hg w5 hbox hb; have ac := ak (hbox); have aU := kG hg HB; have aV := kG hg HB; replace HB := kH HB hb; clear hb hbox hg)); go_upto_region 1 with (first | ((with_reducible refine A0s (N := 4) rfl ?_); (try (refine A10 (by rfl) ?_; dsimp only)); refine bxe 4 #[.int .i64 a8, .int .i64 a9, .int .i64 a6, .int .i64 aA] 62 (h := ?_); intro aI hg w5 hbox hb; have ac := ak (hbox); have aU := kG hg HB; have aV := kG hg HB; replace HB := kH HB hb; clear hb hbox hg)))
 (try simp only [Act.put, List.setIfInBounds_toArray, List.set_cons_zero, List.set_cons_succ])
 go_cut [21] (fun dS wc => ∃ (kq : Nat) (aT : Bool), dS = .bool aT ∧ A0b (A07.j0 kq a0 l2 aT a8 a9 a6 aA = some (r1, r2)) ∧ A0b (kq ≤ k) ∧ A0b (wc.heap[aI]? = some (.cells #[.int .i64 a8, .int .i64 a9, .int .i64 a6, .int .i64 aA] 62 (0, 0))) ∧ A0b (Below w.heap.size w wc))
 case first =>
  have H := dh.out; clear dh
  by_cases c6 : (l2.length : Int) = aA
  ·rw [kIp c6] at H; obtain ⟨aW, di⟩ := kqT c6; clear c6
   (first | rw [aW] | (simp only [A2i, A2u]; rw [aW]) | skip)
   have H' := ak H; clear H; obtain ⟨dj, dk, dl, dm⟩ := kc4 ac; obtain ⟨dn, dp, dq, dr⟩ := kf4 ac
   go_wp2
   repeat ((first | go_quiet (fail) | go_region); try go_wp2)
   go_meet
   case rel => exact ⟨_, (decide (aA < 4)), kE, H', kO, ⟨kb ac⟩, ⟨(kl HB)⟩⟩
  rw [kIn c6] at H; obtain ⟨aW, di⟩ := kqF c6
  (first | rw [aW] | (simp only [A2i, A2u]; rw [aW]) | skip)
  have H' := ak H; clear H; obtain ⟨ds, dt, du, dv⟩ := kc4 ac; obtain ⟨dw, dz, d0, d5⟩ := kf4 ac
  go_wp2
  repeat ((first | go_quiet (fail) | go_region); try go_wp2)
  go_meet
  case rel => exact ⟨_, (true), kE, H', kO, ⟨kb ac⟩, ⟨(kl HB)⟩⟩
 case rest =>
  clear dh; obtain ⟨kq, aT, rfl, HA, dT, ac, HB⟩ := hcut
  cases kq with
  | zero => exact absurd HA.out (by simp [A07.j0])
  | succ bq =>
   have H := HA.out; clear HA; simp only [A07.j0] at H
   by_cases c9 : aT = true
   ·subst c9
    rw [if_pos rfl] at H; obtain ⟨rfl, rfl⟩ := kI2 H
    go_wp2
    repeat ((first | go_quiet (fail) | go_region); try go_wp2)
    go_ret2
    exact ⟨_, kF, kNi, (kl HB)⟩
   replace c9 := Bool.eq_false_iff.mpr c9; subst c9
   rw [if_neg (show ¬ (false = true) by decide)] at H; obtain ⟨ji10, a7⟩ := kX (wrap64 ((l2.length : Int) - 4))
   (first | rw [a7] at H | simp only [a7] at H)
   have d6 : (IntKind.i64.wrap ((l2.length : Int) - 4)) = ji10 := (A2i _).trans a7
   by_cases b9 : 0 ≤ (ji10)
   ·rw [kIp b9] at H; have dF := kEt b9; have dG := kTt b9; clear b9
    by_cases bA : (ji10) ≤ (l2.length : Int)
    ·rw [kIp bA] at H; have dH := kEt bA; have dI := kTt bA; clear bA
     by_cases bB : 0 ≤ ((l2.take ((ji10) : Int).toNat).length : Int)
     ·rw [kIp bB] at H; have dJ := kEt bB; have dK := kTt bB; clear bB
      by_cases bC : ((l2.take ((ji10) : Int).toNat).length : Int) ≤ (l2.length : Int)
      ·rw [kIp bC] at H; have dL := kEt bC; have dM := kTt bC; clear bC
       by_cases cr : 0 < ((l2.drop (((l2.take ((ji10) : Int).toNat).length : Int) : Int).toNat).length : Int)
       ·rw [kIp cr] at H; have bD := kTt cr; have bE : decide (0 < (l2.drop (((l2.take ((ji10) : Int).toNat).length : Int) : Int).toNat).length) = true := kTt (by omega); (try (have bF := bD; simp only [List.length_drop, List.length_take] at bF)); (try (have bG := bE; simp only [List.length_drop, List.length_take] at bG)); clear cr
        by_cases cs : 1 < ((l2.drop (((l2.take ((ji10) : Int).toNat).length : Int) : Int).toNat).length : Int)
        ·rw [kIp cs] at H; have bH := kTt cs; have bI : decide (1 < (l2.drop (((l2.take ((ji10) : Int).toNat).length : Int) : Int).toNat).length) = true := kTt (by omega); (try (have bJ := bH; simp only [List.length_drop, List.length_take] at bJ)); (try (have bK := bI; simp only [List.length_drop, List.length_take] at bK)); clear cs
         by_cases ct : 2 < ((l2.drop (((l2.take ((ji10) : Int).toNat).length : Int) : Int).toNat).length : Int)
         ·rw [kIp ct] at H; have bL := kTt ct; have bM : decide (2 < (l2.drop (((l2.take ((ji10) : Int).toNat).length : Int) : Int).toNat).length) = true := kTt (by omega); (try (have bN := bL; simp only [List.length_drop, List.length_take] at bN)); (try (have bO := bM; simp only [List.length_drop, List.length_take] at bO)); clear ct
          by_cases cu : 3 < ((l2.drop (((l2.take ((ji10) : Int).toNat).length : Int) : Int).toNat).length : Int)
          ·rw [kIp cu] at H; have bP := kTt cu; have bQ : decide (3 < (l2.drop (((l2.take ((ji10) : Int).toNat).length : Int) : Int).toNat).length) = true := kTt (by omega); (try (have bR := bP; simp only [List.length_drop, List.length_take] at bR)); (try (have bS := bQ; simp only [List.length_drop, List.length_take] at bS)); clear cu; replace H := bkH H; obtain ⟨aH, bT, H⟩ := H
           by_cases bU : (Go.bits .or .u32 (Go.bits .or .u32 (Go.bits .or .u32 ((((rd (l2.drop (((l2.take ((ji10) : Int).toNat).length : Int) : Int).toNat) 0) % 4294967296) * 16777216) % 4294967296) ((((rd (l2.drop (((l2.take ((ji10) : Int).toNat).length : Int) : Int).toNat) 1) % 4294967296) * 65536) % 4294967296)) ((((rd (l2.drop (((l2.take ((ji10) : Int).toNat).length : Int) : Int).toNat) 2) % 4294967296) * 256) % 4294967296)) ((rd (l2.drop (((l2.take ((ji10) : Int).toNat).length : Int) : Int).toNat) 3) % 4294967296)) = aH
           ·rw [kIp bU] at H; obtain ⟨aL, aM⟩ := kqT bU; (try (have aX := aL; simp only [List.length_drop, List.length_take] at aX)); (try (have aY := aM; simp only [List.length_drop, List.length_take] at aY)); clear bU; have b1 := ak H; clear H; obtain ⟨dU, br, _, bs, _⟩ := info_parts info5; obtain ⟨d7, bV, bW⟩ := A27 (P := Tryd.prog) (Value.int .u8) 0 22 5 .i64 Tryd.underlying22 br bs A2 c2 l2 (ji10) kD kD cq.out; have ap := ak (Kd.A2b (h1 := fun _ => rfl) (bV _ (Kd.A18 cp.out))); have aq := ak bW; clear bV bW br bs; obtain ⟨dV, bt, _, bu, _⟩ := info_parts info5
            obtain ⟨dW, b2, bX, bY⟩ := A3l (P := Tryd.prog) (Value.int .u8) 0 22 5 .i64 Tryd.underlying22 bt bu A2 c2 l2 ((l2.take ((ji10) : Int).toNat).length : Int) kD kD cq.out; have cv : ∀ W : World, (Instr.slice 22 (.slice A2 l2.length c2) (some (.int .i64 (max ji10 0))) none none).run Tryd.prog W = .ok (.slice dW (l2.drop (((l2.take ((ji10) : Int).toNat).length : Int) : Int).toNat).length (c2 - (((l2.take ((ji10) : Int).toNat).length : Int) : Int).toNat)) W := (by have h0_ : 0 ≤ (ji10 : Int) := kD; have h1_ : (ji10 : Int) ≤ (l2.length : Int) := kD; have hm_ : ((l2.take ((ji10) : Int).toNat).length : Int) = max ji10 0 := (by rw [List.length_take]; omega); intro W; rw [← hm_]; exact b2 W)
            have ao := ak (Kd.A2b (h1 := fun _ => rfl) (bX _ (Kd.A18 cp.out))); have b3 := ak bY; clear bX bY bt bu; have aB : 0 ≤ (0 : Int) := (by omega); have a1 : 0 < ((l2.drop (((l2.take ((ji10) : Int).toNat).length : Int) : Int).toNat).length : Int) := kD; obtain ⟨au, aZ, ad⟩ := Kd.A2y ao.out 0 aB a1
            cases aZ
            have b4 : (0 < (l2.drop (((l2.take ((ji10) : Int).toNat).length : Int) : Int).toNat).length) = True := eq_true (by omega); (try rw [show ((0 : Int)).toNat = 0 from rfl] at ad); (try rw [Addr.add_zero'] at ad); replace ad := (HB.out.cell (World.block_lt_of_cell? w _ ad)).trans ad; replace aB := kEt aB
            (try (have av := a1; simp only [List.length_drop, List.length_take] at av; replace av := kEt av)); replace a1 := kEt a1
            have aC : 0 ≤ (1 : Int) := (by omega); have a2 : 1 < ((l2.drop (((l2.take ((ji10) : Int).toNat).length : Int) : Int).toNat).length : Int) := kD; obtain ⟨aP, ba, ae⟩ := Kd.A2y ao.out 1 aC a2; obtain rfl : au = aP := (by injection ba); (try simp only [show (1 : Int).toNat = 1 from rfl, Nat.reduceMul, Nat.reduceEqDiff, Go.Addr.add, ↓reduceIte] at ae); have b5 : (1 < (l2.drop (((l2.take ((ji10) : Int).toNat).length : Int) : Int).toNat).length) = True := eq_true (by omega); (try rw [show ((1 : Int)).toNat = 1 from rfl] at ae); replace ae := (HB.out.cell (World.block_lt_of_cell? w _ ae)).trans ae; replace aC := kEt aC
            (try (have aw := a2; simp only [List.length_drop, List.length_take] at aw; replace aw := kEt aw)); replace a2 := kEt a2
            have aD : 0 ≤ (2 : Int) := (by omega); have a3 : 2 < ((l2.drop (((l2.take ((ji10) : Int).toNat).length : Int) : Int).toNat).length : Int) := kD; obtain ⟨aQ, bb, af⟩ := Kd.A2y ao.out 2 aD a3; obtain rfl : au = aQ := (by injection bb); (try simp only [show (2 : Int).toNat = 2 from rfl, Nat.reduceMul, Nat.reduceEqDiff, Go.Addr.add, ↓reduceIte] at af); have b6 : (2 < (l2.drop (((l2.take ((ji10) : Int).toNat).length : Int) : Int).toNat).length) = True := eq_true (by omega); (try rw [show ((2 : Int)).toNat = 2 from rfl] at af); replace af := (HB.out.cell (World.block_lt_of_cell? w _ af)).trans af; replace aD := kEt aD
            (try (have ax := a3; simp only [List.length_drop, List.length_take] at ax; replace ax := kEt ax)); replace a3 := kEt a3
            have aE : 0 ≤ (3 : Int) := (by omega); have a4 : 3 < ((l2.drop (((l2.take ((ji10) : Int).toNat).length : Int) : Int).toNat).length : Int) := kD; obtain ⟨aR, bc, ag⟩ := Kd.A2y ao.out 3 aE a4; obtain rfl : au = aR := (by injection bc); (try simp only [show (3 : Int).toNat = 3 from rfl, Nat.reduceMul, Nat.reduceEqDiff, Go.Addr.add, ↓reduceIte] at ag); have b7 : (3 < (l2.drop (((l2.take ((ji10) : Int).toNat).length : Int) : Int).toNat).length) = True := eq_true (by omega); (try rw [show ((3 : Int)).toNat = 3 from rfl] at ag); replace ag := (HB.out.cell (World.block_lt_of_cell? w _ ag)).trans ag; replace aE := kEt aE
            (try (have ay := a4; simp only [List.length_drop, List.length_take] at ay; replace ay := kEt ay)); replace a4 := kEt a4
            generalize hT_ : (l2.drop (((l2.take ((ji10) : Int).toNat).length : Int) : Int).toNat) = T_ at *; have be := aL; have bf := aM; (try simp only [← IntKind.wrap_u32] at be bf)
            go_upto_region 7 with (first | (go_at_call 57; refine A3k (args' := #[.slice A2 (l2.take ((ji10) : Int).toNat).length c2]) (by first | rfl | (rw [show (l2.take ((ji10) : Int).toNat).length = (ji10).toNat from (by rw [List.length_take]; have h_ : ((ji10) : Int) ≤ (l2.length : Int) := kD; omega)] <;> rfl) | rfl) ?_; (with_reducible refine (A2f.calls bq _ _ (l2.take ((ji10) : Int).toNat) aH _ ?am ?an bT.out).mono ?_); (case am => exact kC (Kd.A1i ap.out HB.out)); (case an => exact aq.out); rintro e w' ⟨rfl, ⟨nd, rfl⟩⟩; (try first | exact ⟨rfl, _, World.drewN_drewN _ _ _⟩ | exact ⟨rfl, _, Eq.trans (World.drewN_drewN _ _ _) (congrArg (World.drewN _) (Nat.add_assoc _ _ _))⟩)))
            repeat (go_quiet (first | (go_at_call 57; refine A3k (args' := #[.slice A2 (l2.take ((ji10) : Int).toNat).length c2]) (by first | rfl | (rw [show (l2.take ((ji10) : Int).toNat).length = (ji10).toNat from (by rw [List.length_take]; have h_ : ((ji10) : Int) ≤ (l2.length : Int) := kD; omega)] <;> rfl) | rfl) ?_; (with_reducible refine (A2f.calls bq _ _ (l2.take ((ji10) : Int).toNat) aH _ ?am ?an bT.out).mono ?_); (case am => exact kC (Kd.A1i ap.out HB.out)); (case an => exact aq.out); rintro e w' ⟨rfl, ⟨nd, rfl⟩⟩; (try first | exact ⟨rfl, _, World.drewN_drewN _ _ _⟩ | exact ⟨rfl, _, Eq.trans (World.drewN_drewN _ _ _) (congrArg (World.drewN _) (Nat.add_assoc _ _ _))⟩))); go_upto_region 7 with (first | (go_at_call 57; refine A3k (args' := #[.slice A2 (l2.take ((ji10) : Int).toNat).length c2]) (by first | rfl | (rw [show (l2.take ((ji10) : Int).toNat).length = (ji10).toNat from (by rw [List.length_take]; have h_ : ((ji10) : Int) ≤ (l2.length : Int) := kD; omega)] <;> rfl) | rfl) ?_; (with_reducible refine (A2f.calls bq _ _ (l2.take ((ji10) : Int).toNat) aH _ ?am ?an bT.out).mono ?_); (case am => exact kC (Kd.A1i ap.out HB.out)); (case an => exact aq.out); rintro e w' ⟨rfl, ⟨nd, rfl⟩⟩; (try first | exact ⟨rfl, _, World.drewN_drewN _ _ _⟩ | exact ⟨rfl, _, Eq.trans (World.drewN_drewN _ _ _) (congrArg (World.drewN _) (Nat.add_assoc _ _ _))⟩))))
            (try simp only [Act.put, List.setIfInBounds_toArray, List.set_cons_zero, List.set_cons_succ])
            go_cut [10, 11] (fun dX dY wc => ∃ (kq : Nat) (aa : List (S42)) (aJ : Option Int), dY = errW aJ ∧ A0b (A07.j1 kq aa aJ a8 a9 a6 aA = some (r1, r2)) ∧ A0b (kq ≤ bq) ∧ A0b (Kd.R k42 42 wc w.heap.size (fun _ => True) dX aa) ∧ A0b (wc.heap[aI]? = some (.cells #[.int .i64 a8, .int .i64 a9, .int .i64 a6, .int .i64 aA] 62 (0, 0))) ∧ A0b (Below w.heap.size w wc))
            case first =>
             have H := b1.out; clear b1; replace H := bkH H; obtain ⟨⟨bh, bi⟩, dN, H⟩ := H; (try dsimp only at H); have H' := ak H; clear H; obtain ⟨cw, cx, cy, cz⟩ := kc4 ac; obtain ⟨cA, cB, cC, cD⟩ := kf4 ac
             iterate 7 (go_wp2_with (first | (go_at_call 63; refine A3k (args' := #[.int .i64 a0, .slice A2 (l2.take ((ji10) : Int).toNat).length c2, .int .i64 a6]) (by first | rfl | (rw [show (l2.take ((ji10) : Int).toNat).length = (ji10).toNat from (by rw [List.length_take]; have h_ : ((ji10) : Int) ≤ (l2.length : Int) := kD; omega)] <;> rfl) | rfl) ?_; (with_reducible refine (A1b.calls bq a0 _ _ (l2.take ((ji10) : Int).toNat) a6 bh bi _ ?am ?an ?bj dN.out).mono ?_); (case am => exact A39.below HT.out (kl HB) (Nat.le_refl _)); (case an => exact kC (Kd.A1i ap.out HB.out)); (case bj => exact aq.out); rintro e dZ ⟨bZ, rfl, ho0, hb⟩; have bk := ak (Kd.A2l ho0 (A0t (kl HB))); replace ac := kB ac hb; replace HB := kH HB hb; (try simp only [A0i, A0j]))); try go_quiet (first | (go_at_call 63; refine A3k (args' := #[.int .i64 a0, .slice A2 (l2.take ((ji10) : Int).toNat).length c2, .int .i64 a6]) (by first | rfl | (rw [show (l2.take ((ji10) : Int).toNat).length = (ji10).toNat from (by rw [List.length_take]; have h_ : ((ji10) : Int) ≤ (l2.length : Int) := kD; omega)] <;> rfl) | rfl) ?_; (with_reducible refine (A1b.calls bq a0 _ _ (l2.take ((ji10) : Int).toNat) a6 bh bi _ ?am ?an ?bj dN.out).mono ?_); (case am => exact A39.below HT.out (kl HB) (Nat.le_refl _)); (case an => exact kC (Kd.A1i ap.out HB.out)); (case bj => exact aq.out); rintro e dZ ⟨bZ, rfl, ho0, hb⟩; have bk := ak (Kd.A2l ho0 (A0t (kl HB))); replace ac := kB ac hb; replace HB := kH HB hb; (try simp only [A0i, A0j]))))
             go_meet
             case rel => exact ⟨_, (bh), (bi), kE, H', ⟨by have := dT.out; first | omega | exact Nat.le_refl _⟩, ⟨kr bk⟩, ⟨kb ac⟩, ⟨(kl HB)⟩⟩
            case rest =>
             clear b1; obtain ⟨kq, aa, aJ, rfl, HA, ea, HO_10, ac, HB⟩ := hcut
             cases kq with
             | zero => exact absurd HA.out (by simp [A07.j1])
             | succ eb =>
              have H := HA.out; clear HA; simp only [A07.j1] at H
              rcases aJ with _ | bv
              ·have H1 : (if 0 < (aa.length : Int) then (if ((A25 aa 0).f0) = a8 then (if 0 ≤ (wrap64 ((aa.length : Int) - 1)) then (if (wrap64 ((aa.length : Int) - 1)) < (aa.length : Int) then (if ((A25 aa (wrap64 ((aa.length : Int) - 1))).f0) = a9 then (some (aa, none)) else (some (([] : List (S42)), some 8))) else (none)) else (none)) else (some (([] : List (S42)), some 8))) else (none)) = some (r1, r2) := by rw [if_pos (show (none : Option Int).isNone = true by rfl)] at H; exact H
               clear H; have H := H1; clear H1
               try simp only [A0i, A0j]
               by_cases cF : 0 < (aa.length : Int)
               ·rw [kIp cF] at H; have dO := kTt cF; have dP : decide (0 < aa.length) = true := kTt (by omega); clear cF
                by_cases ca : ((A25 aa 0).f0) = a8
                ·rw [kIp ca] at H; obtain ⟨cc, cf⟩ := kqT ca; clear ca; obtain ⟨aG, aN⟩ := kX (wrap64 ((aa.length : Int) - 1))
                 (first | rw [aN] at H | simp only [aN] at H)
                 have d8 : (IntKind.i64.wrap ((aa.length : Int) - 1)) = aG := (A2i _).trans aN
                 by_cases cG : 0 ≤ (aG)
                 ·rw [kIp cG] at H; have dQ := kTt cG; clear cG
                  by_cases cH : (aG) < (aa.length : Int)
                  ·rw [kIp cH] at H; have dR := kTt cH; clear cH
                   by_cases cg : ((A25 aa (aG)).f0) = a9
                   ·rw [kIp cg] at H; obtain ⟨ch, ci⟩ := kqT cg; clear cg; obtain ⟨rfl, rfl⟩ := kI2 H; obtain ⟨ec, ed, d9⟩ := Kd.A11 HO_10.out; subst d9; have ar : 0 ≤ (0 : Int) := (by omega); have al : 0 < (aa.length : Int) := kD; obtain ⟨aK, aO, ah, ai⟩ := at_T42 (Kd.A0y HO_10.out).2.2 0 ar al
                    cases aO
                    have bm : (0 < aa.length) = True := eq_true (by omega); (try rw [show ((0 : Int)).toNat = 0 from rfl] at ah); (try rw [show 0 * 2 = 0 from rfl] at ah); (try rw [Addr.add_zero'] at ah); (try rw [show ((0 : Int)).toNat = 0 from rfl] at ai); (try rw [show 0 * 2 = 0 from rfl] at ai); (try rw [Addr.add_zero'] at ai); replace ar := kEt ar
                    (try (have aj := al; simp only [List.length_drop, List.length_take] at aj; replace aj := kEt aj)); replace al := kEt al
                    obtain ⟨cI, cJ, cK, cL⟩ := kc4 ac; obtain ⟨cM, cN, cO, cP⟩ := kf4 ac; have aF : 0 ≤ ((aG) : Int) := kD; have a5 : (aG) < (aa.length : Int) := kD; obtain ⟨aS, bn, bo, bp⟩ := at_T42 (Kd.A0y HO_10.out).2.2 (aG) aF a5; obtain rfl : aK = aS := (by injection bn); replace aF := kEt aF
                    (try (have az := a5; simp only [List.length_drop, List.length_take] at az; replace az := kEt az)); replace a5 := kEt a5
                    go_wp2
                    repeat ((first | go_quiet (fail) | go_region); try go_wp2)
                    go_ret2
                    exact ⟨_, by first | rfl | (simp [A0i, A0j] <;> rfl) | (simp only [← a7, ← aN]; first | rfl | (simp [A0i, A0j] <;> rfl)) | (simp [*, A0i, A0j] <;> rfl), by (with_reducible repeat (first | apply Kd.R_alloc | apply Kd.A00 | apply Kd.A02)); exact HO_10.out, (kl HB)⟩
                   rw [kIn cg] at H; obtain ⟨ch, ci⟩ := kqF cg; obtain ⟨rfl, rfl⟩ := kI2 H; obtain ⟨ee, ef, dA⟩ := Kd.A11 HO_10.out; subst dA; have ar : 0 ≤ (0 : Int) := (by omega); have al : 0 < (aa.length : Int) := kD; obtain ⟨aK, aO, ah, ai⟩ := at_T42 (Kd.A0y HO_10.out).2.2 0 ar al
                   cases aO
                   have bm : (0 < aa.length) = True := eq_true (by omega); (try rw [show ((0 : Int)).toNat = 0 from rfl] at ah); (try rw [show 0 * 2 = 0 from rfl] at ah); (try rw [Addr.add_zero'] at ah); (try rw [show ((0 : Int)).toNat = 0 from rfl] at ai); (try rw [show 0 * 2 = 0 from rfl] at ai); (try rw [Addr.add_zero'] at ai); replace ar := kEt ar
                   (try (have aj := al; simp only [List.length_drop, List.length_take] at aj; replace aj := kEt aj)); replace al := kEt al
                   obtain ⟨cQ, cR, cS, cT⟩ := kc4 ac; obtain ⟨cU, cV, cW, cX⟩ := kf4 ac; have aF : 0 ≤ ((aG) : Int) := kD; have a5 : (aG) < (aa.length : Int) := kD; obtain ⟨aS, bn, bo, bp⟩ := at_T42 (Kd.A0y HO_10.out).2.2 (aG) aF a5; obtain rfl : aK = aS := (by injection bn); replace aF := kEt aF
                   (try (have az := a5; simp only [List.length_drop, List.length_take] at az; replace az := kEt az)); replace a5 := kEt a5
                   go_wp2
                   repeat ((first | go_quiet (fail) | go_region); try go_wp2)
                   go_ret2
                   exact ⟨_, by first | rfl | (simp [A0i, A0j] <;> rfl) | (simp only [← a7, ← aN]; first | rfl | (simp [A0i, A0j] <;> rfl)) | (simp [*, A0i, A0j] <;> rfl), kNi, (kl HB)⟩
                  exact (kA cH H).elim
                 exact (kA cG H).elim
                rw [kIn ca] at H; obtain ⟨cc, cf⟩ := kqF ca; obtain ⟨rfl, rfl⟩ := kI2 H; obtain ⟨eg, eh, dB⟩ := Kd.A11 HO_10.out; subst dB; have ar : 0 ≤ (0 : Int) := (by omega); have al : 0 < (aa.length : Int) := kD; obtain ⟨aK, aO, ah, ai⟩ := at_T42 (Kd.A0y HO_10.out).2.2 0 ar al
                cases aO
                have bm : (0 < aa.length) = True := eq_true (by omega); (try rw [show ((0 : Int)).toNat = 0 from rfl] at ah); (try rw [show 0 * 2 = 0 from rfl] at ah); (try rw [Addr.add_zero'] at ah); (try rw [show ((0 : Int)).toNat = 0 from rfl] at ai); (try rw [show 0 * 2 = 0 from rfl] at ai); (try rw [Addr.add_zero'] at ai); replace ar := kEt ar
                (try (have aj := al; simp only [List.length_drop, List.length_take] at aj; replace aj := kEt aj)); replace al := kEt al
                obtain ⟨cY, cZ, da, db⟩ := kc4 ac; obtain ⟨dc, dd, de, df⟩ := kf4 ac
                go_wp2
                repeat ((first | go_quiet (fail) | go_region); try go_wp2)
                go_ret2
                exact ⟨_, by first | rfl | (simp [A0i, A0j] <;> rfl) | (simp only [← a7]; first | rfl | (simp [A0i, A0j] <;> rfl)) | (simp [*, A0i, A0j] <;> rfl), kNi, (kl HB)⟩
               exact (kA cF H).elim
              have H1 : (some (([] : List (S42)), some bv)) = some (r1, r2) := by rw [if_neg (show ¬ (some bv).isNone = true by simp)] at H; exact H
              clear H; have H := H1; clear H1
              try simp only [A0i, A0j]
              obtain ⟨rfl, rfl⟩ := kI2 H
              go_wp2
              repeat ((first | go_quiet (fail) | go_region); try go_wp2)
              go_ret2
              exact ⟨_, by first | rfl | (simp [A0i, A0j] <;> rfl) | (simp only [← a7]; first | rfl | (simp [A0i, A0j] <;> rfl)) | (simp [*, A0i, A0j] <;> rfl), kNi, (kl HB)⟩
           rw [kIn bU] at H; obtain ⟨aL, aM⟩ := kqF bU; (try (have aX := aL; simp only [List.length_drop, List.length_take] at aX)); (try (have aY := aM; simp only [List.length_drop, List.length_take] at aY)); obtain ⟨rfl, rfl⟩ := kI2 H; obtain ⟨ei, bw, _, bx, _⟩ := info_parts info5; obtain ⟨dC, cj, ck⟩ := A27 (P := Tryd.prog) (Value.int .u8) 0 22 5 .i64 Tryd.underlying22 bw bx A2 c2 l2 (ji10) kD kD cq.out; have ap := ak (Kd.A2b (h1 := fun _ => rfl) (cj _ (Kd.A18 cp.out))); have aq := ak ck; clear cj ck bw bx; obtain ⟨ej, bz, _, b0, _⟩ := info_parts info5
           obtain ⟨ek, b8, cm, co⟩ := A3l (P := Tryd.prog) (Value.int .u8) 0 22 5 .i64 Tryd.underlying22 bz b0 A2 c2 l2 ((l2.take ((ji10) : Int).toNat).length : Int) kD kD cq.out; have dg : ∀ W : World, (Instr.slice 22 (.slice A2 l2.length c2) (some (.int .i64 (max ji10 0))) none none).run Tryd.prog W = .ok (.slice ek (l2.drop (((l2.take ((ji10) : Int).toNat).length : Int) : Int).toNat).length (c2 - (((l2.take ((ji10) : Int).toNat).length : Int) : Int).toNat)) W := (by have h0_ : 0 ≤ (ji10 : Int) := kD; have h1_ : (ji10 : Int) ≤ (l2.length : Int) := kD; have hm_ : ((l2.take ((ji10) : Int).toNat).length : Int) = max ji10 0 := (by rw [List.length_take]; omega); intro W; rw [← hm_]; exact b8 W)
           have ao := ak (Kd.A2b (h1 := fun _ => rfl) (cm _ (Kd.A18 cp.out))); have b3 := ak co; clear cm co bz b0; have aB : 0 ≤ (0 : Int) := (by omega); have a1 : 0 < ((l2.drop (((l2.take ((ji10) : Int).toNat).length : Int) : Int).toNat).length : Int) := kD; obtain ⟨au, aZ, ad⟩ := Kd.A2y ao.out 0 aB a1
           cases aZ
           have b4 : (0 < (l2.drop (((l2.take ((ji10) : Int).toNat).length : Int) : Int).toNat).length) = True := eq_true (by omega); (try rw [show ((0 : Int)).toNat = 0 from rfl] at ad); (try rw [Addr.add_zero'] at ad); replace ad := (HB.out.cell (World.block_lt_of_cell? w _ ad)).trans ad; replace aB := kEt aB
           (try (have av := a1; simp only [List.length_drop, List.length_take] at av; replace av := kEt av)); replace a1 := kEt a1
           have aC : 0 ≤ (1 : Int) := (by omega); have a2 : 1 < ((l2.drop (((l2.take ((ji10) : Int).toNat).length : Int) : Int).toNat).length : Int) := kD; obtain ⟨aP, ba, ae⟩ := Kd.A2y ao.out 1 aC a2; obtain rfl : au = aP := (by injection ba); (try simp only [show (1 : Int).toNat = 1 from rfl, Nat.reduceMul, Nat.reduceEqDiff, Go.Addr.add, ↓reduceIte] at ae); have b5 : (1 < (l2.drop (((l2.take ((ji10) : Int).toNat).length : Int) : Int).toNat).length) = True := eq_true (by omega); (try rw [show ((1 : Int)).toNat = 1 from rfl] at ae); replace ae := (HB.out.cell (World.block_lt_of_cell? w _ ae)).trans ae; replace aC := kEt aC
           (try (have aw := a2; simp only [List.length_drop, List.length_take] at aw; replace aw := kEt aw)); replace a2 := kEt a2
           have aD : 0 ≤ (2 : Int) := (by omega); have a3 : 2 < ((l2.drop (((l2.take ((ji10) : Int).toNat).length : Int) : Int).toNat).length : Int) := kD; obtain ⟨aQ, bb, af⟩ := Kd.A2y ao.out 2 aD a3; obtain rfl : au = aQ := (by injection bb); (try simp only [show (2 : Int).toNat = 2 from rfl, Nat.reduceMul, Nat.reduceEqDiff, Go.Addr.add, ↓reduceIte] at af); have b6 : (2 < (l2.drop (((l2.take ((ji10) : Int).toNat).length : Int) : Int).toNat).length) = True := eq_true (by omega); (try rw [show ((2 : Int)).toNat = 2 from rfl] at af); replace af := (HB.out.cell (World.block_lt_of_cell? w _ af)).trans af; replace aD := kEt aD
           (try (have ax := a3; simp only [List.length_drop, List.length_take] at ax; replace ax := kEt ax)); replace a3 := kEt a3
           have aE : 0 ≤ (3 : Int) := (by omega); have a4 : 3 < ((l2.drop (((l2.take ((ji10) : Int).toNat).length : Int) : Int).toNat).length : Int) := kD; obtain ⟨aR, bc, ag⟩ := Kd.A2y ao.out 3 aE a4; obtain rfl : au = aR := (by injection bc); (try simp only [show (3 : Int).toNat = 3 from rfl, Nat.reduceMul, Nat.reduceEqDiff, Go.Addr.add, ↓reduceIte] at ag); have b7 : (3 < (l2.drop (((l2.take ((ji10) : Int).toNat).length : Int) : Int).toNat).length) = True := eq_true (by omega); (try rw [show ((3 : Int)).toNat = 3 from rfl] at ag); replace ag := (HB.out.cell (World.block_lt_of_cell? w _ ag)).trans ag; replace aE := kEt aE
           (try (have ay := a4; simp only [List.length_drop, List.length_take] at ay; replace ay := kEt ay)); replace a4 := kEt a4
           generalize hT_ : (l2.drop (((l2.take ((ji10) : Int).toNat).length : Int) : Int).toNat) = T_ at *; have be := aL; have bf := aM; (try simp only [← IntKind.wrap_u32] at be bf)
           iterate 7 (go_wp2_with (first | (go_at_call 57; refine A3k (args' := #[.slice A2 (l2.take ((ji10) : Int).toNat).length c2]) (by first | rfl | (rw [show (l2.take ((ji10) : Int).toNat).length = (ji10).toNat from (by rw [List.length_take]; have h_ : ((ji10) : Int) ≤ (l2.length : Int) := kD; omega)] <;> rfl) | rfl) ?_; (with_reducible refine (A2f.calls bq _ _ (l2.take ((ji10) : Int).toNat) aH _ ?am ?an bT.out).mono ?_); (case am => exact kC (Kd.A1i ap.out HB.out)); (case an => exact aq.out); rintro e w' ⟨rfl, ⟨nd, rfl⟩⟩; (try first | exact ⟨rfl, _, World.drewN_drewN _ _ _⟩ | exact ⟨rfl, _, Eq.trans (World.drewN_drewN _ _ _) (congrArg (World.drewN _) (Nat.add_assoc _ _ _))⟩))); try go_quiet (first | (go_at_call 57; refine A3k (args' := #[.slice A2 (l2.take ((ji10) : Int).toNat).length c2]) (by first | rfl | (rw [show (l2.take ((ji10) : Int).toNat).length = (ji10).toNat from (by rw [List.length_take]; have h_ : ((ji10) : Int) ≤ (l2.length : Int) := kD; omega)] <;> rfl) | rfl) ?_; (with_reducible refine (A2f.calls bq _ _ (l2.take ((ji10) : Int).toNat) aH _ ?am ?an bT.out).mono ?_); (case am => exact kC (Kd.A1i ap.out HB.out)); (case an => exact aq.out); rintro e w' ⟨rfl, ⟨nd, rfl⟩⟩; (try first | exact ⟨rfl, _, World.drewN_drewN _ _ _⟩ | exact ⟨rfl, _, Eq.trans (World.drewN_drewN _ _ _) (congrArg (World.drewN _) (Nat.add_assoc _ _ _))⟩))))
           go_ret2
           exact ⟨_, by first | rfl | (simp [A0i, A0j] <;> rfl) | (simp only [← a7]; first | rfl | (simp [A0i, A0j] <;> rfl)) | (simp [*, A0i, A0j] <;> rfl), kNi, (kl HB)⟩
          exact (kA cu H).elim
         exact (kA ct H).elim
        exact (kA cs H).elim
       exact (kA cr H).elim
      exact (kA bC H).elim
     exact (kA bB H).elim
    exact (kA bA H).elim
   exact (kA b9 H).elim
end Go.Proofs.YtodocfjbpkicgaaDoor.All
