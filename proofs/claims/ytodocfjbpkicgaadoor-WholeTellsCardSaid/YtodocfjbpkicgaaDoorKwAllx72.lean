-- copied by a program of the session
import Derived.Test.YtodocfjbpkicgaaDoorKwAllx71
set_option linter.unusedSimpArgs false
set_option linter.unusedVariables false
set_option maxHeartbeats 8000000
set_option maxRecDepth 100000
namespace Go.Proofs.YtodocfjbpkicgaaDoor.All
open Go.RowKit Go.Zw Go.Zl Go.Zm
attribute [local go_sem] A2h A2r
mutual
def A0m.j0 : Nat → Int → List Int → Bool → Int → Int → Int → Int → Option ((List (S42)) × Int)
 | 0, _, _, _, _, _, _, _ => none
 | k + 1, x0, x2, ai, ad, ae, aa, af => if ai = true then (some (([] : List (S42)), 1)) else (if 0 ≤ (wrap64 ((x2.length : Int) - 4)) then (if (wrap64 ((x2.length : Int) - 4)) ≤ (x2.length : Int) then ((A1n.f k (x2.drop ((wrap64 ((x2.length : Int) - 4)) : Int).toNat)).bind fun ag => ((A09.f k (x2.take ((wrap64 ((x2.length : Int) - 4)) : Int).toNat)).bind fun ah => (if ag = (IntKind.u64.wrap (ah)) then ((A01.f k x0 (x2.take ((wrap64 ((x2.length : Int) - 4)) : Int).toNat) aa).bind fun ac => (A0m.j1 k ac.1 ac.2 (ac.2 != 0) ad ae aa af)) else (some (([] : List (S42)), 7))))) else (none)) else (none))
def A0m.j1 : Nat → List (S42) → Int → Bool → Int → Int → Int → Int → Option ((List (S42)) × Int)
 | 0, _, _, _, _, _, _, _ => none
 | k + 1, x9, af, ag, aa, ac, ad, ae => if ag = true then (some (([] : List (S42)), af)) else (if 0 < (x9.length : Int) then (if ((A25 x9 0).f0) = aa then (if 0 ≤ (wrap64 ((x9.length : Int) - 1)) then (if (wrap64 ((x9.length : Int) - 1)) < (x9.length : Int) then (if ((A25 x9 (wrap64 ((x9.length : Int) - 1))).f0) = ac then (some (x9, 0)) else (some (([] : List (S42)), 8))) else (none)) else (none)) else (some (([] : List (S42)), 8))) else (none))
end
def A0m.f (k : Nat) (a0 : Int) (ac : Int) (ad : Int) (ae : Int) (aa : Int) (l2 : List Int) : Option ((List (S42)) × Int) := if (l2.length : Int) = aa then (A0m.j0 k a0 l2 (decide ((l2.length : Int) < 4)) ac ad ae aa) else (A0m.j0 k a0 l2 true ac ad ae aa)
def A0m.T4 : Bool × List (List Nat × List Nat) := (true, [([], []), ([], []), ([0, 1], [0, 1]), ([2], [2]), ([], []), ([], []), ([4, 5], [4, 5]), ([6, 3], [6]), ([7], [7]), ([3, 8], [3, 8])])
def A0m.B4 : List Nat := [0, 0, 3, 7, 0, 0, 48, 127, 255, 511]
theorem A0m.tab4 : rtab .any (opsOf Tryd.f29 4) = A0m.T4 := by kernel_rfl
theorem A0m.bits4 : A26 A0m.T4.2 A0m.B4 = true := by kernel_rfl
def A0m.T6 : Bool × List (List Nat × List Nat) := (true, [([], []), ([], []), ([], []), ([1, 2], [1, 2]), ([], []), ([4], [4]), ([0, 3, 5], [0, 3, 5]), ([6], [6]), ([7], [7]), ([7], [7]), ([8, 6, 0, 1, 2, 3, 4, 5, 6, 7, 8], [8]), ([9, 10, 0, 1, 2, 3, 4, 5, 6, 7, 8, 9, 10], [9])])
def A0m.B6 : List Nat := [0, 0, 0, 6, 0, 16, 63, 127, 255, 255, 511, 2047]
theorem A0m.tab6 : rtab .any (opsOf Tryd.f29 6) = A0m.T6 := by kernel_rfl
theorem A0m.bits6 : A26 A0m.T6.2 A0m.B6 = true := by kernel_rfl
def A0m.T9 : Bool × List (List Nat × List Nat) := (true, [([], []), ([0], [0]), ([1], [1]), ([2], [2]), ([], []), ([4], [4]), ([3, 5], [3, 5]), ([6], [6]), ([7], [7]), ([7], [7]), ([9, 7], [7, 9]), ([10, 7], [7, 10]), ([8, 11, 7], [7, 8, 11]), ([12, 7], [7, 12]), ([13, 7], [7, 13]), ([7], [7]), ([15, 7], [7, 15]), ([14, 16, 7], [7, 14, 16]), ([7, 17], [7, 17])])
def A0m.B9 : List Nat := [0, 1, 3, 7, 0, 16, 63, 127, 255, 255, 767, 1791, 4095, 8191, 16383, 255, 33023, 131071, 262143]
theorem A0m.tab9 : rtab .any (opsOf Tryd.f29 9) = A0m.T9 := by kernel_rfl
theorem A0m.bits9 : A26 A0m.T9.2 A0m.B9 = true := by kernel_rfl
theorem A0m.calls (k : Nat) (a0 : Int) (aw : Int) (ax : Int) (aq : Int) (ay : Int) (A2 : Option Addr) (c2 : Nat) (l2 : List Int) (r1 : List (S42)) (r2 : Int) (w : World) (hr2 : Kd.C (Kd.int .u8) w A2 l2.length l2) (hc2 : l2.length ≤ c2) (h : A0m.f k a0 aw ax aq ay l2 = some (r1, r2)) :
  Calls Tryd.prog 29 #[.int .i64 a0, .agg #[.int .i64 aw, .int .i64 ax, .int .i64 aq, .int .i64 ay], .slice A2 l2.length c2] w fun e w' => ∃ bW : Value, e = .returned (.tuple #[bW, .int .i64 r2]) ∧ Kd.R k42 42 w' w.heap.size (fun _ => True) bW r1 ∧ Below w.heap.size w w' := by
 have hu70 := Tryd.underlying70; have aW := ak hr2; have aX := ak hc2; clear hr2 hc2; have HB := ak (Below.refl w.heap.size w); have H := h; clear h; unfold A0m.f at H; have b5 := ak H; clear H
 go_enter Tryd.func29, Tryd.ntmps29
 go_upto_region 1 with (first | ((with_reducible refine A0s (N := 4) rfl ?_); (try (refine A10 (by rfl) ?_; dsimp only)); refine bxe 4 #[.int .i64 aw, .int .i64 ax, .int .i64 aq, .int .i64 ay] 70 (h := ?_); intro af hg w5 hbox hb; have aa := ak (hbox); have b6 := kG hg HB; have b7 := kG hg HB; replace HB := kH HB hb; clear hb hbox hg))
 (try simp only [Act.put, List.setIfInBounds_toArray, List.set_cons_zero, List.set_cons_succ])
 go_cut [20] (fun cs wc => ∃ (kq : Nat) (a9 : Bool), cs = .bool a9 ∧ A0b (A0m.j0 kq a0 l2 a9 aw ax aq ay = some (r1, r2)) ∧ A0b (kq ≤ k) ∧ A0b (wc.heap[af]? = some (.cells #[.int .i64 aw, .int .i64 ax, .int .i64 aq, .int .i64 ay] 70 (0, 0))) ∧ A0b (Below w.heap.size w wc))
 case first =>
  have H := b5.out; clear b5
  by_cases c6 : (l2.length : Int) = ay
  ·rw [kIp c6] at H; obtain ⟨aA, b8⟩ := kqT c6; clear c6
   (first | rw [aA] | (simp only [A2i, A2u]; rw [aA]) | skip)
   have H' := ak H; clear H; obtain ⟨b9, bA, bB, bC⟩ := kc4 aa; obtain ⟨bD, bE, bF, bG⟩ := kf4 aa
   go_wp2
   go_meet
   case rel => exact ⟨_, (decide ((l2.length : Int) < 4)), kE, H', kO, ⟨kb aa⟩, ⟨(kl HB)⟩⟩
  rw [kIn c6] at H; obtain ⟨aA, b8⟩ := kqF c6
  (first | rw [aA] | (simp only [A2i, A2u]; rw [aA]) | skip)
  have H' := ak H; clear H; obtain ⟨bH, bI, bJ, bK⟩ := kc4 aa; obtain ⟨bL, bM, bN, bO⟩ := kf4 aa
  go_wp2
  go_meet
  case rel => exact ⟨_, (true), kE, H', kO, ⟨kb aa⟩, ⟨(kl HB)⟩⟩
 case rest =>
  clear b5; obtain ⟨kq, a9, rfl, HA, ct, aa, HB⟩ := hcut
  cases kq with
  | zero => exact absurd HA.out (by simp [A0m.j0])
  | succ aU =>
   have H := HA.out; clear HA; simp only [A0m.j0] at H
   by_cases c9 : a9 = true
   ·subst c9
    rw [if_pos rfl] at H; obtain ⟨rfl, rfl⟩ := kI2 H
    go_wp2
    go_ret2
    exact ⟨_, kF, kNi, (kl HB)⟩
   replace c9 := Bool.eq_false_iff.mpr c9; subst c9
   rw [if_neg (show ¬ (false = true) by decide)] at H; obtain ⟨ji10, aj⟩ := kX (wrap64 ((l2.length : Int) - 4))
   (first | rw [aj] at H | simp only [aj] at H)
   have bP : (IntKind.i64.wrap ((l2.length : Int) - 4)) = ji10 := (A2i _).trans aj
   by_cases aY : 0 ≤ (ji10)
   ·rw [kIp aY] at H; have bX := kEt aY; have bY := kTt aY; clear aY
    by_cases aZ : (ji10) ≤ (l2.length : Int)
    ·rw [kIp aZ] at H; have bZ := kEt aZ; have ca := kTt aZ; clear aZ; replace H := bkH H; obtain ⟨aB, cc, H⟩ := H; have cf := eq_true (kD : 0 ≤ (ji10)); have cg := eq_true (kD : (ji10) ≤ (l2.length : Int)); replace H := bkH H; obtain ⟨aC, ch, H⟩ := H
     by_cases ba : aB = (IntKind.u64.wrap (aC))
     ·rw [kIp ba] at H; obtain ⟨bb, bc⟩ := kqT ba; clear ba; have ci := eq_true (kD : 0 ≤ (ji10)); have cj := eq_true (kD : (ji10) ≤ (l2.length : Int)); replace H := bkH H; obtain ⟨⟨ae, aD⟩, cu, H⟩ := H; (try dsimp only at H); have aR := ak H; clear H
      try go_wp2
      replace aa := ak (A0v aa.out); replace HB := ak (A04 HB.out); obtain ⟨cv, aH, _, aI, _⟩ := info_parts info5; obtain ⟨cw, bQ, be, bf⟩ := A3l (P := Tryd.prog) (Value.int .u8) 0 22 5 .i64 Tryd.underlying22 aH aI A2 c2 l2 (ji10) kD kD aX.out; have az := ak (Kd.A2b (h1 := fun _ => rfl) (be _ (Kd.A18 aW.out))); have a6 := ak bf; clear be bf aH aI; obtain ⟨cx, aJ, _, aK, _⟩ := info_parts info5; obtain ⟨bR, bh, bi⟩ := A27 (P := Tryd.prog) (Value.int .u8) 0 22 5 .i64 Tryd.underlying22 aJ aK A2 c2 l2 (ji10) kD kD aX.out; have a1 := ak (Kd.A2b (h1 := fun _ => rfl) (bh _ (Kd.A18 aW.out))); have a7 := ak bi; clear bh bi aJ aK
      refine A28 (n := 10) (S := fun w' => True) (ds := []) (bl 10 0) (by kernel_rfl) rfl rfl trivial (fun hHeld => ?_); refine A2j A0m.tab4 A0m.bits4 (fun HT_ HW_ => ?_)
      generalize wc.drew = aV at aa HB az a1 hHeld ⊢; refine pv 0 24 ?_; refine pv 1 25 ?_; refine pv 2 26 ?_; refine pv 4 28 ?_; refine pv 5 29 ?_; refine pv 6 30 ?_; refine one_ (i := 3) (N := some 27) (bl 10 127) rfl rfl (A2s HT_.out (by kernel_rfl)) (by decide) (fun K hK => ?_); refine goes_ Tryd.func64 (by kernel_rfl) rfl #[.slice cw (l2.drop ((ji10) : Int).toNat).length (c2 - (ji10).toNat)] (by rfl) rfl rfl (by (try simp only [List.map_toArray, List.map_cons, List.map_nil]); first | done | (rw [show (l2.drop ((ji10) : Int).toNat).length = (l2.length - (ji10).toNat) from List.length_drop] <;> rfl) | (simp only [aj]; rfl) | rfl | (simp only [List.length_drop, List.length_take]; rfl)) ?_
      with_reducible refine (A1n.calls aU _ _ (l2.drop ((ji10) : Int).toNat) aB _ ?ar ?au cc.out).mono ?_
      (case ar => exact kC (Kd.A1i az.out HB.out))
      (case au => exact a6.out)
      rintro e w' ⟨rfl, ⟨nd, rfl⟩⟩; refine ⟨_, rfl, ?_⟩; refine hK.out _ _ trivial (fun hHeld => ?_); clear hK K; refine nm (some 27) (h := ?_)
      refine one_ (i := 7) (N := some 31) (bl 10 255) rfl rfl (A2s HT_.out (by kernel_rfl)) (by decide) (fun K hK => ?_); refine goes_ Tryd.func27 (by kernel_rfl) rfl #[.slice A2 (l2.take ((ji10) : Int).toNat).length c2] (by rfl) rfl rfl (by (try simp only [List.map_toArray, List.map_cons, List.map_nil]); first | done | (rw [show (l2.take ((ji10) : Int).toNat).length = (ji10).toNat from (by rw [List.length_take]; have h_ : ((ji10) : Int) ≤ (l2.length : Int) := kD; omega)] <;> rfl) | (simp only [aj]; rfl) | rfl | (simp only [List.length_drop, List.length_take]; rfl)) ?_
      with_reducible refine (A09.calls aU _ _ (l2.take ((ji10) : Int).toNat) aC _ ?ar ?au ch.out).mono ?_
      (case ar => exact kC (Kd.A1i a1.out (kl HB)))
      (case au => exact a7.out)
      rintro e w' ⟨rfl, ⟨nd, rfl⟩⟩; refine ⟨_, rfl, ?_⟩; refine hK.out _ _ trivial (fun hHeld => ?_); clear hK K; refine nm (some 31) (h := ?_)
      refine pv 8 32 ?_; refine pv 9 33 ?_; refine A3u (A22 HT_.out (by kernel_rfl)) ?_
      try go_wp2
      (repeat (rw [A3c aV]; generalize hq_ : World.drewN aV _ = aV; have ck : A0b (aV.heap[af]? = some (.cells #[.int .i64 aw, .int .i64 ax, .int .i64 aq, .int .i64 ay] 70 (0, 0))) := ⟨by rw [← hq_]; exact (kb aa)⟩; have cm : A0b (Below w.heap.size w aV) := ⟨by rw [← hq_]; exact (kl HB)⟩; clear aa HB hq_; have aa := ck; have HB := cm; clear ck cm))
      replace aa := ak (A0v aa.out); replace HB := ak (A04 HB.out); obtain ⟨cy, aL, _, aM, _⟩ := info_parts info5; obtain ⟨bS, bj, bk⟩ := A27 (P := Tryd.prog) (Value.int .u8) 0 22 5 .i64 Tryd.underlying22 aL aM A2 c2 l2 (ji10) kD kD aX.out; have aE := ak (Kd.A2b (h1 := fun _ => rfl) (bj _ (Kd.A18 aW.out))); have aS := ak bk; clear bj bk aL aM
      refine A28 (n := 12) (S := fun w' => w'.cell? ⟨af, 0, none⟩ = some (.int .i64 aw) ∧ w'.cell? ⟨af, 1, none⟩ = some (.int .i64 ax) ∧ w'.cell? ⟨af, 2, none⟩ = some (.int .i64 aq) ∧ w'.cell? ⟨af, 3, none⟩ = some (.int .i64 ay)) (ds := []) (bl 12 0) (by kernel_rfl) rfl rfl kz (fun hHeld => ?_); refine A2j A0m.tab6 A0m.bits6 (fun HT_ HW_ => ?_)
      generalize aV.drew = cM at aa HB aE hHeld ⊢; refine pv 0 35 ?_; refine pv 1 36 ?_; refine pv 2 37 ?_; refine pv 3 38 ?_; refine pv 4 39 ?_; refine ta 5 (some 40) (bl 12 63) (h := ?_); refine one_ (i := 6) (N := some 41) (bl 12 127) rfl rfl (A2s HT_.out (by kernel_rfl)) (by decide) (fun K hK => ?_); refine goes_ Tryd.func65 (by kernel_rfl) rfl #[.int .i64 a0, .slice A2 (l2.take ((ji10) : Int).toNat).length c2, .int .i64 aq] (by rfl) rfl rfl (by (try simp only [List.map_toArray, List.map_cons, List.map_nil]); first | done | (rw [show (l2.take ((ji10) : Int).toNat).length = (ji10).toNat from (by rw [List.length_take]; have h_ : ((ji10) : Int) ≤ (l2.length : Int) := kD; omega)] <;> rfl) | (simp only [aj]; rfl) | rfl | (simp only [List.length_drop, List.length_take]; rfl)) ?_
      with_reducible refine (A01.calls aU a0 _ _ (l2.take ((ji10) : Int).toNat) aq ae aD _ ?ar ?au cu.out).mono ?_
      (case ar => exact kC (Kd.A1i aE.out HB.out))
      (case au => exact aS.out)
      rintro e cN ⟨bm, rfl, ho0, hb⟩; refine ⟨_, rfl, ?_⟩; have aT := ak (Kd.A2l ho0 (A0t (kl HB))); replace aa := kB aa hb; replace HB := kH HB hb; refine hK.out _ _ kz (fun hHeld => ?_); clear hK K; refine nm (some 41) (h := ?_)
      refine pv 7 34 ?_; refine pv 8 42 ?_; refine pv 9 43 ?_; refine pv 10 9 ?_; refine pv 11 10 ?_; refine A3u (A22 HT_.out (by kernel_rfl)) ?_
      go_upto_region 7 with (fail)
      go_cut [45] (fun cz wc => ∃ (kq : Nat) (a3 : Bool), cz = .bool a3 ∧ A0b (A0m.j1 kq ae aD a3 aw ax aq ay = some (r1, r2)) ∧ A0b (kq ≤ aU) ∧ A0b (Kd.R k42 42 wc w.heap.size (fun _ => True) bm ae) ∧ A0b (wc.heap[af]? = some (.cells #[.int .i64 aw, .int .i64 ax, .int .i64 aq, .int .i64 ay] 70 (0, 0))) ∧ A0b (Below w.heap.size w wc))
      case first =>
       have H := aR.out; clear aR; have H' := ak H; clear H
       go_wp2
       go_meet
       case rel => exact ⟨_, ((aD != 0)), kE, H', ⟨by have := ct.out; first | omega | exact Nat.le_refl _⟩, ⟨kr aT⟩, ⟨kb aa⟩, ⟨(kl HB)⟩⟩
      case rest =>
       clear aR; obtain ⟨kq, a3, rfl, HA, cA, HO_9, aa, HB⟩ := hcut
       cases kq with
       | zero => exact absurd HA.out (by simp [A0m.j1])
       | succ cB =>
        have H := HA.out; clear HA; simp only [A0m.j1] at H
        by_cases b1 : a3 = true
        ·subst b1
         rw [if_pos rfl] at H; obtain ⟨rfl, rfl⟩ := kI2 H
         go_wp2
         go_ret2
         exact ⟨_, by first | rfl | (simp [A0i, A0j] <;> rfl) | (simp only [← aj]; first | rfl | (simp [A0i, A0j] <;> rfl)) | (simp [*, A0i, A0j] <;> rfl), kNi, (kl HB)⟩
        replace b1 := Bool.eq_false_iff.mpr b1; subst b1
        rw [if_neg (show ¬ (false = true) by decide)] at H
        by_cases b2 : 0 < (ae.length : Int)
        ·rw [kIp b2] at H; have co := kTt b2; have cp : decide (0 < ae.length) = true := kTt (by omega); clear b2
         by_cases bn : ((A25 ae 0).f0) = aw
         ·rw [kIp bn] at H; obtain ⟨bo, bp⟩ := kqT bn; clear bn; obtain ⟨al, a4⟩ := kX (wrap64 ((ae.length : Int) - 1))
          (first | rw [a4] at H | simp only [a4] at H)
          have bT : (IntKind.i64.wrap ((ae.length : Int) - 1)) = al := (A2i _).trans a4
          by_cases b3 : 0 ≤ (al)
          ·rw [kIp b3] at H; have cq := kTt b3; clear b3
           by_cases b4 : (al) < (ae.length : Int)
           ·rw [kIp b4] at H; have cr := kTt b4; clear b4
            by_cases bq : ((A25 ae (al)).f0) = ax
            ·rw [kIp bq] at H; obtain ⟨br, bs⟩ := kqT bq; clear bq; obtain ⟨rfl, rfl⟩ := kI2 H
             try go_wp2
             replace HO_9 := ak (Kd.A02 HO_9.out); replace aa := ak (A0v aa.out); replace HB := ak (A04 HB.out); obtain ⟨cC, cD, bt⟩ := Kd.A11 HO_9.out
             (first | subst bt | (injection bt with f1_ f2_ f3_; have f4_ := f1_.symm; have f5_ := f3_.symm; clear f1_ f2_ f3_; subst f4_; subst f5_))
             have am : 0 ≤ (0 : Int) := (by omega); have ai : 0 < (ae.length : Int) := kD; obtain ⟨ag, a5, ac, ad⟩ := at_T42 (Kd.A0y HO_9.out).2.2 0 am ai
             cases a5
             have aF : (0 < ae.length) = True := eq_true (by omega); (try rw [show ((0 : Int)).toNat = 0 from rfl] at ac); (try rw [show 0 * 2 = 0 from rfl] at ac); (try rw [Addr.add_zero'] at ac); (try rw [show ((0 : Int)).toNat = 0 from rfl] at ad); (try rw [show 0 * 2 = 0 from rfl] at ad); (try rw [Addr.add_zero'] at ad); replace am := kEt am
             (try (have ah := ai; simp only [List.length_drop, List.length_take] at ah; replace ah := kEt ah)); replace ai := kEt ai
             have a2 : 0 ≤ ((al) : Int) := kD; have av : (al) < (ae.length : Int) := kD; obtain ⟨a8, aG, an, ao⟩ := at_T42 (Kd.A0y HO_9.out).2.2 (al) a2 av; obtain rfl : ag = a8 := (by injection aG); replace a2 := kEt a2
             (try (have ap := av; simp only [List.length_drop, List.length_take] at ap; replace ap := kEt ap)); replace av := kEt av
             refine A28 (n := 19) (S := fun w' => w'.cell? ⟨af, 0, none⟩ = some (.int .i64 aw) ∧ w'.cell? ⟨af, 1, none⟩ = some (.int .i64 ax) ∧ w'.cell? ⟨af, 2, none⟩ = some (.int .i64 aq) ∧ w'.cell? ⟨af, 3, none⟩ = some (.int .i64 ay) ∧ w'.cell? ag = some (.int .i64 ((A25 ae 0).f0)) ∧ w'.cell? ⟨ag.block, ag.off + 1, none⟩ = some (.int .u64 ((A25 ae 0).f1)) ∧ w'.cell? (ag.add (((al)).toNat * 2)) = some (.int .i64 ((A25 ae (al)).f0)) ∧ w'.cell? ⟨(ag.add (((al)).toNat * 2)).block, (ag.add (((al)).toNat * 2)).off + 1, none⟩ = some (.int .u64 ((A25 ae (al)).f1))) (ds := []) (bl 19 0) (by kernel_rfl) rfl rfl ⟨(A16 aa.out 0).trans rfl, (A16 aa.out 1).trans rfl, (A16 aa.out 2).trans rfl, (A16 aa.out 3).trans rfl, ac, ad, an, ao⟩ (fun hHeld => ?_); refine A2j A0m.tab9 A0m.bits9 (fun HT_ HW_ => ?_)
             generalize wc.drew = cO at HO_9 aa HB ac ad an ao hHeld ⊢; refine pv 0 47 ?_; refine pv 1 48 ?_; refine pv 2 49 ?_; refine pv 4 51 ?_; refine ta 3 (some 50) (bl 19 31) (h := ?_); refine ta 5 (some 52) (bl 19 63) (h := ?_); refine pv 6 53 ?_; refine pv 7 54 ?_; refine pv 8 55 ?_; refine pv 9 56 ?_; refine pv 10 57 ?_; refine pv 11 58 ?_; refine pv 12 59 ?_; refine pv 13 60 ?_; refine pv 15 62 ?_; refine ta 14 (some 61) (bl 19 65535) (h := ?_); refine ta 16 (some 63) (bl 19 131071) (h := ?_); refine pv 17 64 ?_; refine pv 18 65 ?_; refine A3u (A22 HT_.out (by kernel_rfl)) ?_
             try go_wp2
             go_ret2
             exact ⟨_, by first | rfl | (simp [A0i, A0j] <;> rfl) | (simp only [← aj, ← a4]; first | rfl | (simp [A0i, A0j] <;> rfl)) | (simp [*, A0i, A0j] <;> rfl), by (with_reducible repeat (first | apply Kd.R_alloc | apply Kd.A00 | apply Kd.A02)); exact HO_9.out, (kl HB)⟩
            rw [kIn bq] at H; obtain ⟨br, bs⟩ := kqF bq; obtain ⟨rfl, rfl⟩ := kI2 H
            try go_wp2
            replace HO_9 := ak (Kd.A02 HO_9.out); replace aa := ak (A0v aa.out); replace HB := ak (A04 HB.out); obtain ⟨cF, cG, bu⟩ := Kd.A11 HO_9.out
            (first | subst bu | (injection bu with f1_ f2_ f3_; have f4_ := f1_.symm; have f5_ := f3_.symm; clear f1_ f2_ f3_; subst f4_; subst f5_))
            have am : 0 ≤ (0 : Int) := (by omega); have ai : 0 < (ae.length : Int) := kD; obtain ⟨ag, a5, ac, ad⟩ := at_T42 (Kd.A0y HO_9.out).2.2 0 am ai
            cases a5
            have aF : (0 < ae.length) = True := eq_true (by omega); (try rw [show ((0 : Int)).toNat = 0 from rfl] at ac); (try rw [show 0 * 2 = 0 from rfl] at ac); (try rw [Addr.add_zero'] at ac); (try rw [show ((0 : Int)).toNat = 0 from rfl] at ad); (try rw [show 0 * 2 = 0 from rfl] at ad); (try rw [Addr.add_zero'] at ad); replace am := kEt am
            (try (have ah := ai; simp only [List.length_drop, List.length_take] at ah; replace ah := kEt ah)); replace ai := kEt ai
            have a2 : 0 ≤ ((al) : Int) := kD; have av : (al) < (ae.length : Int) := kD; obtain ⟨a8, aG, an, ao⟩ := at_T42 (Kd.A0y HO_9.out).2.2 (al) a2 av; obtain rfl : ag = a8 := (by injection aG); replace a2 := kEt a2
            (try (have ap := av; simp only [List.length_drop, List.length_take] at ap; replace ap := kEt ap)); replace av := kEt av
            refine A28 (n := 19) (S := fun w' => w'.cell? ⟨af, 0, none⟩ = some (.int .i64 aw) ∧ w'.cell? ⟨af, 1, none⟩ = some (.int .i64 ax) ∧ w'.cell? ⟨af, 2, none⟩ = some (.int .i64 aq) ∧ w'.cell? ⟨af, 3, none⟩ = some (.int .i64 ay) ∧ w'.cell? ag = some (.int .i64 ((A25 ae 0).f0)) ∧ w'.cell? ⟨ag.block, ag.off + 1, none⟩ = some (.int .u64 ((A25 ae 0).f1)) ∧ w'.cell? (ag.add (((al)).toNat * 2)) = some (.int .i64 ((A25 ae (al)).f0)) ∧ w'.cell? ⟨(ag.add (((al)).toNat * 2)).block, (ag.add (((al)).toNat * 2)).off + 1, none⟩ = some (.int .u64 ((A25 ae (al)).f1))) (ds := []) (bl 19 0) (by kernel_rfl) rfl rfl ⟨(A16 aa.out 0).trans rfl, (A16 aa.out 1).trans rfl, (A16 aa.out 2).trans rfl, (A16 aa.out 3).trans rfl, ac, ad, an, ao⟩ (fun hHeld => ?_); refine A2j A0m.tab9 A0m.bits9 (fun HT_ HW_ => ?_)
            generalize wc.drew = cP at HO_9 aa HB ac ad an ao hHeld ⊢; refine pv 0 47 ?_; refine pv 1 48 ?_; refine pv 2 49 ?_; refine pv 4 51 ?_; refine ta 3 (some 50) (bl 19 31) (h := ?_); refine ta 5 (some 52) (bl 19 63) (h := ?_); refine pv 6 53 ?_; refine pv 7 54 ?_; refine pv 8 55 ?_; refine pv 9 56 ?_; refine pv 10 57 ?_; refine pv 11 58 ?_; refine pv 12 59 ?_; refine pv 13 60 ?_; refine pv 15 62 ?_; refine ta 14 (some 61) (bl 19 65535) (h := ?_); refine ta 16 (some 63) (bl 19 131071) (h := ?_); refine pv 17 64 ?_; refine pv 18 65 ?_; refine A3u (A22 HT_.out (by kernel_rfl)) ?_
            try go_wp2
            go_ret2
            exact ⟨_, by first | rfl | (simp [A0i, A0j] <;> rfl) | (simp only [← aj, ← a4]; first | rfl | (simp [A0i, A0j] <;> rfl)) | (simp [*, A0i, A0j] <;> rfl), kNi, (kl HB)⟩
           exact (kA b4 H).elim
          exact (kA b3 H).elim
         rw [kIn bn] at H; obtain ⟨bo, bp⟩ := kqF bn; obtain ⟨rfl, rfl⟩ := kI2 H
         try go_wp2
         replace HO_9 := ak (Kd.A02 HO_9.out); replace aa := ak (A0v aa.out); replace HB := ak (A04 HB.out); obtain ⟨cH, cI, bv⟩ := Kd.A11 HO_9.out
         (first | subst bv | (injection bv with f1_ f2_ f3_; have f4_ := f1_.symm; have f5_ := f3_.symm; clear f1_ f2_ f3_; subst f4_; subst f5_))
         have am : 0 ≤ (0 : Int) := (by omega); have ai : 0 < (ae.length : Int) := kD; obtain ⟨ag, a5, ac, ad⟩ := at_T42 (Kd.A0y HO_9.out).2.2 0 am ai
         cases a5
         have aF : (0 < ae.length) = True := eq_true (by omega); (try rw [show ((0 : Int)).toNat = 0 from rfl] at ac); (try rw [show 0 * 2 = 0 from rfl] at ac); (try rw [Addr.add_zero'] at ac); (try rw [show ((0 : Int)).toNat = 0 from rfl] at ad); (try rw [show 0 * 2 = 0 from rfl] at ad); (try rw [Addr.add_zero'] at ad); replace am := kEt am
         (try (have ah := ai; simp only [List.length_drop, List.length_take] at ah; replace ah := kEt ah)); replace ai := kEt ai
         refine A28 (n := 19) (S := fun w' => w'.cell? ⟨af, 0, none⟩ = some (.int .i64 aw) ∧ w'.cell? ⟨af, 1, none⟩ = some (.int .i64 ax) ∧ w'.cell? ⟨af, 2, none⟩ = some (.int .i64 aq) ∧ w'.cell? ⟨af, 3, none⟩ = some (.int .i64 ay) ∧ w'.cell? ag = some (.int .i64 ((A25 ae 0).f0)) ∧ w'.cell? ⟨ag.block, ag.off + 1, none⟩ = some (.int .u64 ((A25 ae 0).f1))) (ds := []) (bl 19 0) (by kernel_rfl) rfl rfl ⟨(A16 aa.out 0).trans rfl, (A16 aa.out 1).trans rfl, (A16 aa.out 2).trans rfl, (A16 aa.out 3).trans rfl, ac, ad⟩ (fun hHeld => ?_); refine A2j A0m.tab9 A0m.bits9 (fun HT_ HW_ => ?_)
         generalize wc.drew = cQ at HO_9 aa HB ac ad hHeld ⊢; refine pv 0 47 ?_; refine pv 1 48 ?_; refine pv 2 49 ?_; refine pv 4 51 ?_; refine ta 3 (some 50) (bl 19 31) (h := ?_); refine ta 5 (some 52) (bl 19 63) (h := ?_); refine pv 6 53 ?_; refine pv 7 54 ?_; refine po 8 (some 55) (bl 19 511) (h := ?_)
         refine po 9 (some 56) (bl 19 1023) (h := ?_)
         refine po 10 (some 57) (bl 19 2047) (h := ?_)
         refine po 11 (some 58) (bl 19 4095) (h := ?_)
         refine po 12 (some 59) (bl 19 8191) (h := ?_)
         refine po 13 (some 60) (bl 19 16383) (h := ?_)
         refine po 14 (some 61) (bl 19 32767) (h := ?_)
         refine po 15 (some 62) (bl 19 65535) (h := ?_)
         refine po 16 (some 63) (bl 19 131071) (h := ?_)
         refine po 17 (some 64) (bl 19 262143) (h := ?_)
         refine pv 18 65 ?_; refine A3u (A22 HT_.out (by kernel_rfl)) ?_
         try go_wp2
         go_ret2
         exact ⟨_, by first | rfl | (simp [A0i, A0j] <;> rfl) | (simp only [← aj]; first | rfl | (simp [A0i, A0j] <;> rfl)) | (simp [*, A0i, A0j] <;> rfl), kNi, (kl HB)⟩
        exact (kA b2 H).elim
     rw [kIn ba] at H; obtain ⟨bb, bc⟩ := kqF ba; obtain ⟨rfl, rfl⟩ := kI2 H
     try go_wp2
     replace aa := ak (A0v aa.out); replace HB := ak (A04 HB.out); obtain ⟨cJ, aN, _, aO, _⟩ := info_parts info5; obtain ⟨cK, bU, bw, bx⟩ := A3l (P := Tryd.prog) (Value.int .u8) 0 22 5 .i64 Tryd.underlying22 aN aO A2 c2 l2 (ji10) kD kD aX.out; have az := ak (Kd.A2b (h1 := fun _ => rfl) (bw _ (Kd.A18 aW.out))); have a6 := ak bx; clear bw bx aN aO; obtain ⟨cL, aP, _, aQ, _⟩ := info_parts info5; obtain ⟨bV, bz, b0⟩ := A27 (P := Tryd.prog) (Value.int .u8) 0 22 5 .i64 Tryd.underlying22 aP aQ A2 c2 l2 (ji10) kD kD aX.out; have a1 := ak (Kd.A2b (h1 := fun _ => rfl) (bz _ (Kd.A18 aW.out))); have a7 := ak b0; clear bz b0 aP aQ
     refine A28 (n := 10) (S := fun w' => True) (ds := []) (bl 10 0) (by kernel_rfl) rfl rfl trivial (fun hHeld => ?_); refine A2j A0m.tab4 A0m.bits4 (fun HT_ HW_ => ?_)
     generalize wc.drew = cR at aa HB az a1 hHeld ⊢; refine pv 0 24 ?_; refine pv 1 25 ?_; refine pv 2 26 ?_; refine pv 4 28 ?_; refine pv 5 29 ?_; refine pv 6 30 ?_; refine one_ (i := 3) (N := some 27) (bl 10 127) rfl rfl (A2s HT_.out (by kernel_rfl)) (by decide) (fun K hK => ?_); refine goes_ Tryd.func64 (by kernel_rfl) rfl #[.slice cK (l2.drop ((ji10) : Int).toNat).length (c2 - (ji10).toNat)] (by rfl) rfl rfl (by (try simp only [List.map_toArray, List.map_cons, List.map_nil]); first | done | (rw [show (l2.drop ((ji10) : Int).toNat).length = (l2.length - (ji10).toNat) from List.length_drop] <;> rfl) | (simp only [aj]; rfl) | rfl | (simp only [List.length_drop, List.length_take]; rfl)) ?_
     with_reducible refine (A1n.calls aU _ _ (l2.drop ((ji10) : Int).toNat) aB _ ?ar ?au cc.out).mono ?_
     (case ar => exact kC (Kd.A1i az.out HB.out))
     (case au => exact a6.out)
     rintro e w' ⟨rfl, ⟨nd, rfl⟩⟩; refine ⟨_, rfl, ?_⟩; refine hK.out _ _ trivial (fun hHeld => ?_); clear hK K; refine nm (some 27) (h := ?_)
     refine one_ (i := 7) (N := some 31) (bl 10 255) rfl rfl (A2s HT_.out (by kernel_rfl)) (by decide) (fun K hK => ?_); refine goes_ Tryd.func27 (by kernel_rfl) rfl #[.slice A2 (l2.take ((ji10) : Int).toNat).length c2] (by rfl) rfl rfl (by (try simp only [List.map_toArray, List.map_cons, List.map_nil]); first | done | (rw [show (l2.take ((ji10) : Int).toNat).length = (ji10).toNat from (by rw [List.length_take]; have h_ : ((ji10) : Int) ≤ (l2.length : Int) := kD; omega)] <;> rfl) | (simp only [aj]; rfl) | rfl | (simp only [List.length_drop, List.length_take]; rfl)) ?_
     with_reducible refine (A09.calls aU _ _ (l2.take ((ji10) : Int).toNat) aC _ ?ar ?au ch.out).mono ?_
     (case ar => exact kC (Kd.A1i a1.out (kl HB)))
     (case au => exact a7.out)
     rintro e w' ⟨rfl, ⟨nd, rfl⟩⟩; refine ⟨_, rfl, ?_⟩; refine hK.out _ _ trivial (fun hHeld => ?_); clear hK K; refine nm (some 31) (h := ?_)
     refine pv 8 32 ?_; refine pv 9 33 ?_; refine A3u (A22 HT_.out (by kernel_rfl)) ?_
     try go_wp2
     go_ret2
     exact ⟨_, by first | rfl | (simp [A0i, A0j] <;> rfl) | (simp only [← aj]; first | rfl | (simp [A0i, A0j] <;> rfl)) | (simp [*, A0i, A0j] <;> rfl), kNi, (kl HB)⟩
    exact (kA aZ H).elim
   exact (kA aY H).elim
end Go.Proofs.YtodocfjbpkicgaaDoor.All
