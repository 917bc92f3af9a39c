-- copied by a program of the session
import Derived.Test.YtodocfjbpkicgaaDoorKwAllx24
set_option linter.unusedSimpArgs false
set_option linter.unusedVariables false
set_option maxHeartbeats 8000000
set_option maxRecDepth 100000
namespace Go.Proofs.YtodocfjbpkicgaaDoor.All
open Go.RowKit Go.Zw Go.Zl Go.Zm
attribute [local go_sem] A2h A2r
mutual
def A0h.j0 : Nat → List Int → Int → Int → Int → Int → Int → Int → Option (Int × Int × Int × Int × Int × Int)
 | 0, _, _, _, _, _, _, _ => none
 | k + 1, x1, x8, x9, ae, aa, ac, ad => if x9 = 0 then (A0h.j1 k x1 x8 x9 ae true aa ac ad) else (A0h.j1 k x1 x8 x9 ae (decide ((wrap64 (x8 + x9)) > 64)) aa ac ad)
def A0h.j1 : Nat → List Int → Int → Int → Int → Bool → Int → Int → Int → Option (Int × Int × Int × Int × Int × Int)
 | 0, _, _, _, _, _, _, _, _ => none
 | k + 1, x1, x8, x9, ad, aj, ac, ae, af => if aj = true then (some (0, 0, 0, 0, 0, 3)) else (if (x1.length : Int) < (wrap64 (ad + x9)) then (some (0, 0, 0, 0, 0, 2)) else (if 0 ≤ x8 then (if (x8 : Int).toNat ≤ 281474976710656 then ((some (List.replicate (x8 : Int).toNat 0 : List Int)).bind fun ah => (if 0 ≤ ad then (if ad ≤ (wrap64 (ad + x9)) then (if (wrap64 (ad + x9)) ≤ (x1.length : Int) then (if ah.length + ((x1.take ((wrap64 (ad + x9)) : Int).toNat).drop (ad : Int).toNat).length < 140737488355328 then ((some (ah ++ ((x1.take ((wrap64 (ad + x9)) : Int).toNat).drop (ad : Int).toNat) : List Int)).bind fun ai => (if 0 ≤ (wrap64 ((wrap64 (64 - x8)) - x9)) then (if ai.length + (wrap64 ((wrap64 (64 - x8)) - x9) : Int).toNat < 140737488355328 then ((A0u.f k (ai ++ List.replicate (wrap64 ((wrap64 (64 - x8)) - x9) : Int).toNat 0)).bind fun ag => ((A0o.f k ac ae af (Go.bits .xor .u64 ac ag)).bind fun aa => (if (aa.1.length : Int) = (wrap64 (ad + x9)) then (if 0 ≤ (wrap64 (ad + x9)) then (A0h.j2 k (Go.bits .xor .u64 ac ag) aa.1 ((strOfNums aa.1).toList != (strOfNums (x1.take ((wrap64 (ad + x9)) : Int).toNat)).toList) aa.2.1 aa.2.2.1 aa.2.2.2) else (none)) else (A0h.j2 k (Go.bits .xor .u64 ac ag) aa.1 true aa.2.1 aa.2.2.1 aa.2.2.2)))) else (none)) else (none))) else (none)) else (none)) else (none)) else (none))) else (none)) else (none)))
def A0h.j2 : Nat → Int → List Int → Bool → Int → Int → Int → Option (Int × Int × Int × Int × Int × Int)
 | 0, _, _, _, _, _, _ => none
 | k + 1, af, ag, ae, aa, ac, ad => if ae = true then (some (0, 0, 0, 0, 0, 3)) else (some (af, aa, ac, ad, (ag.length : Int), 0))
end
def A0h.f (k : Nat) (aa : Int) (a0_1 : Int) (ac : Int) (l1 : List Int) : Option (Int × Int × Int × Int × Int × Int) := if (l1.length : Int) = 0 then (some (0, 0, 0, 0, 0, 2)) else (if 0 < (l1.length : Int) then (if (rd l1 0) = 0 then (some (aa, aa, a0_1, ac, 1, 0)) else (if (l1.length : Int) = 1 then (some (0, 0, 0, 0, 0, 2)) else (if 1 < (l1.length : Int) then (if (rd l1 1) = 1 then (if (l1.length : Int) < 14 then (some (0, 0, 0, 0, 0, 2)) else (if 2 ≤ 8 then (if 8 ≤ (l1.length : Int) then ((A0u.f k ((l1.take 8).drop 2)).bind fun ad => (if 8 ≤ 14 then (if 14 ≤ (l1.length : Int) then ((A0u.f k ((l1.take 14).drop 8)).bind fun ae => (A0h.j0 k l1 (wrap64 (ad)) (wrap64 ((wrap64 (ae)) + 1)) 14 aa a0_1 ac)) else (none)) else (none))) else (none)) else (none))) else (A0h.j0 k l1 a0_1 ac 2 aa a0_1 ac)) else (none)))) else (none))
def A0h.T20 : Bool × List (List Nat × List Nat) := (true, [([], []), ([0, 0], [0]), ([], []), ([], []), ([], []), ([], []), ([4, 5], [4, 5]), ([2, 3, 6], [2, 3, 6]), ([1, 7], [1, 7]), ([8, 8, 0, 1, 2, 3, 4, 5, 6, 7, 8], [8])])
def A0h.B20 : List Nat := [0, 1, 0, 0, 0, 0, 48, 124, 255, 511]
theorem A0h.tab20 : rtab .any (opsOf Tryd.f48 20) = A0h.T20 := by kernel_rfl
theorem A0h.bits20 : A26 A0h.T20.2 A0h.B20 = true := by kernel_rfl
def A0h.T24 : Bool × List (List Nat × List Nat) := (true, [([], []), ([0], [0]), ([], []), ([], []), ([2, 3], [2, 3]), ([1, 4], [1, 4]), ([5], [5]), ([6], [6]), ([7, 6], [6, 7]), ([6], [6]), ([6], [6]), ([6], [6]), ([10, 11, 6], [6, 10, 11]), ([9, 12, 6], [6, 9, 12]), ([13, 6], [6, 13]), ([8, 14, 6], [6, 8, 14]), ([6, 15], [6, 15])])
def A0h.B24 : List Nat := [0, 1, 0, 0, 12, 31, 63, 127, 255, 127, 127, 127, 3199, 7807, 15999, 32767, 65535]
theorem A0h.tab24 : rtab .any (opsOf Tryd.f48 24) = A0h.T24 := by kernel_rfl
theorem A0h.bits24 : A26 A0h.T24.2 A0h.B24 = true := by kernel_rfl
def A0h.T26 : Bool × List (List Nat × List Nat) := (true, [([], []), ([], []), ([], []), ([2], [2]), ([0, 0], [0]), ([1, 4, 0, 1, 4], [1]), ([3, 5, 0, 1, 2, 3, 4, 5], [3]), ([6, 0, 1, 2, 3, 4, 5, 6], [])])
def A0h.B26 : List Nat := [0, 0, 0, 4, 1, 19, 63, 127]
theorem A0h.tab26 : rtab .any (opsOf Tryd.f48 26) = A0h.T26 := by kernel_rfl
theorem A0h.bits26 : A26 A0h.T26.2 A0h.B26 = true := by kernel_rfl
theorem A0h.calls (k : Nat) (an : Int) (a0_1 : Int) (ax : Int) (A1 : Option Addr) (c1 : Nat) (l1 : List Int) (r1 : Int) (r2 : Int) (r3 : Int) (r4 : Int) (r5 : Int) (r6 : Int) (w : World) (hr1 : Kd.C (Kd.int .u8) w A1 l1.length l1) (hc1 : l1.length ≤ c1) (h : A0h.f k an a0_1 ax l1 = some (r1, r2, r3, r4, r5, r6)) :
  Calls Tryd.prog 48 #[.agg #[.int .u64 an, .int .i64 a0_1, .int .i64 ax], .slice A1 l1.length c1] w fun e w' => e = .returned (.tuple #[.int .u64 r1, .agg #[.int .u64 r2, .int .i64 r3, .int .i64 r4], .int .i64 r5, .int .i64 r6]) ∧ Below w.heap.size w w' := by
 have hu33 := Tryd.underlying33; have b0 := ak hr1; have cO := ak hc1; clear hr1 hc1; have HB := ak (Below.refl w.heap.size w); have H := h; clear h; unfold A0h.f at H
 by_cases c3 : (l1.length : Int) = 0
 ·rw [kIp c3] at H; obtain ⟨dX, dY⟩ := kqT c3; clear c3; simp only [Option.some.injEq, Prod.mk.injEq] at H; obtain ⟨rfl, rfl, rfl, rfl, rfl, rfl⟩ := H
  go_enter Tryd.func48, Tryd.ntmps48
  go_wp2_with (first | ((with_reducible refine A0s (N := 2) rfl ?_); refine bxe 2 #[.int .u64 an, .int .i64 a0_1, .int .i64 ax] 33 (h := ?_); intro aw hg w4 hbox hb; have ac := ak (hbox); have bn := kG hg HB; have aP := kG hg HB; replace HB := kH HB hb; clear hb hbox hg) | ((with_reducible refine A0s (N := 5) rfl ?_); refine bxe 5 #[.int .u64 0, .int .i64 0, .int .i64 0] 33 (h := ?_); intro au hg w5 hbox hb; have aa := ak (hbox); have bo := kG hg HB; have aQ := kG hg HB; replace HB := kH HB hb; obtain ⟨ag, ah⟩ := kN hg ac; replace ac := kB ac hb; clear hb hbox hg; have fq := ah.out; have fs := ag.out; obtain ⟨dZ, ea, eb⟩ := kc3 aa; obtain ⟨ec, ed, ee⟩ := kf3 aa))
  refine bodyPost_ret (A1c (rs := [.tmp 4, .cell 5 33, .tmp 6, .tmp 7]) rfl (by simp) (.tmp (.cell au 33 #[.int .u64 0, .int .i64 0, .int .i64 0] (0, 0) _ rfl (kb aa) Tryd.underlying33 rfl (by kernel_rfl) (.tmp (.tmp .nil))))) rfl ?_
  exact ⟨kF, (kl HB)⟩
 rw [kIn c3] at H; obtain ⟨dX, dY⟩ := kqF c3
 have ft : ¬ (l1 = []) := fun h_ => c3 (by rw [h_]; rfl)
 by_cases c8 : 0 < (l1.length : Int)
 ·rw [kIp c8] at H; have fu := kTt c8; have fv : decide (0 < l1.length) = true := kTt (by omega); clear c8
  by_cases c9 : (rd l1 0) = 0
  ·rw [kIp c9] at H; obtain ⟨ef, eg⟩ := kqT c9; clear c9; simp only [Option.some.injEq, Prod.mk.injEq] at H; obtain ⟨rfl, rfl, rfl, rfl, rfl, rfl⟩ := H
   go_enter Tryd.func48, Tryd.ntmps48
   try go_wp2_with (first | ((with_reducible refine A0s (N := 2) rfl ?_); refine bxe 2 #[.int .u64 an, .int .i64 a0_1, .int .i64 ax] 33 (h := ?_); intro aw hg fN hbox hb; have ac := ak (hbox); have bn := kG hg HB; have aP := kG hg HB; replace HB := kH HB hb; clear hb hbox hg) | ((with_reducible refine A0s (N := 5) rfl ?_); refine bxe 5 #[.int .u64 0, .int .i64 0, .int .i64 0] 33 (h := ?_); intro au hg fw hbox hb; have aa := ak (hbox); have bo := kG hg HB; have aQ := kG hg HB; replace HB := kH HB hb; obtain ⟨ag, ah⟩ := kN hg ac; replace ac := kB ac hb; clear hb hbox hg; have aH : 0 ≤ (0 : Int) := (by omega); have a4 : 0 < (l1.length : Int) := kD; obtain ⟨a5, bp, ai⟩ := Kd.A2y b0.out 0 aH a4; cases bp; have b1 : (0 < l1.length) = True := eq_true (by omega); (try rw [show ((0 : Int)).toNat = 0 from rfl] at ai); (try rw [Addr.add_zero'] at ai); replace ai := (HB.out.cell (World.block_lt_of_cell? w _ ai)).trans ai; replace aH := kEt aH; (try (have az := a4; simp only [List.length_drop, List.length_take] at az; replace az := kEt az)); replace a4 := kEt a4))
   replace ac := ak (A0v ac.out); replace aa := ak (A0v aa.out); replace HB := ak (A04 HB.out); refine A28 (n := 7) (S := fun w' => w'.cell? ⟨aw, 0, none⟩ = some (.int .u64 an) ∧ w'.cell? ⟨aw, 1, none⟩ = some (.int .i64 a0_1) ∧ w'.cell? ⟨aw, 2, none⟩ = some (.int .i64 ax)) (ds := []) (bl 7 0) (by kernel_rfl) rfl rfl kz (fun hHeld => ?_); generalize fw.drew = fO at ac aa HB hHeld ⊢; refine pv 0 23 ?_; refine ta 1 (some 24) (bl 7 3) (h := ?_); refine pv 3 4 ?_; refine ta 2 (some 25) (bl 7 15) (h := ?_); refine one_ (i := 4) (N := none) (bl 7 31) rfl rfl (by kernel_rfl) (by decide) (fun K hK => ?_); have fx := (kc3 aa).1; have ew := A0d aa.out 0; have cP := ag.out; have cQ := ah.out; have fy := (kc3 aa).2.1; have ex := A0d aa.out 1; have fz := (kc3 aa).2.2; have ey := A0d aa.out 2; refine skip_ (w1 := ?_) (by rfl) rfl ?_ ?_
   rotate_left
   ·go_simp
    rfl
   refine hK.out _ _ (ks hHeld) (fun hHeld => ?_); clear hK K; refine pv 5 6 ?_; refine pv 6 7 ?_; refine A3u (by kernel_rfl) ?_
   try go_wp2
   refine bodyPost_ret (A1c (rs := [.tmp 4, .cell 5 33, .tmp 6, .tmp 7]) rfl (by simp) (.tmp (.cell au 33 #[.int .u64 an, .int .i64 a0_1, .int .i64 ax] (0, 0) _ rfl (kb aa) Tryd.underlying33 rfl (by kernel_rfl) (.tmp (.tmp .nil))))) rfl ?_
   exact ⟨kF, (kl HB)⟩
  rw [kIn c9] at H; obtain ⟨ef, eg⟩ := kqF c9
  by_cases bN : (l1.length : Int) = 1
  ·rw [kIp bN] at H; obtain ⟨bO, bP⟩ := kqT bN; clear bN; simp only [Option.some.injEq, Prod.mk.injEq] at H; obtain ⟨rfl, rfl, rfl, rfl, rfl, rfl⟩ := H
   go_enter Tryd.func48, Tryd.ntmps48
   go_wp2_with (first | ((with_reducible refine A0s (N := 2) rfl ?_); refine bxe 2 #[.int .u64 an, .int .i64 a0_1, .int .i64 ax] 33 (h := ?_); intro aw hg fP hbox hb; have ac := ak (hbox); have bn := kG hg HB; have aP := kG hg HB; replace HB := kH HB hb; clear hb hbox hg) | ((with_reducible refine A0s (N := 5) rfl ?_); refine bxe 5 #[.int .u64 0, .int .i64 0, .int .i64 0] 33 (h := ?_); intro au hg fQ hbox hb; have aa := ak (hbox); have bo := kG hg HB; have aQ := kG hg HB; replace HB := kH HB hb; obtain ⟨ag, ah⟩ := kN hg ac; replace ac := kB ac hb; clear hb hbox hg; have aH : 0 ≤ (0 : Int) := (by omega); have a4 : 0 < (l1.length : Int) := kD; obtain ⟨a5, bp, ai⟩ := Kd.A2y b0.out 0 aH a4; cases bp; have b1 : (0 < l1.length) = True := eq_true (by omega); (try rw [show ((0 : Int)).toNat = 0 from rfl] at ai); (try rw [Addr.add_zero'] at ai); replace ai := (HB.out.cell (World.block_lt_of_cell? w _ ai)).trans ai; replace aH := kEt aH; (try (have az := a4; simp only [List.length_drop, List.length_take] at az; replace az := kEt az)); replace a4 := kEt a4; have ez := ah.out; have e0 := ag.out; obtain ⟨cR, cS, cT⟩ := kc3 aa; obtain ⟨cU, cV, cW⟩ := kf3 aa))
   refine bodyPost_ret (A1c (rs := [.tmp 4, .cell 5 33, .tmp 6, .tmp 7]) rfl (by simp) (.tmp (.cell au 33 #[.int .u64 0, .int .i64 0, .int .i64 0] (0, 0) _ rfl (kb aa) Tryd.underlying33 rfl (by kernel_rfl) (.tmp (.tmp .nil))))) rfl ?_
   exact ⟨kF, (kl HB)⟩
  rw [kIn bN] at H; obtain ⟨bO, bP⟩ := kqF bN
  by_cases cX : 1 < (l1.length : Int)
  ·rw [kIp cX] at H; have e4 := kTt cX; have e5 : decide (1 < l1.length) = true := kTt (by omega); clear cX; have bG := ak H; clear H
   go_enter Tryd.func48, Tryd.ntmps48
   go_upto_if 37 with (first | ((with_reducible refine A0s (N := 2) rfl ?_); refine bxe 2 #[.int .u64 an, .int .i64 a0_1, .int .i64 ax] 33 (h := ?_); intro aw hg fR hbox hb; have ac := ak (hbox); have bn := kG hg HB; have aP := kG hg HB; replace HB := kH HB hb; clear hb hbox hg) | ((with_reducible refine A0s (N := 5) rfl ?_); refine bxe 5 #[.int .u64 0, .int .i64 0, .int .i64 0] 33 (h := ?_); intro au hg fS hbox hb; have aa := ak (hbox); have bo := kG hg HB; have aQ := kG hg HB; replace HB := kH HB hb; obtain ⟨ag, ah⟩ := kN hg ac; replace ac := kB ac hb; clear hb hbox hg; have aH : 0 ≤ (0 : Int) := (by omega); have a4 : 0 < (l1.length : Int) := kD; obtain ⟨a5, bp, ai⟩ := Kd.A2y b0.out 0 aH a4; cases bp; have b1 : (0 < l1.length) = True := eq_true (by omega); (try rw [show ((0 : Int)).toNat = 0 from rfl] at ai); (try rw [Addr.add_zero'] at ai); replace ai := (HB.out.cell (World.block_lt_of_cell? w _ ai)).trans ai; replace aH := kEt aH; (try (have az := a4; simp only [List.length_drop, List.length_take] at az; replace az := kEt az)); replace a4 := kEt a4; have e6 := ag.out; have e7 := ah.out; obtain ⟨cY, cZ, da⟩ := kc3 ac; obtain ⟨db, dc, dd⟩ := kf3 ac; have bH : 0 ≤ (1 : Int) := (by omega); have bv : 1 < (l1.length : Int) := kD; obtain ⟨bQ, eh, a6⟩ := Kd.A2y b0.out 1 bH bv; obtain rfl : a5 = bQ := (by injection eh); (try simp only [show (1 : Int).toNat = 1 from rfl, Nat.reduceMul, Nat.reduceEqDiff, Go.Addr.add, ↓reduceIte] at a6); have e8 : (1 < l1.length) = True := eq_true (by omega); (try rw [show ((1 : Int)).toNat = 1 from rfl] at a6); replace a6 := (HB.out.cell (World.block_lt_of_cell? w _ a6)).trans a6; replace bH := kEt bH; (try (have bq := bv; simp only [List.length_drop, List.length_take] at bq; replace bq := kEt bq)); replace bv := kEt bv))
   (try simp only [Act.put, List.setIfInBounds_toArray, List.set_cons_zero, List.set_cons_succ])
   go_cut [8, 9, 10] (fun v8 v9 f0 wc => ∃ (kq : Nat) (av : Int) (ae : Int) (ad : Int) (ao : Int) (ap : Int) (aq : Int), v8 = .int .i64 av ∧ v9 = .int .i64 ae ∧ f0 = .int .i64 ad ∧ A0b (A0h.j0 kq l1 av ae ad an a0_1 ax = some (r1, r2, r3, r4, r5, r6)) ∧ A0b (kq ≤ k) ∧ A0b (wc.heap[aw]? = some (.cells #[.int .u64 an, .int .i64 a0_1, .int .i64 ax] 33 (0, 0))) ∧ A0b (wc.heap[au]? = some (.cells #[.int .u64 ao, .int .i64 ap, .int .i64 aq] 33 (0, 0))) ∧ A0b (Below w.heap.size w wc))
   case first =>
    have H := bG.out; clear bG
    by_cases bR : (rd l1 1) = 1
    ·rw [kIp bR] at H; obtain ⟨aT, bS⟩ := kqT bR; clear bR
     (first | rw [aT] | (simp only [A2i, A2u]; rw [aT]) | skip)
     by_cases bK : (l1.length : Int) < 14
     ·rw [kIp bK] at H; have bT := kTt bK; have bU : decide (l1.length < 14) = true := kTt (by omega); clear bK; simp only [Option.some.injEq, Prod.mk.injEq] at H; obtain ⟨rfl, rfl, rfl, rfl, rfl, rfl⟩ := H; have e9 := ah.out; have eA := ag.out; obtain ⟨de, df, dg⟩ := kc3 aa; obtain ⟨dh, di, dj⟩ := kf3 aa
      go_wp2
      refine bodyPost_ret (A1c (rs := [.tmp 4, .cell 5 33, .tmp 6, .tmp 7]) rfl (by simp) (.tmp (.cell au 33 #[.int .u64 0, .int .i64 0, .int .i64 0] (0, 0) _ rfl (kb aa) Tryd.underlying33 rfl (by kernel_rfl) (.tmp (.tmp .nil))))) rfl ?_
      exact ⟨kF, (kl HB)⟩
     rw [kIn bK] at H; have bT := kFf bK; have bU : decide (l1.length < 14) = false := kFf (by omega); clear bK
     by_cases bV : 2 ≤ 8
     ·rw [kIp bV] at H; have eB := kEt bV; have eC := kTt bV; clear bV
      by_cases bW : 8 ≤ (l1.length : Int)
      ·rw [kIp bW] at H; have eD := kEt bW; have eE := kTt bW; clear bW; replace H := bkH H; obtain ⟨bX, f2, H⟩ := H
       by_cases bY : 8 ≤ 14
       ·rw [kIp bY] at H; have eF := kEt bY; have eG := kTt bY; clear bY
        by_cases bZ : 14 ≤ (l1.length : Int)
        ·rw [kIp bZ] at H; have eH := kEt bZ; have eI := kTt bZ; clear bZ; replace H := bkH H; obtain ⟨ca, f3, H⟩ := H; have H' := ak H; clear H; obtain ⟨f4, b2, _, b3, _⟩ := info_parts info5; obtain ⟨f5, ei, cc, cf⟩ := A29 (P := Tryd.prog) (Value.int .u8) 0 22 5 .i64 .i64 Tryd.underlying22 b2 b3 (some a5) c1 l1 2 8 (by omega) (by first | omega | exact kD) kD cO.out; have cg := ak (Kd.A2b (h1 := fun _ => rfl) (cc _ (Kd.A18 b0.out))); have ch := ak cf; clear cc cf b2 b3
         go_wp2_with (first | ((with_reducible refine A0l (f := 45) rfl ?_); refine A1d (some 44) rfl rfl Tryd.func45 (by kernel_rfl) rfl #[.slice f5 ((l1.take 8).drop 2).length (c1 - 2)] rfl (by (try simp only [List.map_toArray, List.map_cons, List.map_nil]); first | done | (rw [show ((l1.take 8).drop 2).length = (8 - 2) from (by rw [List.length_drop, List.length_take]; have h_ : (8 : Int) ≤ (l1.length : Int) := kD; omega)] <;> rfl) | rfl | (simp only [List.length_drop, List.length_take]; rfl)) ?_; (with_reducible refine (A0u.calls k _ _ ((l1.take 8).drop 2) bX _ ?aU ?aV f2.out).mono ?_); (case aU => exact kC (Kd.A1i cg.out HB.out)); (case aV => exact ch.out); rintro e w' ⟨rfl, ⟨nd, rfl⟩⟩; refine ⟨_, rfl, ?_⟩; obtain ⟨f6, b4, _, b5, _⟩ := info_parts info5; obtain ⟨f7, ej, ci, cj⟩ := A29 (P := Tryd.prog) (Value.int .u8) 0 22 5 .i64 .i64 Tryd.underlying22 b4 b5 (some a5) c1 l1 8 14 (by omega) (by first | omega | exact kD) kD cO.out; have ck := ak (Kd.A2b (h1 := fun _ => rfl) (ci _ (Kd.A18 b0.out))); have cm := ak cj; clear ci cj b4 b5) | ((with_reducible refine A0l (f := 45) rfl ?_); refine A1d (some 48) rfl rfl Tryd.func45 (by kernel_rfl) rfl #[.slice f7 ((l1.take 14).drop 8).length (c1 - 8)] rfl (by (try simp only [List.map_toArray, List.map_cons, List.map_nil]); first | done | (rw [show ((l1.take 14).drop 8).length = (14 - 8) from (by rw [List.length_drop, List.length_take]; have h_ : (14 : Int) ≤ (l1.length : Int) := kD; omega)] <;> rfl) | rfl | (simp only [List.length_drop, List.length_take]; rfl)) ?_; (with_reducible refine (A0u.calls k _ _ ((l1.take 14).drop 8) ca _ ?aU ?aV f3.out).mono ?_); (case aU => exact kC (Kd.A1i ck.out (kl HB))); (case aV => exact cm.out); rintro e w' ⟨rfl, ⟨nd, rfl⟩⟩; refine ⟨_, rfl, ?_⟩))
         go_meet
         case rel => exact ⟨_, (wrap64 (bX)), (wrap64 ((wrap64 (ca)) + 1)), (14), (0), (0), (0), kE, kE, kE, H', kO, ⟨kb ac⟩, ⟨kb aa⟩, ⟨(kl HB)⟩⟩
        exact (kA bZ H).elim
       exact (kA bY H).elim
      exact (kA bW H).elim
     exact (kA bV H).elim
    rw [kIn bR] at H; obtain ⟨aT, bS⟩ := kqF bR
    (first | rw [aT] | (simp only [A2i, A2u]; rw [aT]) | skip)
    have H' := ak H; clear H
    go_wp2
    go_meet
    case rel => exact ⟨_, (a0_1), (ax), (2), (0), (0), (0), kE, kE, kE, H', kO, ⟨kb ac⟩, ⟨kb aa⟩, ⟨(kl HB)⟩⟩
   case rest =>
    clear bG; obtain ⟨kq, av, ae, ad, ao, ap, aq, rfl, rfl, rfl, HA, bw, ac, aa, HB⟩ := hcut
    cases kq with
    | zero => exact absurd HA.out (by simp [A0h.j0])
    | succ ek =>
     have H := HA.out; clear HA; simp only [A0h.j0] at H; have bI := ak H; clear H
     go_upto_region 16 with (fail)
     go_cut [58] (fun f8 wc => ∃ (kq : Nat) (aK : Bool), f8 = .bool aK ∧ A0b (A0h.j1 kq l1 av ae ad aK an a0_1 ax = some (r1, r2, r3, r4, r5, r6)) ∧ A0b (kq ≤ ek) ∧ A0b (wc.heap[aw]? = some (.cells #[.int .u64 an, .int .i64 a0_1, .int .i64 ax] 33 (0, 0))) ∧ A0b (wc.heap[au]? = some (.cells #[.int .u64 ao, .int .i64 ap, .int .i64 aq] 33 (0, 0))) ∧ A0b (Below w.heap.size w wc))
     case first =>
      have H := bI.out; clear bI
      by_cases co : ae = 0
      ·rw [kIp co] at H; obtain ⟨aW, cp⟩ := kqT co; clear co
       (first | rw [aW] | (simp only [A2i, A2u]; rw [aW]) | skip)
       have H' := ak H; clear H
       go_wp2
       go_meet
       case rel => exact ⟨_, (true), kE, H', ⟨by have := bw.out; first | omega | exact Nat.le_refl _⟩, ⟨kb ac⟩, ⟨kb aa⟩, ⟨(kl HB)⟩⟩
      rw [kIn co] at H; obtain ⟨aW, cp⟩ := kqF co
      (first | rw [aW] | (simp only [A2i, A2u]; rw [aW]) | skip)
      have H' := ak H; clear H
      go_wp2
      go_meet
      case rel => exact ⟨_, (decide ((wrap64 (av + ae)) > 64)), kE, H', ⟨by have := bw.out; first | omega | exact Nat.le_refl _⟩, ⟨kb ac⟩, ⟨kb aa⟩, ⟨(kl HB)⟩⟩
     case rest =>
      clear bI; obtain ⟨kq, aK, rfl, HA, cq, ac, aa, HB⟩ := hcut
      cases kq with
      | zero => exact absurd HA.out (by simp [A0h.j1])
      | succ a2 =>
       have H := HA.out; clear HA; simp only [A0h.j1] at H
       by_cases dk : aK = true
       ·subst dk
        rw [if_pos rfl] at H; simp only [Option.some.injEq, Prod.mk.injEq] at H; obtain ⟨rfl, rfl, rfl, rfl, rfl, rfl⟩ := H; have eJ := ah.out; have eK := ag.out; obtain ⟨dl, dm, dn⟩ := kc3 aa; obtain ⟨dp, dq, dr⟩ := kf3 aa
        go_wp2
        refine bodyPost_ret (A1c (rs := [.tmp 4, .cell 5 33, .tmp 6, .tmp 7]) rfl (by simp) (.tmp (.cell au 33 #[.int .u64 0, .int .i64 0, .int .i64 0] (0, 0) _ rfl (kb aa) Tryd.underlying33 rfl (by kernel_rfl) (.tmp (.tmp .nil))))) rfl ?_
        exact ⟨kF, (kl HB)⟩
       replace dk := Bool.eq_false_iff.mpr dk; subst dk
       rw [if_neg (show ¬ (false = true) by decide)] at H
       by_cases bL : (l1.length : Int) < (wrap64 (ad + ae))
       ·rw [kIp bL] at H; have b6 := kTt bL; clear bL; simp only [Option.some.injEq, Prod.mk.injEq] at H; obtain ⟨rfl, rfl, rfl, rfl, rfl, rfl⟩ := H; have eL := ah.out; have eM := ag.out; obtain ⟨dt, du, dv⟩ := kc3 aa; obtain ⟨dw, dz, d0⟩ := kf3 aa
        go_wp2
        refine bodyPost_ret (A1c (rs := [.tmp 4, .cell 5 33, .tmp 6, .tmp 7]) rfl (by simp) (.tmp (.cell au 33 #[.int .u64 0, .int .i64 0, .int .i64 0] (0, 0) _ rfl (kb aa) Tryd.underlying33 rfl (by kernel_rfl) (.tmp (.tmp .nil))))) rfl ?_
        exact ⟨kF, (kl HB)⟩
       rw [kIn bL] at H; have b6 := kFf bL; clear bL
       by_cases cr : 0 ≤ av
       ·rw [kIp cr] at H; have eN := kEt cr; have eO := kTt cr; clear cr
        by_cases cs : (av : Int).toNat ≤ 281474976710656
        ·rw [kIp cs] at H; have eP := kEt cs; have eQ := kTt cs; clear cs; obtain ⟨br, aX⟩ : ∃ y_ : List Int, y_ = (List.replicate (av : Int).toNat 0) := ⟨_, rfl⟩
         replace H : (if 0 ≤ ad then (if ad ≤ (wrap64 (ad + ae)) then (if (wrap64 (ad + ae)) ≤ (l1.length : Int) then (if br.length + ((l1.take ((wrap64 (ad + ae)) : Int).toNat).drop (ad : Int).toNat).length < 140737488355328 then ((some (br ++ ((l1.take ((wrap64 (ad + ae)) : Int).toNat).drop (ad : Int).toNat) : List Int)).bind fun aY => (if 0 ≤ (wrap64 ((wrap64 (64 - av)) - ae)) then (if aY.length + (wrap64 ((wrap64 (64 - av)) - ae) : Int).toNat < 140737488355328 then ((A0u.f a2 (aY ++ List.replicate (wrap64 ((wrap64 (64 - av)) - ae) : Int).toNat 0)).bind fun a1 => ((A0o.f a2 an a0_1 ax (Go.bits .xor .u64 an a1)).bind fun af => (if (af.1.length : Int) = (wrap64 (ad + ae)) then (if 0 ≤ (wrap64 (ad + ae)) then (A0h.j2 a2 (Go.bits .xor .u64 an a1) af.1 ((strOfNums af.1).toList != (strOfNums (l1.take ((wrap64 (ad + ae)) : Int).toNat)).toList) af.2.1 af.2.2.1 af.2.2.2) else (none)) else (A0h.j2 a2 (Go.bits .xor .u64 an a1) af.1 true af.2.1 af.2.2.1 af.2.2.2)))) else (none)) else (none))) else (none)) else (none)) else (none)) else (none)) = some (r1, r2, r3, r4, r5, r6) := by first | (rw [aX]; with_reducible exact H) | (have H2_ := (Option.bind_some _ _).symm.trans H; rw [aX]; with_reducible exact H2_) | (have H2_ := (Option.bind_some _ _).symm.trans H; with_reducible exact H2_) | with_reducible exact H | (rw [aX]; exact H) | exact H
         have b7 := ak aX; clear aX
         by_cases ct : 0 ≤ ad
         ·rw [kIp ct] at H; have eR := kEt ct; have eS := kTt ct; clear ct
          by_cases cu : ad ≤ (wrap64 (ad + ae))
          ·rw [kIp cu] at H; have cv := kEt cu; have cw := kTt cu
           by_cases cx : (wrap64 (ad + ae)) ≤ (l1.length : Int)
           ·rw [kIp cx] at H; have cy := kEt cx; have cz := kTt cx
            by_cases d5 : br.length + ((l1.take ((wrap64 (ad + ae)) : Int).toNat).drop (ad : Int).toNat).length < 140737488355328
            ·rw [kIp d5] at H; have LMc52 := ak d5; clear d5; obtain ⟨aY, aZ⟩ : ∃ y_ : List Int, y_ = (br ++ ((l1.take ((wrap64 (ad + ae)) : Int).toNat).drop (ad : Int).toNat)) := ⟨_, rfl⟩
             replace H : (if 0 ≤ (wrap64 ((wrap64 (64 - av)) - ae)) then (if aY.length + (wrap64 ((wrap64 (64 - av)) - ae) : Int).toNat < 140737488355328 then ((A0u.f a2 (aY ++ List.replicate (wrap64 ((wrap64 (64 - av)) - ae) : Int).toNat 0)).bind fun a1 => ((A0o.f a2 an a0_1 ax (Go.bits .xor .u64 an a1)).bind fun af => (if (af.1.length : Int) = (wrap64 (ad + ae)) then (if 0 ≤ (wrap64 (ad + ae)) then (A0h.j2 a2 (Go.bits .xor .u64 an a1) af.1 ((strOfNums af.1).toList != (strOfNums (l1.take ((wrap64 (ad + ae)) : Int).toNat)).toList) af.2.1 af.2.2.1 af.2.2.2) else (none)) else (A0h.j2 a2 (Go.bits .xor .u64 an a1) af.1 true af.2.1 af.2.2.1 af.2.2.2)))) else (none)) else (none)) = some (r1, r2, r3, r4, r5, r6) := by first | (rw [aZ]; with_reducible exact H) | (have H2_ := (Option.bind_some _ _).symm.trans H; rw [aZ]; with_reducible exact H2_) | (have H2_ := (Option.bind_some _ _).symm.trans H; with_reducible exact H2_) | with_reducible exact H | (rw [aZ]; exact H) | exact H
             have cA := ak aZ; clear aZ; obtain ⟨bs, ba⟩ := kX (wrap64 ((wrap64 (64 - av)) - ae))
             (first | rw [ba] at H | simp only [ba] at H)
             have el : (IntKind.i64.wrap ((wrap64 (64 - av)) - ae)) = bs := (A2i _).trans ba
             by_cases cB : 0 ≤ (bs)
             ·rw [kIp cB] at H; have eT := kEt cB; have eU := kTt cB; clear cB
              by_cases d6 : aY.length + (bs : Int).toNat < 140737488355328
              ·rw [kIp d6] at H; have LMc55 := ak d6; clear d6; obtain ⟨a3, bb⟩ : ∃ y_ : List Int, y_ = (aY ++ List.replicate (bs : Int).toNat 0) := ⟨_, rfl⟩
               replace H : ((A0u.f a2 a3).bind fun a1 => ((A0o.f a2 an a0_1 ax (Go.bits .xor .u64 an a1)).bind fun af => (if (af.1.length : Int) = (wrap64 (ad + ae)) then (if 0 ≤ (wrap64 (ad + ae)) then (A0h.j2 a2 (Go.bits .xor .u64 an a1) af.1 ((strOfNums af.1).toList != (strOfNums (l1.take ((wrap64 (ad + ae)) : Int).toNat)).toList) af.2.1 af.2.2.1 af.2.2.2) else (none)) else (A0h.j2 a2 (Go.bits .xor .u64 an a1) af.1 true af.2.1 af.2.2.1 af.2.2.2)))) = some (r1, r2, r3, r4, r5, r6) := by first | (rw [bb]; with_reducible exact H) | (have H2_ := (Option.bind_some _ _).symm.trans H; rw [bb]; with_reducible exact H2_) | (have H2_ := (Option.bind_some _ _).symm.trans H; with_reducible exact H2_) | with_reducible exact H | (rw [bb]; exact H) | exact H
               have cC := ak bb; clear bb; replace H := bkH H; obtain ⟨a1, f9, H⟩ := H; replace H := bkH H; obtain ⟨⟨a7, a8, a9, aA⟩, fA, H⟩ := H; (try dsimp only at H); have bJ := ak H; clear H
               try go_wp2
               replace ac := ak (A0v ac.out); replace aa := ak (A0v aa.out); replace HB := ak (A04 HB.out); obtain ⟨fB, b8, _, b9, _⟩ := info_parts info5; obtain ⟨fT, em, cD, cF⟩ := A29 (P := Tryd.prog) (Value.int .u8) 0 22 5 .i64 .i64 Tryd.underlying22 b8 b9 (some a5) c1 l1 ad (wrap64 (ad + ae)) kD (by first | omega | exact kD) kD cO.out; have bt := ak (Kd.A2b (h1 := fun _ => rfl) (cD _ (Kd.A18 b0.out))); have eV := ak cF; clear cD cF b8 b9
               refine A28 (n := 10) (S := fun w' => True) (ds := []) (bl 10 0) (by kernel_rfl) rfl rfl trivial (fun hHeld => ?_); refine A2j A0h.tab20 A0h.bits20 (fun HT_ HW_ => ?_)
               generalize wc.drew = fU at ac aa HB bt hHeld ⊢; refine pv 0 67 ?_; refine pv 2 69 ?_; refine pv 3 70 ?_; refine pv 4 71 ?_; refine pv 5 72 ?_; refine pv 6 73 ?_; refine pv 7 74 ?_; refine one_ (i := 1) (N := some 68) (bl 10 255) rfl rfl (A2s HT_.out (by kernel_rfl)) (by decide) (fun K hK => ?_); refine Kd.R_make_step (Kd.int .u8) _ 5 (by rfl) (N := 68) rfl 22 _ _ rfl av rfl rfl Tryd.underlying22 (.int .u8 0) 1 info5 rfl (by decide) (by omega) 0 (ok := fun _ => True) (okp := fun _ => True) rfl (fun _ hk => hk) trivial kD (Nat.le_trans (Nat.mul_le_mul_right _ (kD : av.toNat ≤ 281474976710656)) (by omega)) (Below.refl _ _) (Nat.le_refl _) ?_; intro eo fV ho62 hb hg_ hnew_; clear hg_ hnew_
               (first | rw [← b7.out] at ho62 | (simp only [Int.reduceToNat] at ho62; rw [← b7.out] at ho62))
               have bc := ak (Kd.A2l ho62 (A0t (kl HB))); replace ac := kB ac hb; replace aa := kB aa hb; replace HB := kH HB hb; clear hb ho62; refine hK.out _ _ trivial (fun hHeld => ?_); clear hK K; refine nm (some 68) (h := ?_)
               refine one_ (i := 8) (N := some 75) (bl 10 511) rfl rfl (A2s HT_.out (by kernel_rfl)) (by decide) (fun K hK => ?_); refine Kd.R_append_rows_step (Kd.int .u8) (w0 := w) w.heap.size (by rfl) (.tmp 68) (.tmp 74) 22 5 (.int .u8 0) 1 rfl Tryd.underlying22 info5 rfl (by decide) (by omega) eo br ((l1.take ((wrap64 (ad + ae)) : Int).toNat).drop (ad : Int).toNat) _ _ _ (fun _ => True) (fun _ => False) rfl rfl ?aO ?aR (fun _ _ h => h) (fun _ h => h.elim) ?aF ?aB ?aS ?aL ?_
               (case aR => first | (rw [← show ((l1.take ((wrap64 (ad + ae)) : Int).toNat).drop (ad : Int).toNat).length = ((wrap64 (ad + ae)).toNat - ad.toNat) from (by rw [List.length_drop, List.length_take]; have h_ : ((wrap64 (ad + ae)) : Int) ≤ (l1.length : Int) := kD; omega)]; repeat (first | exact (Kd.A1i bt.out HB.out) | (with_reducible refine Kd.C_alloc ?_ _) | (with_reducible refine Kd.C_drewN ?_ _) | (with_reducible refine Kd.C_drew ?_))) | (repeat (first | exact (Kd.A1i bt.out HB.out) | (with_reducible refine Kd.C_alloc ?_ _) | (with_reducible refine Kd.C_drewN ?_ _) | (with_reducible refine Kd.C_drew ?_))))
               (case aB => exact (kl HB))
               (case aF => exact (fun _ _ => trivial))
               (case aO => exact (kr bc))
               (case aS => exact (A0t (kl HB)))
               (case aL => have := LMc52.out; have hlx_ := (show ((l1.take ((wrap64 (ad + ae)) : Int).toNat).drop (ad : Int).toNat).length = ((wrap64 (ad + ae)).toNat - ad.toNat) from (by rw [List.length_drop, List.length_take]; have h_ : ((wrap64 (ad + ae)) : Int) ≤ (l1.length : Int) := kD; omega)); omega)
               intro ep fW ho hb hg hat; rw [← cA.out] at ho; have be := ak (A15 (g := aw) (o := .cells #[.int .u64 an, .int .i64 a0_1, .int .i64 ax] 33 (0, 0)) (kb ac) hg (Kd.R_ne bc.out ac.out (by decide))); have bf := ak (A15 (g := au) (o := .cells #[.int .u64 ao, .int .i64 ap, .int .i64 aq] 33 (0, 0)) (kb aa) hg (Kd.R_ne bc.out aa.out (by decide))); have bh := ak (hb); have bi := ak (ho); clear ac; clear aa; clear HB; clear bc; have ac := be; have aa := bf; have HB := bh; have bj := bi; clear be bf bh bi; clear ho hb hg hat; refine hK.out _ _ trivial (fun hHeld => ?_); clear hK K; refine nm (some 75) (h := ?_)
               refine pv 9 11 ?_; refine A3u (A22 HT_.out (by kernel_rfl)) ?_
               try go_wp2_with (first | (at_builtin; refine Kd.R_append_zeros (Kd.int .u8) (w0 := w) w.heap.size rfl (.tmp 76) (.tmp 80) 22 3 5 (.int .u8 0) 1 rfl Tryd.underlying22 Tryd.underlying3 info5 rfl (by decide) (by omega) ep aY 0 (bs : Int) (fun _ => True) rfl rfl rfl ?aF ?aO kD ?aB ?aS ?aL ?_; (case aB => exact (kl HB)); (case aF => exact (fun _ _ => trivial)); (case aO => exact (kr bj)); (case aS => exact (A0t (kl HB))); (case aL => have := LMc55.out; omega); intro fC w64 ho hb hg hat; (try simp only [Int.reduceToNat] at ho); rw [← cC.out] at ho; have be := ak (A15 (g := aw) (o := .cells #[.int .u64 an, .int .i64 a0_1, .int .i64 ax] 33 (0, 0)) (kb ac) hg (Kd.R_ne bj.out ac.out (by decide))); have bf := ak (A15 (g := au) (o := .cells #[.int .u64 ao, .int .i64 ap, .int .i64 aq] 33 (0, 0)) (kb aa) hg (Kd.R_ne bj.out aa.out (by decide))); have bh := ak (hb); have bi := ak (ho); clear ac; clear aa; clear HB; clear bj; have ac := be; have aa := bf; have HB := bh; have al := bi; clear be bf bh bi; clear ho hb hg hat))
               replace al := ak (Kd.A02 al.out); replace ac := ak (A0v ac.out); replace aa := ak (A0v aa.out); replace HB := ak (A04 HB.out); obtain ⟨aM, aN, cG⟩ := Kd.A11 al.out
               (first | subst cG | (injection cG with f1_ f2_ f3_; have f4_ := f1_.symm; have f5_ := f3_.symm; clear f1_ f2_ f3_; subst f4_; subst f5_))
               refine A28 (n := 6) (S := fun w' => w'.cell? ⟨aw, 0, none⟩ = some (.int .u64 an) ∧ w'.cell? ⟨aw, 1, none⟩ = some (.int .i64 a0_1) ∧ w'.cell? ⟨aw, 2, none⟩ = some (.int .i64 ax)) (ds := []) (bl 6 0) (by kernel_rfl) rfl rfl kz (fun hHeld => ?_); generalize w64.drew = fX at al ac aa HB hHeld ⊢; refine pv 0 82 ?_; refine pv 2 84 ?_; refine ta 1 (some 83) (bl 6 7) (h := ?_); refine one_ (i := 3) (N := some 85) (bl 6 15) rfl rfl (by kernel_rfl) (by decide) (fun K hK => ?_); refine goes_ Tryd.func45 (by kernel_rfl) rfl #[.slice aM a3.length aN] (by rfl) rfl rfl km ?_
               with_reducible refine (A0u.calls a2 _ _ a3 a1 _ ?aU ?aV f9.out).mono ?_
               (case aU => exact kC (Kd.A0y al.out).2.2)
               (case aV => exact (Kd.A0y al.out).2.1)
               rintro e w' ⟨rfl, ⟨nd, rfl⟩⟩; refine ⟨_, rfl, ?_⟩; refine hK.out _ _ kz (fun hHeld => ?_); clear hK K; refine nm (some 85) (h := ?_)
               refine pv 4 86 ?_; refine pv 5 12 ?_; refine A3u (by kernel_rfl) ?_; have eW := ag.out; have eX := ah.out; obtain ⟨d7, d8, d9⟩ := kc3 ac; obtain ⟨dA, dB, dC⟩ := kf3 ac
               go_upto_region 24 with (first | ((with_reducible refine A0l (f := 81) rfl ?_); refine A1d (some 90) rfl rfl Tryd.func81 (by kernel_rfl) rfl #[.agg #[.int .u64 an, .int .i64 a0_1, .int .i64 ax], .int .u64 (Go.bits .xor .u64 an a1)] rfl km ?_; (with_reducible refine (A0o.calls a2 an a0_1 ax (Go.bits .xor .u64 an a1) a7 a8 a9 aA _ fA.out).mono ?_); rintro e fY ⟨bu, rfl, ho0, hb⟩; refine ⟨_, rfl, ?_⟩; have ar := ak (Kd.A2l (Kd.A3j ho0 (Kd.R_lt (kr al))) (A0t (kl HB))); replace al := ak (Kd.A2v (kr al) (Kd.A3h ho0) hb); replace ac := kB ac hb; replace aa := kB aa hb; replace HB := kH HB hb) | ((with_reducible refine A0s (N := 14) rfl ?_); refine bxe 14 #[.int .u64 0, .int .i64 0, .int .i64 0] 33 (h := ?_); intro am hg eY hbox hb; replace al := ak (Kd.A1x (kr al) hb); replace ar := ak (Kd.A1x (kr ar) hb); have aj := ak (hbox); have eZ := kG hg HB; have bA := kG hg HB; replace HB := kH HB hb; obtain ⟨bk, bm⟩ := kN hg ac; replace ac := kB ac hb; obtain ⟨aC, aD⟩ := kN hg aa; replace aa := kB aa hb; clear hb hbox hg; have fa := bm.out; have fb := bk.out; have fc := aD.out; have fd := aC.out; obtain ⟨dD, dF, dG⟩ := kc3 aj; obtain ⟨dH, dI, dJ⟩ := kf3 aj))
               (try simp only [Act.put, List.setIfInBounds_toArray, List.set_cons_zero, List.set_cons_succ])
               go_cut [109] (fun et wc => ∃ (kq : Nat) (aG : Bool), et = .bool aG ∧ A0b (A0h.j2 kq (Go.bits .xor .u64 an a1) a7 aG a8 a9 aA = some (r1, r2, r3, r4, r5, r6)) ∧ A0b (kq ≤ a2) ∧ A0b (Kd.R (Kd.int .u8) 5 wc w.heap.size (fun _ => True) bu a7) ∧ A0b (wc.heap[aw]? = some (.cells #[.int .u64 an, .int .i64 a0_1, .int .i64 ax] 33 (0, 0))) ∧ A0b (wc.heap[au]? = some (.cells #[.int .u64 ao, .int .i64 ap, .int .i64 aq] 33 (0, 0))) ∧ A0b (wc.heap[am]? = some (.cells #[.int .u64 a8, .int .i64 a9, .int .i64 aA] 33 (0, 0))) ∧ A0b (Below w.heap.size w wc))
               case first =>
                have H := bJ.out; clear bJ
                by_cases cH : (a7.length : Int) = (wrap64 (ad + ae))
                ·rw [kIp cH] at H; obtain ⟨aJ, bB⟩ := kqT cH; clear cH
                 (first | rw [aJ] | (simp only [A2i, A2u]; rw [aJ]) | skip)
                 obtain ⟨aE, ay⟩ := kX (wrap64 (ad + ae))
                 (first | rw [ay] at H | simp only [ay] at H)
                 (try rw [ay] at b6); (try rw [ay] at cv); (try rw [ay] at cw); (try rw [ay] at cu); (try rw [ay] at cy); (try rw [ay] at cz); (try rw [ay] at cx); (try rw [ay] at aJ); (try rw [ay] at bB); (try (have LMc52j := ak LMc52.out; rw [ay] at LMc52j; clear LMc52; have LMc52 := LMc52j; clear LMc52j)); have eu : (IntKind.i64.wrap (ad + ae)) = aE := (A2i _).trans ay
                 by_cases cI : 0 ≤ (aE)
                 ·rw [kIp cI] at H; have fe := kEt cI; have ff := kTt cI; clear cI; have fg := eq_true (kD : (aE) ≤ (l1.length : Int)); have H' := ak H; clear H
                  try go_wp2
                  generalize hw_ : (((eY.setCell ⟨am, 0, none⟩ (.int .u64 a8)).setCell ⟨am, 1, none⟩ (.int .i64 a9)).setCell ⟨am, 2, none⟩ (.int .i64 aA)) = dK; have be : A0b (Kd.R (Kd.int .u8) 5 dK w.heap.size (fun k_ => some k_ ≠ (bu : Value).ownBlock) (.slice aM a3.length aN) a3) := ⟨by rw [← hw_]; (with_reducible repeat (first | apply Kd.R_alloc | apply Kd.A00 | apply Kd.A02)); exact Kd.A1e (Kd.A03 (p := ⟨am, 2, none⟩) (Kd.A03 (p := ⟨am, 1, none⟩) (Kd.A03 (p := ⟨am, 0, none⟩) (Kd.A2a al.out aj.out (by decide)) (fun _ hk => hk.2) (.int .u64 a8)) (fun _ hk => hk.2) (.int .i64 a9)) (fun _ hk => hk.2) (.int .i64 aA)) (fun _ hk => hk.1.2)⟩; have bf : A0b (Kd.R (Kd.int .u8) 5 dK w.heap.size (fun k_ => some k_ ≠ (.slice aM a3.length aN : Value).ownBlock) bu a7) := ⟨by rw [← hw_]; (with_reducible repeat (first | apply Kd.R_alloc | apply Kd.A00 | apply Kd.A02)); exact Kd.A1e (Kd.A03 (p := ⟨am, 2, none⟩) (Kd.A03 (p := ⟨am, 1, none⟩) (Kd.A03 (p := ⟨am, 0, none⟩) (Kd.A2a ar.out aj.out (by decide)) (fun _ hk => hk.2) (.int .u64 a8)) (fun _ hk => hk.2) (.int .i64 a9)) (fun _ hk => hk.2) (.int .i64 aA)) (fun _ hk => hk.1.2)⟩; have bh := mv hw_ (kb ac); have bi := mv hw_ (kb aa); have bC := mv hw_ (kb aj); have bD : A0b (Below w.heap.size w dK) := ⟨by rw [← hw_]; repeat (first | (with_reducible first | exact HB.out | apply A2k | apply A2e | apply A04 | refine A1y ?_ aP.out | refine A1y ?_ aQ.out | refine A1y ?_ bA.out) | exact HB.out)⟩; clear hw_; have al := be; have ar := bf; have ac := bh; have aa := bi; have aj := bC; have HB := bD; clear be bf bh bi bC bD; replace al := ak (Kd.A02 al.out); replace ar := ak (Kd.A02 ar.out); replace ac := ak (A0v ac.out); replace aa := ak (A0v aa.out); replace aj := ak (A0v aj.out); replace HB := ak (A04 HB.out); obtain ⟨bx, bz, cJ⟩ := Kd.A11 ar.out
                  (first | subst cJ | (injection cJ with f1_ f2_ f3_; have f4_ := f1_.symm; have f5_ := f3_.symm; clear f1_ f2_ f3_; subst f4_; subst f5_))
                  obtain ⟨fD, bE, _, bF, _⟩ := info_parts info5; obtain ⟨ev, cK, cL⟩ := A27 (P := Tryd.prog) (Value.int .u8) 0 22 5 .i64 Tryd.underlying22 bE bF (some a5) c1 l1 (aE) kD kD cO.out; have aI := ak (Kd.A2b (h1 := fun _ => rfl) (cK _ (Kd.A18 b0.out))); have fh := ak cL; clear cK cL bE bF
                  refine A28 (n := 17) (S := fun w' => True) (ds := []) (bl 17 0) (by kernel_rfl) rfl rfl trivial (fun hHeld => ?_); refine A2j A0h.tab24 A0h.bits24 (fun HT_ HW_ => ?_)
                  generalize dK.drew = fZ at al ar ac aa aj HB aI hHeld ⊢; refine pv 0 93 ?_; refine pv 1 94 ?_; refine pv 2 95 ?_; refine pv 3 96 ?_; refine pv 4 97 ?_; refine pv 5 98 ?_; refine pv 6 99 ?_; refine pv 7 100 ?_; refine pv 9 102 ?_; refine pv 10 103 ?_; refine pv 11 104 ?_; refine pv 12 105 ?_; refine pv 13 106 ?_; refine join_ (σ := Unit) 2 #[true, true, true, true, true, true, true, true, true, true, true, true, true, true, true, false, false] (fun s_ => [(101, .string (strOfNums a7)), (107, .string (strOfNums (l1.take ((aE) : Int).toNat)))]) (fun s_ w' => (Kd.R (Kd.int .u8) 5 w' w.heap.size (fun k_ => some k_ ≠ (.slice bx a7.length bz : Value).ownBlock) (.slice aM a3.length aN) a3) ∧ (Kd.R (Kd.int .u8) 5 w' w.heap.size (fun k_ => some k_ ≠ (.slice aM a3.length aN : Value).ownBlock) (.slice bx a7.length bz) a7) ∧ (w'.heap[aw]? = some (.cells #[.int .u64 an, .int .i64 a0_1, .int .i64 ax] 33 (0, 0))) ∧ (w'.heap[au]? = some (.cells #[.int .u64 ao, .int .i64 ap, .int .i64 aq] 33 (0, 0))) ∧ (w'.heap[am]? = some (.cells #[.int .u64 a8, .int .i64 a9, .int .i64 aA] 33 (0, 0))) ∧ (Below w.heap.size w w')) ?_ ?_
                  rotate_left
                  ·intro hCont; refine two_ (i := 8) (j := 14) (Ni := some 101) (Nj := some 107) #[true, true, true, true, true, true, true, true, true, true, true, true, true, true, false, false, false] #[true, true, true, true, true, true, true, true, false, true, true, true, true, true, true, false, false] rfl rfl rfl rfl (two_of HT_.out (by kernel_rfl)) (by decide) (by decide) (fun K hK => ?_) (fun K hK => ?_)
                   ·skip
                    have hcv82 := own_string (P := Tryd.prog) Tryd.underlying22 Tryd.underlying5 Tryd.underlying9 (Kd.own_of_R ar.out); refine value_ (w1 := ?_) (v := ?_) (by rfl) rfl ?_ ?_
                    rotate_left 2
                    ·go_simp
                     constructor
                     ·rfl
                     rfl
                    clear hcv82; refine hK.out _ _ trivial (fun hHeld => ?_); clear hK K; refine nm (some 101) (h := ?_)
                    refine one_ (i := 14) (N := some 107) (bl 17 32767) rfl rfl (A2s HT_.out (by kernel_rfl)) (by decide) (fun K hK => ?_)
                    have hcv83 := Kd.A3m (P := Tryd.prog) (A := (some a5)) (c := c1) Tryd.underlying22 Tryd.underlying5 Tryd.underlying9 (by first | exact (Kd.A1i aI.out HB.out) | exact Kd.A1i aI.out HB.out | exact aI.out); (try (have hle_ : aE ≤ (l1.length : Int) := kD; have hln_ : (l1.take (aE : Int).toNat).length = (aE : Int).toNat := (by rw [List.length_take]; omega); rw [hln_] at hcv83; clear hle_ hln_))
                    refine value_ (w1 := ?_) (v := ?_) (by rfl) rfl ?_ ?_
                    rotate_left 2
                    ·go_simp
                     constructor
                     ·rfl
                     rfl
                    clear hcv83; refine hK.out _ _ trivial (fun hHeld => ?_); clear hK K; refine nm (some 107) (h := ?_)
                    exact norm_ (by simp only [putAll, Act.put, List.setIfInBounds_toArray, List.set_cons_zero, List.set_cons_succ]) (hCont () _ ⟨(kr al), (kr ar), (kb ac), (kb aa), (kb aj), (kl HB)⟩)
                   skip
                   have hcv82 := Kd.A3m (P := Tryd.prog) (A := (some a5)) (c := c1) Tryd.underlying22 Tryd.underlying5 Tryd.underlying9 (by first | exact (Kd.A1i aI.out HB.out) | exact Kd.A1i aI.out HB.out | exact aI.out); (try (have hle_ : aE ≤ (l1.length : Int) := kD; have hln_ : (l1.take (aE : Int).toNat).length = (aE : Int).toNat := (by rw [List.length_take]; omega); rw [hln_] at hcv82; clear hle_ hln_))
                   refine value_ (w1 := ?_) (v := ?_) (by rfl) rfl ?_ ?_
                   rotate_left 2
                   ·go_simp
                    constructor
                    ·rfl
                    rfl
                   clear hcv82; refine hK.out _ _ trivial (fun hHeld => ?_); clear hK K; refine nm (some 107) (h := ?_)
                   refine one_ (i := 8) (N := some 101) (bl 17 32767) rfl rfl (A2s HT_.out (by kernel_rfl)) (by decide) (fun K hK => ?_); have hcv83 := own_string (P := Tryd.prog) Tryd.underlying22 Tryd.underlying5 Tryd.underlying9 (Kd.own_of_R ar.out); refine value_ (w1 := ?_) (v := ?_) (by rfl) rfl ?_ ?_
                   rotate_left 2
                   ·go_simp
                    constructor
                    ·rfl
                    rfl
                   clear hcv83; refine hK.out _ _ trivial (fun hHeld => ?_); clear hK K; refine nm (some 101) (h := ?_)
                   exact norm_ (by simp only [putAll, Act.put, List.setIfInBounds_toArray, List.set_cons_zero, List.set_cons_succ]) (hCont () _ ⟨(kr al), (kr ar), (kb ac), (kb aa), (kb aj), (kl HB)⟩)
                  rintro _ bM ⟨h0_, h1_, h2_, h3_, h4_, h5_⟩; have be : A0b (Kd.R (Kd.int .u8) 5 bM w.heap.size (fun k_ => some k_ ≠ (.slice bx a7.length bz : Value).ownBlock) (.slice aM a3.length aN) a3) := ⟨h0_⟩; have bf : A0b (Kd.R (Kd.int .u8) 5 bM w.heap.size (fun k_ => some k_ ≠ (.slice aM a3.length aN : Value).ownBlock) (.slice bx a7.length bz) a7) := ⟨h1_⟩; have bh : A0b (bM.heap[aw]? = some (.cells #[.int .u64 an, .int .i64 a0_1, .int .i64 ax] 33 (0, 0))) := ⟨h2_⟩; have bi : A0b (bM.heap[au]? = some (.cells #[.int .u64 ao, .int .i64 ap, .int .i64 aq] 33 (0, 0))) := ⟨h3_⟩; have bC : A0b (bM.heap[am]? = some (.cells #[.int .u64 a8, .int .i64 a9, .int .i64 aA] 33 (0, 0))) := ⟨h4_⟩; have bD : A0b (Below w.heap.size w bM) := ⟨h5_⟩; clear al; clear ar; clear ac; clear aa; clear aj; clear HB; clear h0_ h1_ h2_ h3_ h4_ h5_; have al := be; have ar := bf; have ac := bh; have aa := bi; have aj := bC; have HB := bD; clear be bf bh bi bC bD; have hHeld := trivial; refine norm_ (a' := ?_) ?_ ?_
                  rotate_left
                  ·simp only [putAll, Act.put, List.setIfInBounds_toArray, List.set_cons_zero, List.set_cons_succ]
                   rfl
                  refine pv 15 108 ?_; refine pv 16 109 ?_; refine A3u (A22 HT_.out (by kernel_rfl)) ?_
                  try go_wp2
                  go_meet
                  case rel => exact ⟨_, (((strOfNums a7).toList != (strOfNums (l1.take ((aE) : Int).toNat)).toList)), (by first | rfl | (simp; done) | (simp only [← ay] <;> (first | rfl | simp)) | (simp [*]; done)), H', ⟨by have := bw.out; have := cq.out; first | omega | exact Nat.le_refl _⟩, ⟨by (with_reducible repeat (first | apply Kd.R_alloc | apply Kd.A00 | apply Kd.A02)); exact Kd.A1e ar.out (fun _ hk => trivial)⟩, ⟨kb ac⟩, ⟨kb aa⟩, ⟨kb aj⟩, ⟨(kl HB)⟩⟩
                 exact (kA cI H).elim
                rw [kIn cH] at H; obtain ⟨aJ, bB⟩ := kqF cH
                (first | rw [aJ] | (simp only [A2i, A2u]; rw [aJ]) | skip)
                have H' := ak H; clear H
                try go_wp2
                generalize hw_ : (((eY.setCell ⟨am, 0, none⟩ (.int .u64 a8)).setCell ⟨am, 1, none⟩ (.int .i64 a9)).setCell ⟨am, 2, none⟩ (.int .i64 aA)) = dL; have be : A0b (Kd.R (Kd.int .u8) 5 dL w.heap.size (fun k_ => some k_ ≠ (bu : Value).ownBlock) (.slice aM a3.length aN) a3) := ⟨by rw [← hw_]; (with_reducible repeat (first | apply Kd.R_alloc | apply Kd.A00 | apply Kd.A02)); exact Kd.A1e (Kd.A03 (p := ⟨am, 2, none⟩) (Kd.A03 (p := ⟨am, 1, none⟩) (Kd.A03 (p := ⟨am, 0, none⟩) (Kd.A2a al.out aj.out (by decide)) (fun _ hk => hk.2) (.int .u64 a8)) (fun _ hk => hk.2) (.int .i64 a9)) (fun _ hk => hk.2) (.int .i64 aA)) (fun _ hk => hk.1.2)⟩; have bf : A0b (Kd.R (Kd.int .u8) 5 dL w.heap.size (fun k_ => some k_ ≠ (.slice aM a3.length aN : Value).ownBlock) bu a7) := ⟨by rw [← hw_]; (with_reducible repeat (first | apply Kd.R_alloc | apply Kd.A00 | apply Kd.A02)); exact Kd.A1e (Kd.A03 (p := ⟨am, 2, none⟩) (Kd.A03 (p := ⟨am, 1, none⟩) (Kd.A03 (p := ⟨am, 0, none⟩) (Kd.A2a ar.out aj.out (by decide)) (fun _ hk => hk.2) (.int .u64 a8)) (fun _ hk => hk.2) (.int .i64 a9)) (fun _ hk => hk.2) (.int .i64 aA)) (fun _ hk => hk.1.2)⟩; have bh := mv hw_ (kb ac); have bi := mv hw_ (kb aa); have bC := mv hw_ (kb aj); have bD : A0b (Below w.heap.size w dL) := ⟨by rw [← hw_]; repeat (first | (with_reducible first | exact HB.out | apply A2k | apply A2e | apply A04 | refine A1y ?_ aP.out | refine A1y ?_ aQ.out | refine A1y ?_ bA.out) | exact HB.out)⟩; clear hw_; have al := be; have ar := bf; have ac := bh; have aa := bi; have aj := bC; have HB := bD; clear be bf bh bi bC bD; replace al := ak (Kd.A02 al.out); replace ar := ak (Kd.A02 ar.out); replace ac := ak (A0v ac.out); replace aa := ak (A0v aa.out); replace aj := ak (A0v aj.out); replace HB := ak (A04 HB.out); obtain ⟨fE, fF, cM⟩ := Kd.A11 ar.out
                (first | subst cM | (injection cM with f1_ f2_ f3_; have f4_ := f1_.symm; have f5_ := f3_.symm; clear f1_ f2_ f3_; subst f4_; subst f5_))
                refine A28 (n := 17) (S := fun w' => True) (ds := []) (bl 17 0) (by kernel_rfl) rfl rfl trivial (fun hHeld => ?_); refine A2j A0h.tab24 A0h.bits24 (fun HT_ HW_ => ?_)
                generalize dL.drew = ga at al ar ac aa aj HB hHeld ⊢; refine pv 0 93 ?_; refine pv 1 94 ?_; refine pv 2 95 ?_; refine pv 3 96 ?_; refine pv 4 97 ?_; refine pv 5 98 ?_; refine pv 6 99 ?_; refine po 7 (some 100) (bl 17 255) (h := ?_)
                refine po 8 (some 101) (bl 17 511) (h := ?_)
                refine po 9 (some 102) (bl 17 1023) (h := ?_)
                refine po 10 (some 103) (bl 17 2047) (h := ?_)
                refine po 11 (some 104) (bl 17 4095) (h := ?_)
                refine po 12 (some 105) (bl 17 8191) (h := ?_)
                refine po 13 (some 106) (bl 17 16383) (h := ?_)
                refine po 14 (some 107) (bl 17 32767) (h := ?_)
                refine po 15 (some 108) (bl 17 65535) (h := ?_)
                refine pv 16 109 ?_; refine A3u (A22 HT_.out (by kernel_rfl)) ?_
                try go_wp2
                go_meet
                case rel => exact ⟨_, (true), kE, H', ⟨by have := bw.out; have := cq.out; first | omega | exact Nat.le_refl _⟩, ⟨by (with_reducible repeat (first | apply Kd.R_alloc | apply Kd.A00 | apply Kd.A02)); exact Kd.A1e ar.out (fun _ hk => trivial)⟩, ⟨kb ac⟩, ⟨kb aa⟩, ⟨kb aj⟩, ⟨(kl HB)⟩⟩
               case rest =>
                clear bJ; obtain ⟨kq, aG, rfl, HA, fG, HO_13, ac, aa, aj, HB⟩ := hcut
                cases kq with
                | zero => exact absurd HA.out (by simp [A0h.j2])
                | succ fH =>
                 have H := HA.out; clear HA; simp only [A0h.j2] at H
                 by_cases dM : aG = true
                 ·subst dM
                  rw [if_pos rfl] at H; simp only [Option.some.injEq, Prod.mk.injEq] at H; obtain ⟨rfl, rfl, rfl, rfl, rfl, rfl⟩ := H; have fi := ah.out; have fj := ag.out; have fk := aC.out; have fl := aD.out; obtain ⟨dN, dO, dP⟩ := kc3 aa; obtain ⟨dQ, dR, dS⟩ := kf3 aa
                  go_wp2
                  refine bodyPost_ret (A1c (rs := [.tmp 4, .cell 5 33, .tmp 6, .tmp 7]) rfl (by simp) (.tmp (.cell au 33 #[.int .u64 0, .int .i64 0, .int .i64 0] (0, 0) _ rfl (kb aa) Tryd.underlying33 rfl (by kernel_rfl) (.tmp (.tmp .nil))))) rfl ?_
                  exact ⟨by first | rfl | (simp [A0i, A0j] <;> rfl) | (simp only [← ba]; first | rfl | (simp [A0i, A0j] <;> rfl)) | (simp [*, A0i, A0j] <;> rfl), (kl HB)⟩
                 replace dM := Bool.eq_false_iff.mpr dM; subst dM
                 rw [if_neg (show ¬ (false = true) by decide)] at H; simp only [Option.some.injEq, Prod.mk.injEq] at H; obtain ⟨rfl, rfl, rfl, rfl, rfl, rfl⟩ := H
                 try go_wp2
                 replace HO_13 := ak (Kd.A02 HO_13.out); replace ac := ak (A0v ac.out); replace aa := ak (A0v aa.out); replace aj := ak (A0v aj.out); replace HB := ak (A04 HB.out); obtain ⟨fI, fJ, cN⟩ := Kd.A11 HO_13.out
                 (first | subst cN | (injection cN with f1_ f2_ f3_; have f4_ := f1_.symm; have f5_ := f3_.symm; clear f1_ f2_ f3_; subst f4_; subst f5_))
                 refine A28 (n := 8) (S := fun w' => w'.cell? ⟨am, 0, none⟩ = some (.int .u64 a8) ∧ w'.cell? ⟨am, 1, none⟩ = some (.int .i64 a9) ∧ w'.cell? ⟨am, 2, none⟩ = some (.int .i64 aA)) (ds := []) (bl 8 0) (by kernel_rfl) rfl rfl kz (fun hHeld => ?_); refine A2j A0h.tab26 A0h.bits26 (fun HT_ HW_ => ?_)
                 generalize wc.drew = gb at HO_13 ac aa aj HB hHeld ⊢; refine pv 0 111 ?_; refine pv 2 113 ?_; refine pv 3 114 ?_; refine pv 4 4 ?_; refine ta 1 (some 112) (bl 8 31) (h := ?_); refine one_ (i := 5) (N := none) (bl 8 63) rfl rfl (A2s HT_.out (by kernel_rfl)) (by decide) (fun K hK => ?_); have fK := (kc3 aa).1; have fm := A0d aa.out 0; have dT := ag.out; have dU := aD.out; have dV := ah.out; have dW := aC.out; have fL := (kc3 aa).2.1; have fo := A0d aa.out 1; have fM := (kc3 aa).2.2; have fp := A0d aa.out 2; refine skip_ (w1 := ?_) (by rfl) rfl ?_ ?_
                 rotate_left
                 ·go_simp
                  rfl
                 refine hK.out _ _ (ks hHeld) (fun hHeld => ?_); clear hK K; refine pv 6 6 ?_; refine pv 7 7 ?_; refine A3u (A22 HT_.out (by kernel_rfl)) ?_
                 try go_wp2
                 refine bodyPost_ret (A1c (rs := [.tmp 4, .cell 5 33, .tmp 6, .tmp 7]) rfl (by simp) (.tmp (.cell au 33 #[.int .u64 a8, .int .i64 a9, .int .i64 aA] (0, 0) _ rfl (kb aa) Tryd.underlying33 rfl (by kernel_rfl) (.tmp (.tmp .nil))))) rfl ?_
                 exact ⟨by first | rfl | (simp [A0i, A0j] <;> rfl) | (simp only [← ba]; first | rfl | (simp [A0i, A0j] <;> rfl)) | (simp [*, A0i, A0j] <;> rfl), (kl HB)⟩
              exact (kA d6 H).elim
             exact (kA cB H).elim
            exact (kA d5 H).elim
           exact (kA cx H).elim
          exact (kA cu H).elim
         exact (kA ct H).elim
        exact (kA cs H).elim
       exact (kA cr H).elim
  exact (kA cX H).elim
 exact (kA c8 H).elim
end Go.Proofs.YtodocfjbpkicgaaDoor.All
