-- copied by a program of the session
import Derived.Test.YtodocfjbpkicgaaDoorKvAllx8
import Derived.Test.YtodocfjbpkicgaaDoorKvAllx13
namespace Go.Proofs.YtodocfjbpkicgaaDoor.All
open Go.RowKit Go.Proofs.YtodocfjbpkicgaaDoorW.PrintWords Go.Proofs.YtodocfjbpkicgaaDoorW.PrintLast Go.Proofs.YtodocfjbpkicgaaDoorW.PrintMore
attribute [local go_sem] A17 A18 A2o A2p A1y A1z A19 A2a
set_option linter.unusedVariables false
set_option linter.unusedSimpArgs false
mutual
def A0q.j0 : Nat → Bool → Int → List Int → Int → Int → Int → Int → Int → Option (Int × Int × Int × Int × Option Int × List Int × Int × Int)
 | 0, _, _, _, _, _, _, _, _ => none
 | k + 1, x8, x9, af, ag, ah, ae, ac, ad => if x8 = true then (if x9 = 1 then ((A1x.f k af ag ah).bind fun aa => (if aa.2.2.1.isNone = true then (A0q.j1 k x9 aa.1 aa.2.1 aa.2.2.2.1 aa.2.2.2.2.1 aa.2.2.2.2.2 ae ac ad) else (some (0, ae, ac, ad, some (aa.2.2.1.getD 0), aa.2.2.2.1, aa.2.2.2.2.1, aa.2.2.2.2.2)))) else (A0q.j1 k x9 ac ad af ag ah ae ac ad)) else (some (0, ae, ac, ad, some 2, af, ag, ah))
def A0q.j1 : Nat → Int → Int → Int → List Int → Int → Int → Int → Int → Int → Option (Int × Int × Int × Int × Option Int × List Int × Int × Int)
 | 0, _, _, _, _, _, _, _, _, _ => none
 | k + 1, x9, aj, ai, af, ag, ah, ac, ad, ae => if ai = 0 then (some (0, ac, ad, ae, some 3, af, ag, ah)) else ((A0j.f k af ag ah ai).bind fun aa => (A0q.j2 k aa.2.1 x9 aj ai aa.1 aa.2.2.1 aa.2.2.2.1 aa.2.2.2.2 ac ad ae))
def A0q.j2 : Nat → Bool → Int → Int → Int → Int → List Int → Int → Int → Int → Int → Int → Option (Int × Int × Int × Int × Option Int × List Int × Int × Int)
 | 0, _, _, _, _, _, _, _, _, _, _, _ => none
 | k + 1, x8, x9, aj, ai, al, af, ag, ah, aa, ac, ad => if x8 = true then (if 0 ≤ (wrap64 ((wrap64 (64 - aj)) - ai)) then ((A1b.f k aa ac ad (Go.bits .xor .u64 aa (shl .u64 al (wrap64 ((wrap64 (64 - aj)) - ai))))).bind fun ae => (A0q.j3 k x9 aj ai (Go.bits .xor .u64 aa (shl .u64 al (wrap64 ((wrap64 (64 - aj)) - ai)))) (wrap64 (2 + ai)) af ag ah aa ac ad ae.1 ae.2.1 ae.2.2.1 ae.2.2.2.1 ae.2.2.2.2)) else (none)) else (some (0, aa, ac, ad, some 2, af, ag, ah))
def A0q.j3 : Nat → Int → Int → Int → Int → Int → List Int → Int → Int → Int → Int → Int → List Int → Int → Int → Int → Int → Option (Int × Int × Int × Int × Option Int × List Int × Int × Int)
 | 0, _, _, _, _, _, _, _, _, _, _, _, _, _, _, _, _ => none
 | k + 1, x9, ap, aq, an, ao, ae, af, ag, aa, ac, ad, ah, al, am, ai, aj => if x9 = 1 then (if al = (wrap64 (ao + 12)) then (if ai = ap then (if aj = aq then (if 0 < (ah.length : Int) then (if (((rd ah 0) / 64) = 3) then (some (an, am, ai, aj, none, ae, af, ag)) else (some (0, aa, ac, ad, some 3, ae, af, ag))) else (none)) else (some (0, aa, ac, ad, some 3, ae, af, ag))) else (some (0, aa, ac, ad, some 3, ae, af, ag))) else (some (0, aa, ac, ad, some 3, ae, af, ag))) else (if al = ao then (if 0 < (ah.length : Int) then (if ((rd ah 0) / 64) = 3 then (some (0, aa, ac, ad, some 3, ae, af, ag)) else (some (an, am, ai, aj, none, ae, af, ag))) else (none)) else (some (0, aa, ac, ad, some 3, ae, af, ag)))
end
def A0q.f (k : Nat) (ag : List Int) (ah : Int) (ai : Int) (ad : Int) (ae : Int) (af : Int) : Option (Int × Int × Int × Int × Option Int × List Int × Int × Int) := (A0j.f k ag ah ai 1).bind fun aa => (if aa.2.1 = true then (if aa.1 = 0 then (some (ad, ad, ae, af, none, aa.2.2.1, aa.2.2.2.1, aa.2.2.2.2)) else ((A0j.f k aa.2.2.1 aa.2.2.2.1 aa.2.2.2.2 1).bind fun ac => (A0q.j0 k ac.2.1 ac.1 ac.2.2.1 ac.2.2.2.1 ac.2.2.2.2 ad ae af))) else (some (0, ad, ae, af, some 2, aa.2.2.1, aa.2.2.2.1, aa.2.2.2.2)))
theorem A0q.A2w : ∀ k, (∀ y0 y1 y2 y3 y4 y5 y6 y7, LeO (A0q.j0 k y0 y1 y2 y3 y4 y5 y6 y7) (A0q.j0 (k + 1) y0 y1 y2 y3 y4 y5 y6 y7)) ∧ (∀ y0 y1 y2 y3 y4 y5 y6 y7 y8, LeO (A0q.j1 k y0 y1 y2 y3 y4 y5 y6 y7 y8) (A0q.j1 (k + 1) y0 y1 y2 y3 y4 y5 y6 y7 y8)) ∧ (∀ y0 y1 y2 y3 y4 y5 y6 y7 y8 y9 aa, LeO (A0q.j2 k y0 y1 y2 y3 y4 y5 y6 y7 y8 y9 aa) (A0q.j2 (k + 1) y0 y1 y2 y3 y4 y5 y6 y7 y8 y9 aa)) ∧ (∀ y0 y1 y2 y3 y4 y5 y6 y7 y8 y9 aa ac ad ae af ag, LeO (A0q.j3 k y0 y1 y2 y3 y4 y5 y6 y7 y8 y9 aa ac ad ae af ag) (A0q.j3 (k + 1) y0 y1 y2 y3 y4 y5 y6 y7 y8 y9 aa ac ad ae af ag))
 | 0 => ⟨fun _ _ _ _ _ _ _ _ r h => by simp [A0q.j0] at h, fun _ _ _ _ _ _ _ _ _ r h => by simp [A0q.j1] at h, fun _ _ _ _ _ _ _ _ _ _ _ r h => by simp [A0q.j2] at h, fun _ _ _ _ _ _ _ _ _ _ _ _ _ _ _ _ r h => by simp [A0q.j3] at h⟩
 | k + 1 => by
  obtain ⟨ih0, ih1, ih2, ih3⟩ := A0q.A2w k
  refine ⟨?_, ?_, ?_, ?_⟩ <;> intros <;> (first | unfold A0q.j0 | unfold A0q.j1 | unfold A0q.j2 | unfold A0q.j3) <;> (
   repeat' first
   | (with_reducible exact ih0 _ _ _ _ _ _ _ _)
   | (with_reducible exact ih1 _ _ _ _ _ _ _ _ _)
   | (with_reducible exact ih2 _ _ _ _ _ _ _ _ _ _ _)
   | (with_reducible exact ih3 _ _ _ _ _ _ _ _ _ _ _ _ _ _ _ _)
   | (with_reducible exact A1x.mono _ _ _ _)
   | (with_reducible exact A0j.mono _ _ _ _ _)
   | (with_reducible exact A1b.mono _ _ _ _ _)
   | (with_reducible exact LeO.refl _)
   | (with_reducible exact LeO.none _)
   | (with_reducible refine LeO.ite ?_ ?_)
   | (with_reducible refine LeO.bind ?_ (fun _ => ?_))
   | exact ih0 _ _ _ _ _ _ _ _
   | exact ih1 _ _ _ _ _ _ _ _ _
   | exact ih2 _ _ _ _ _ _ _ _ _ _ _
   | exact ih3 _ _ _ _ _ _ _ _ _ _ _ _ _ _ _ _
   | exact A1x.mono _ _ _ _
   | exact A0j.mono _ _ _ _ _
   | exact A1b.mono _ _ _ _ _
   | exact LeO.none _
   | refine LeO.ite ?_ ?_
   | refine LeO.bind ?_ (fun _ => ?_))
theorem A0q.mono : ∀ a0 a1 a2 a3 a4 a5 k, LeO (A0q.f k a0 a1 a2 a3 a4 a5) (A0q.f (k + 1) a0 a1 a2 a3 a4 a5) := by
 intro a0 a1 a2 a3 a4 a5 k
 obtain ⟨ih0, ih1, ih2, ih3⟩ := A0q.A2w k
 unfold A0q.f
 repeat' first
   | (with_reducible exact ih0 _ _ _ _ _ _ _ _)
   | (with_reducible exact ih1 _ _ _ _ _ _ _ _ _)
   | (with_reducible exact ih2 _ _ _ _ _ _ _ _ _ _ _)
   | (with_reducible exact ih3 _ _ _ _ _ _ _ _ _ _ _ _ _ _ _ _)
   | (with_reducible exact A1x.mono _ _ _ _)
   | (with_reducible exact A0j.mono _ _ _ _ _)
   | (with_reducible exact A1b.mono _ _ _ _ _)
   | (with_reducible exact LeO.refl _)
   | (with_reducible exact LeO.none _)
   | (with_reducible refine LeO.ite ?_ ?_)
   | (with_reducible refine LeO.bind ?_ (fun _ => ?_))
   | exact ih0 _ _ _ _ _ _ _ _
   | exact ih1 _ _ _ _ _ _ _ _ _
   | exact ih2 _ _ _ _ _ _ _ _ _ _ _
   | exact ih3 _ _ _ _ _ _ _ _ _ _ _ _ _ _ _ _
   | exact A1x.mono _ _ _ _
   | exact A0j.mono _ _ _ _ _
   | exact A1b.mono _ _ _ _ _
   | exact LeO.none _
   | refine LeO.ite ?_ ?_
   | refine LeO.bind ?_ (fun _ => ?_)
def A0q.T20 : Bool × List (List Nat × List Nat) := (true, [([], []), ([0], [0]), ([], []), ([], []), ([3], [3]), ([], []), ([4, 5], [4, 5]), ([2, 6], [2, 6]), ([1, 7], [1, 7]), ([8, 0, 1, 2, 3, 4, 5, 6, 7, 8], [8])])
def A0q.B20 : List Nat := [0, 1, 0, 0, 8, 0, 56, 124, 255, 511]
theorem A0q.tab20 : rtab .any (opsOf Tryd.f76 20) = A0q.T20 := by kernel_rfl
theorem A0q.bits20 : A3j A0q.T20.2 A0q.B20 = true := by kernel_rfl
set_option maxHeartbeats 8000000 in
set_option maxRecDepth 100000 in
theorem A0q.calls (k : Nat) (g : Nat) (aM : List Int) (aN : Int) (aO : Int) (ag : Int) (an : Int) (ao : Int) (r1 : Int) (r2 : Int) (r3 : Int) (r4 : Int) (r5 : Option Int) (r6 : List Int) (r7 : Int) (r8 : Int) (w0 w : World) (hT : A3e w0) (hI : A0b w0 w g aM aN aO) (hB : Below w0.heap.size w0 w) (h : A0q.f k aM aN aO ag an ao = some (r1, r2, r3, r4, r5, r6, r7, r8)) :
  Calls Tryd.prog 76 #[.pointer (some ⟨g, 0, none⟩), .agg #[.int .u64 ag, .int .i64 an, .int .i64 ao]] w fun e w' => e = .returned (.tuple #[.int .u64 r1, .agg #[.int .u64 r2, .int .i64 r3, .int .i64 r4], errW r5]) ∧ A0b w0 w' g r6 r7 r8 ∧ Below w0.heap.size w0 w' ∧ A0f w w' g none := by
 have hu30 := Tryd.underlying30; have hu161 := Tryd.underlying161; have hu38 := Tryd.underlying38; have hu94 := Tryd.underlying94; have HT := ak hT; clear hT; have am := ak hI; have HK := ak (A0f.refl w g none); have HL := ak hB.size; clear hI; have HW0 := ak hB.size; have HB := ak hB; clear hB; have H : ((A0j.f k aM aN aO 1).bind fun aP => (if aP.2.1 = true then (if aP.1 = 0 then (some (ag, ag, an, ao, none, aP.2.2.1, aP.2.2.2.1, aP.2.2.2.2)) else ((A0j.f k aP.2.2.1 aP.2.2.2.1 aP.2.2.2.2 1).bind fun bn => (A0q.j0 k bn.2.1 bn.1 bn.2.2.1 bn.2.2.2.1 bn.2.2.2.2 ag an ao))) else (some (0, ag, an, ao, some 2, aP.2.2.1, aP.2.2.2.1, aP.2.2.2.2)))) = some (r1, r2, r3, r4, r5, r6, r7, r8) := h; clear h; replace H := bkH H; obtain ⟨⟨b9, f3, bA, bB, bC⟩, A3, H⟩ := H; (try dsimp only at H)
 by_cases c4 : f3 = true
 ·subst c4
  rw [if_pos rfl] at H
  by_cases c5 : b9 = 0
  ·rw [if_pos c5] at H; obtain ⟨f4, f5⟩ := kqT c5; clear c5; simp only [Option.some.injEq, Prod.mk.injEq] at H; obtain ⟨rfl, rfl, rfl, rfl, rfl, rfl, rfl, rfl⟩ := H
   go_enter Tryd.func76, Tryd.ntmps76
   try go_wp2_with (first | ((with_reducible refine A0s (N := 3) rfl ?_); refine bxe 3 #[.int .u64 ag, .int .i64 an, .int .i64 ao] 30 (h := ?_); intro ad hg w6 hbox hb; replace HB := ak (A0n (A0b.kl HB) hb); have ac := ak (hbox); have bI := ak ((by rw [hg]; exact (A0z (w := w) (g := g) (row := none) (kk HK)) : w.heap.size ≤ ad)); have bJ := ak ((Nat.le_trans HW0.out (by rw [hg]; exact (A0z (w := w) (g := g) (row := none) (kk HK)) : w.heap.size ≤ ad) : w0.heap.size ≤ ad)); replace HK := ak (A0f.trans (kk HK) (A0f.of_below hb g none) (.inl rfl)); have bg := ak ((by rw [hg]; exact Nat.ne_of_lt (A0b.lt (show A0b w0 _ g aM aN aO from A0b.k am)) : g ≠ ad)); have a4 := ak ((by rw [hg]; exact Nat.ne_of_gt (A0b.lt (show A0b w0 _ g aM aN aO from A0b.k am)) : ad ≠ g)); replace am := ak (A0b.below (A0b.k am) hb); clear hb hbox hg) | ((with_reducible refine A0s (N := 5) rfl ?_); refine bxe 5 #[.int .u64 0, .int .i64 0, .int .i64 0] 30 (h := ?_); intro af hg w7 hbox hb; replace HB := ak (A0n (A0b.kl HB) hb); have aa := ak (hbox); have bK := ak ((by rw [hg]; exact (A0z (w := w) (g := g) (row := none) (kk HK)) : w.heap.size ≤ af)); have bL := ak ((Nat.le_trans HW0.out (by rw [hg]; exact (A0z (w := w) (g := g) (row := none) (kk HK)) : w.heap.size ≤ af) : w0.heap.size ≤ af)); replace HK := ak (A0f.trans (kk HK) (A0f.of_below hb g none) (.inl rfl)); obtain ⟨ah, ai⟩ := kN hg ac; replace ac := kB ac hb; have bt := ak ((by rw [hg]; exact Nat.ne_of_lt (A0b.lt (show A0b w0 _ g aM aN aO from A0b.k am)) : g ≠ af)); have a5 := ak ((by rw [hg]; exact Nat.ne_of_gt (A0b.lt (show A0b w0 _ g aM aN aO from A0b.k am)) : af ≠ g)); replace am := ak (A0b.below (A0b.k am) hb); clear hb hbox hg) | ((with_reducible refine A0m (f := 98) rfl ?_); refine A07 (some 20) rfl rfl Tryd.func98 (by kernel_rfl) rfl #[.pointer (some ⟨g, 0, none⟩), .int .i64 1] rfl km ?_; (with_reducible refine (A0j.calls k g aM aN aO 1 b9 true bA bB bC w0 _ ?a8 ?aE A3.out).mono ?_); (case a8 => exact A0b.k am); (case aE => exact A0b.kl HB); rintro e w8 ⟨rfl, hi, hb, hk⟩; refine ⟨_, rfl, ?_⟩; replace ac := ak (A0f.blk hk (g' := ad) (o := .cells #[.int .u64 ag, .int .i64 an, .int .i64 ao] 30 (0, 0)) (kb ac) a4.out (by simp)); replace aa := ak (A0f.blk hk (g' := af) (o := .cells #[.int .u64 0, .int .i64 0, .int .i64 0] 30 (0, 0)) (kb aa) a5.out (by simp)); replace HK := ak (A0f.trans (kk HK) hk (.inl rfl)); replace HB := ak (hb); replace am := ak (hi); ))
   replace ac := ak (A0o ac.out); replace aa := ak (A0o aa.out); replace am := ak (A0b.drew am.out); replace HK := ak (A1r HK.out); replace HB := ak (A0e HB.out); refine A12 (n := 6) (S := fun w' => w'.cell? ⟨ad, 0, none⟩ = some (.int .u64 ag) ∧ w'.cell? ⟨ad, 1, none⟩ = some (.int .i64 an) ∧ w'.cell? ⟨ad, 2, none⟩ = some (.int .i64 ao)) (ds := []) (bl 6 0) (by kernel_rfl) rfl rfl kz (fun hHeld => ?_); generalize w8.drew = w9 at ac aa am HK HB hHeld ⊢; refine pu 0 (some 29) (bl 6 1) (h := ?_); refine ta 1 (some 30) (bl 6 3) (h := ?_); refine pu 3 (some 4) (bl 6 11) (h := ?_); refine ta 2 (some 31) (bl 6 15) (h := ?_); refine one_ (i := 4) (N := none) (bl 6 31) rfl rfl (by kernel_rfl) (by decide) (fun K hK => ?_); have ji := (kc3 aa).1; have gX := A0c aa.out 0; have ey := ah.out; have ez := ai.out; have jj := (kc3 aa).2.1; have gY := A0c aa.out 1; have jk := (kc3 aa).2.2; have gZ := A0c aa.out 2; refine A2x (w1 := ?_) (by rfl) rfl ?_ ?_
   rotate_left
   ·go_simp
    rfl
   refine hK.out _ _ (ks hHeld) (fun hHeld => ?_); clear hK K; refine pu 5 (some 6) (bl 6 63) (h := ?_); refine A2y (by kernel_rfl) ?_
   try go_wp2
   refine bodyPost_ret (A06 (rs := [.tmp 4, .cell 5 30, .tmp 6]) rfl (by simp) (.tmp (.cell af 30 #[.int .u64 ag, .int .i64 an, .int .i64 ao] (0, 0) _ rfl (kb aa) Tryd.underlying30 rfl (by kernel_rfl) (.tmp .nil)))) rfl ?_
   exact ⟨kF, (A0b.k am), (A0b.kl HB), (kk HK)⟩
  ·rw [if_neg c5] at H; obtain ⟨f4, f5⟩ := kqF c5; have bS := ak H; clear H
   go_enter Tryd.func76, Tryd.ntmps76
   go_upto_region 6 with (first | ((with_reducible refine A0s (N := 3) rfl ?_); refine bxe 3 #[.int .u64 ag, .int .i64 an, .int .i64 ao] 30 (h := ?_); intro ad hg jO hbox hb; replace HB := ak (A0n (A0b.kl HB) hb); have ac := ak (hbox); have bI := ak ((by rw [hg]; exact (A0z (w := w) (g := g) (row := none) (kk HK)) : w.heap.size ≤ ad)); have bJ := ak ((Nat.le_trans HW0.out (by rw [hg]; exact (A0z (w := w) (g := g) (row := none) (kk HK)) : w.heap.size ≤ ad) : w0.heap.size ≤ ad)); replace HK := ak (A0f.trans (kk HK) (A0f.of_below hb g none) (.inl rfl)); have bg := ak ((by rw [hg]; exact Nat.ne_of_lt (A0b.lt (show A0b w0 _ g aM aN aO from A0b.k am)) : g ≠ ad)); have a4 := ak ((by rw [hg]; exact Nat.ne_of_gt (A0b.lt (show A0b w0 _ g aM aN aO from A0b.k am)) : ad ≠ g)); replace am := ak (A0b.below (A0b.k am) hb); clear hb hbox hg) | ((with_reducible refine A0s (N := 5) rfl ?_); refine bxe 5 #[.int .u64 0, .int .i64 0, .int .i64 0] 30 (h := ?_); intro af hg jP hbox hb; replace HB := ak (A0n (A0b.kl HB) hb); have aa := ak (hbox); have bK := ak ((by rw [hg]; exact (A0z (w := w) (g := g) (row := none) (kk HK)) : w.heap.size ≤ af)); have bL := ak ((Nat.le_trans HW0.out (by rw [hg]; exact (A0z (w := w) (g := g) (row := none) (kk HK)) : w.heap.size ≤ af) : w0.heap.size ≤ af)); replace HK := ak (A0f.trans (kk HK) (A0f.of_below hb g none) (.inl rfl)); obtain ⟨ah, ai⟩ := kN hg ac; replace ac := kB ac hb; have bt := ak ((by rw [hg]; exact Nat.ne_of_lt (A0b.lt (show A0b w0 _ g aM aN aO from A0b.k am)) : g ≠ af)); have a5 := ak ((by rw [hg]; exact Nat.ne_of_gt (A0b.lt (show A0b w0 _ g aM aN aO from A0b.k am)) : af ≠ g)); replace am := ak (A0b.below (A0b.k am) hb); clear hb hbox hg) | ((with_reducible refine A0m (f := 98) rfl ?_); refine A07 (some 20) rfl rfl Tryd.func98 (by kernel_rfl) rfl #[.pointer (some ⟨g, 0, none⟩), .int .i64 1] rfl km ?_; (with_reducible refine (A0j.calls k g aM aN aO 1 b9 true bA bB bC w0 _ ?a8 ?aE A3.out).mono ?_); (case a8 => exact A0b.k am); (case aE => exact A0b.kl HB); rintro e jQ ⟨rfl, hi, hb, hk⟩; refine ⟨_, rfl, ?_⟩; replace ac := ak (A0f.blk hk (g' := ad) (o := .cells #[.int .u64 ag, .int .i64 an, .int .i64 ao] 30 (0, 0)) (kb ac) a4.out (by simp)); replace aa := ak (A0f.blk hk (g' := af) (o := .cells #[.int .u64 0, .int .i64 0, .int .i64 0] 30 (0, 0)) (kb aa) a5.out (by simp)); replace HK := ak (A0f.trans (kk HK) hk (.inl rfl)); replace HB := ak (hb); replace am := ak (hi); ))
   (try simp only [Act.put, List.setIfInBounds_toArray, List.set_cons_zero, List.set_cons_succ])
   go_cut [8, 9] (fun v8 v9 wc => ∃ (kq : Nat) (bu : Bool) (aQ : Int) (aF : List Int) (aG : Int) (aH : Int), v8 = .bool bu ∧ v9 = .int .u64 aQ ∧ A0g (A0q.j0 kq bu aQ aF aG aH ag an ao = some (r1, r2, r3, r4, r5, r6, r7, r8)) ∧ A0g (kq ≤ k) ∧ A0g (wc.heap[ad]? = some (.cells #[.int .u64 ag, .int .i64 an, .int .i64 ao] 30 (0, 0))) ∧ A0g (wc.heap[af]? = some (.cells #[.int .u64 0, .int .i64 0, .int .i64 0] 30 (0, 0))) ∧ A0g (A0b w0 wc g aF aG aH) ∧ A0g (A0f w wc g none) ∧ A0g (Below w0.heap.size w0 wc))
   case first =>
    have H := bS.out; clear bS; replace H := bkH H; obtain ⟨⟨cg, ch, ci, cj, ck⟩, jl, H⟩ := H; (try dsimp only at H); have H' := ak H; clear H
    go_wp2_with (first | ((with_reducible refine A0m (f := 98) rfl ?_); refine A07 (some 34) rfl rfl Tryd.func98 (by kernel_rfl) rfl #[.pointer (some ⟨g, 0, none⟩), .int .i64 1] rfl km ?_; (with_reducible refine (A0j.calls k g bA bB bC 1 cg ch ci cj ck w0 _ ?a8 ?aE jl.out).mono ?_); (case a8 => exact A0b.k am); (case aE => exact A0b.kl HB); rintro e jR ⟨rfl, hi, hb, hk⟩; refine ⟨_, rfl, ?_⟩; replace ac := ak (A0f.blk hk (g' := ad) (o := .cells #[.int .u64 ag, .int .i64 an, .int .i64 ao] 30 (0, 0)) (kb ac) a4.out (by simp)); replace aa := ak (A0f.blk hk (g' := af) (o := .cells #[.int .u64 0, .int .i64 0, .int .i64 0] 30 (0, 0)) (kb aa) a5.out (by simp)); replace HK := ak (A0f.trans (kk HK) hk (.inl rfl)); replace HB := ak (hb); replace am := ak (hi); ))
    go_meet
    case rel => exact ⟨_, (ch), (cg), (ci), (cj), (ck), kE, kE, H', ⟨by first | omega | exact Nat.le_refl _⟩, ⟨kb ac⟩, ⟨kb aa⟩, ⟨(A0b.k am)⟩, ⟨(kk HK)⟩, ⟨(A0b.kl HB)⟩⟩
   case rest =>
    clear bS; obtain ⟨kq, bu, aQ, aF, aG, aH, rfl, rfl, HA, bD, ac, aa, am, HK, HB⟩ := hcut
    cases kq with
    | zero => exact absurd HA.out (by simp [A0q.j0])
    | succ bE =>
     have H := HA.out; clear HA; simp only [A0q.j0] at H
     by_cases e0 : bu = true
     ·subst e0
      rw [if_pos rfl] at H; have bT := ak H; clear H
      try go_wp2
      replace ac := ak (A0o ac.out); replace aa := ak (A0o aa.out); replace am := ak (A0b.drew am.out); replace HK := ak (A1r HK.out); replace HB := ak (A0e HB.out); refine A12 (n := 6) (S := fun w' => w'.cell? ⟨ad, 0, none⟩ = some (.int .u64 ag) ∧ w'.cell? ⟨ad, 1, none⟩ = some (.int .i64 an) ∧ w'.cell? ⟨ad, 2, none⟩ = some (.int .i64 ao)) (ds := []) (bl 6 0) (by kernel_rfl) rfl rfl kz (fun hHeld => ?_); generalize wc.drew = jS at ac aa am HK HB hHeld ⊢; refine pu 0 (some 41) (bl 6 1) (h := ?_); refine pu 2 (some 43) (bl 6 5) (h := ?_); refine ta 1 (some 42) (bl 6 7) (h := ?_); refine pu 4 (some 10) (bl 6 23) (h := ?_); refine ta 3 (some 44) (bl 6 31) (h := ?_); refine pu 5 (some 11) (bl 6 63) (h := ?_); refine A2y (by kernel_rfl) ?_
      go_upto_if 46 with (fail)
      go_cut [10, 11] (fun jm jo wc => ∃ (kq : Nat) (aD : Int) (a2 : Int) (aU : List Int) (aV : Int) (aW : Int) (a9 : Int) (aA : Int) (aB : Int), jm = .int .i64 aD ∧ jo = .int .i64 a2 ∧ A0g (A0q.j1 kq aQ aD a2 aU aV aW ag an ao = some (r1, r2, r3, r4, r5, r6, r7, r8)) ∧ A0g (kq ≤ bE) ∧ A0g (wc.heap[ad]? = some (.cells #[.int .u64 ag, .int .i64 an, .int .i64 ao] 30 (0, 0))) ∧ A0g (wc.heap[af]? = some (.cells #[.int .u64 a9, .int .i64 aA, .int .i64 aB] 30 (0, 0))) ∧ A0g (A0b w0 wc g aU aV aW) ∧ A0g (A0f w wc g none) ∧ A0g (Below w0.heap.size w0 wc))
      case first =>
       have H := bT.out; clear bT
       by_cases cm : aQ = 1
       ·rw [if_pos cm] at H; obtain ⟨bo, co⟩ := kqT cm; clear cm
        (first | rw [bo] | (simp only [A2b, A25]; rw [bo]) | skip)
        replace H := bkH H; obtain ⟨⟨bF, bG, f6, bz, b0, b1⟩, ha, H⟩ := H; (try dsimp only at H)
        rcases f6 with _ | bU
        ·have H1 : (A0q.j1 bE aQ bF bG bz b0 b1 ag an ao) = some (r1, r2, r3, r4, r5, r6, r7, r8) := by rw [if_pos (show (none : Option Int).isNone = true by rfl)] at H; exact H
         clear H; have H := H1; clear H1
         try simp only [A0k, A0l]
         have H' := ak H; clear H
         go_wp2_with (first | ((with_reducible refine A0m (f := 103) rfl ?_); refine A07 (some 49) rfl rfl Tryd.func103 (by kernel_rfl) rfl #[.pointer (some ⟨g, 0, none⟩)] rfl km ?_; (with_reducible refine (A1x.calls bE g aF aG aH bF bG none bz b0 b1 w0 _ ?a8 ?aE ha.out).mono ?_); (case a8 => exact A0b.k am); (case aE => exact A0b.kl HB); rintro e jT ⟨rfl, hi, hb, hk⟩; refine ⟨_, rfl, ?_⟩; replace ac := ak (A0f.blk hk (g' := ad) (o := .cells #[.int .u64 ag, .int .i64 an, .int .i64 ao] 30 (0, 0)) (kb ac) a4.out (by simp)); replace aa := ak (A0f.blk hk (g' := af) (o := .cells #[.int .u64 0, .int .i64 0, .int .i64 0] 30 (0, 0)) (kb aa) a5.out (by simp)); replace HK := ak (A0f.trans (kk HK) hk (.inl rfl)); replace HB := ak (hb); replace am := ak (hi); (try simp only [A0k, A0l])))
         go_meet
         case rel => exact ⟨_, (bF), (bG), (bz), (b0), (b1), (0), (0), (0), kE, kE, H', ⟨by have := bD.out; first | omega | exact Nat.le_refl _⟩, ⟨kb ac⟩, ⟨kb aa⟩, ⟨(A0b.k am)⟩, ⟨(kk HK)⟩, ⟨(A0b.kl HB)⟩⟩
        ·have H1 : (some (0, ag, an, ao, some bU, bz, b0, b1)) = some (r1, r2, r3, r4, r5, r6, r7, r8) := by rw [if_neg (show ¬ (some bU).isNone = true by simp)] at H; exact H
         clear H; have H := H1; clear H1
         try simp only [A0k, A0l]
         simp only [Option.some.injEq, Prod.mk.injEq] at H; obtain ⟨rfl, rfl, rfl, rfl, rfl, rfl, rfl, rfl⟩ := H
         try go_wp2_with (first | ((with_reducible refine A0m (f := 103) rfl ?_); refine A07 (some 49) rfl rfl Tryd.func103 (by kernel_rfl) rfl #[.pointer (some ⟨g, 0, none⟩)] rfl km ?_; (with_reducible refine (A1x.calls bE g aF aG aH bF bG (some bU) bz b0 b1 w0 _ ?a8 ?aE ha.out).mono ?_); (case a8 => exact A0b.k am); (case aE => exact A0b.kl HB); rintro e jp ⟨rfl, hi, hb, hk⟩; refine ⟨_, rfl, ?_⟩; replace ac := ak (A0f.blk hk (g' := ad) (o := .cells #[.int .u64 ag, .int .i64 an, .int .i64 ao] 30 (0, 0)) (kb ac) a4.out (by simp)); replace aa := ak (A0f.blk hk (g' := af) (o := .cells #[.int .u64 0, .int .i64 0, .int .i64 0] 30 (0, 0)) (kb aa) a5.out (by simp)); replace HK := ak (A0f.trans (kk HK) hk (.inl rfl)); replace HB := ak (hb); replace am := ak (hi); (try simp only [A0k, A0l])))
         replace ac := ak (A0o ac.out); replace aa := ak (A0o aa.out); replace am := ak (A0b.drew am.out); replace HK := ak (A1r HK.out); replace HB := ak (A0e HB.out); refine A12 (n := 5) (S := fun w' => w'.cell? ⟨ad, 0, none⟩ = some (.int .u64 ag) ∧ w'.cell? ⟨ad, 1, none⟩ = some (.int .i64 an) ∧ w'.cell? ⟨ad, 2, none⟩ = some (.int .i64 ao)) (ds := []) (bl 5 0) (by kernel_rfl) rfl rfl kz (fun hHeld => ?_); generalize jp.drew = jU at ac aa am HK HB hHeld ⊢; refine pu 1 (some 56) (bl 5 2) (h := ?_); refine pu 2 (some 4) (bl 5 6) (h := ?_); refine ta 0 (some 55) (bl 5 7) (h := ?_); refine one_ (i := 3) (N := none) (bl 5 15) rfl rfl (by kernel_rfl) (by decide) (fun K hK => ?_); have jq := (kc3 aa).1; have hc := A0c aa.out 0; have e4 := ah.out; have e5 := ai.out; have jr := (kc3 aa).2.1; have he := A0c aa.out 1; have js := (kc3 aa).2.2; have hf := A0c aa.out 2; refine A2x (w1 := ?_) (by rfl) rfl ?_ ?_
         rotate_left
         ·go_simp
          rfl
         refine hK.out _ _ (ks hHeld) (fun hHeld => ?_); clear hK K; refine pu 4 (some 6) (bl 5 31) (h := ?_); refine A2y (by kernel_rfl) ?_
         try go_wp2
         refine bodyPost_ret (A06 (rs := [.tmp 4, .cell 5 30, .tmp 6]) rfl (by simp) (.tmp (.cell af 30 #[.int .u64 ag, .int .i64 an, .int .i64 ao] (0, 0) _ rfl (kb aa) Tryd.underlying30 rfl (by kernel_rfl) (.tmp .nil)))) rfl ?_
         exact ⟨kF, (A0b.k am), (A0b.kl HB), (kk HK)⟩
       ·rw [if_neg cm] at H; obtain ⟨bo, co⟩ := kqF cm
        (first | rw [bo] | (simp only [A2b, A25]; rw [bo]) | skip)
        have H' := ak H; clear H
        go_wp2
        go_meet
        case rel => exact ⟨_, (an), (ao), (aF), (aG), (aH), (0), (0), (0), kE, kE, H', ⟨by have := bD.out; first | omega | exact Nat.le_refl _⟩, ⟨kb ac⟩, ⟨kb aa⟩, ⟨(A0b.k am)⟩, ⟨(kk HK)⟩, ⟨(A0b.kl HB)⟩⟩
      case rest =>
       clear bT; obtain ⟨kq, aD, a2, aU, aV, aW, a9, aA, aB, rfl, rfl, HA, cp, ac, aa, am, HK, HB⟩ := hcut
       cases kq with
       | zero => exact absurd HA.out (by simp [A0q.j1])
       | succ cq =>
        have H := HA.out; clear HA; simp only [A0q.j1] at H
        by_cases cr : a2 = 0
        ·rw [if_pos cr] at H; obtain ⟨cs, ct⟩ := kqT cr; clear cr; simp only [Option.some.injEq, Prod.mk.injEq] at H; obtain ⟨rfl, rfl, rfl, rfl, rfl, rfl, rfl, rfl⟩ := H
         try go_wp2
         replace ac := ak (A0o ac.out); replace aa := ak (A0o aa.out); replace am := ak (A0b.drew am.out); replace HK := ak (A1r HK.out); replace HB := ak (A0e HB.out); refine A12 (n := 5) (S := fun w' => w'.cell? ⟨ad, 0, none⟩ = some (.int .u64 ag) ∧ w'.cell? ⟨ad, 1, none⟩ = some (.int .i64 an) ∧ w'.cell? ⟨ad, 2, none⟩ = some (.int .i64 ao)) (ds := []) (bl 5 0) (by kernel_rfl) rfl rfl kz (fun hHeld => ?_); generalize wc.drew = jV at ac aa am HK HB hHeld ⊢; refine pu 1 (some 60) (bl 5 2) (h := ?_); refine pu 2 (some 4) (bl 5 6) (h := ?_); refine ta 0 (some 59) (bl 5 7) (h := ?_); refine one_ (i := 3) (N := none) (bl 5 15) rfl rfl (by kernel_rfl) (by decide) (fun K hK => ?_); have jt := (kc3 aa).1; have hh := A0c aa.out 0; have e6 := ah.out; have e7 := ai.out; have ju := (kc3 aa).2.1; have hl := A0c aa.out 1; have jv := (kc3 aa).2.2; have hm := A0c aa.out 2; refine A2x (w1 := ?_) (by rfl) rfl ?_ ?_
         rotate_left
         ·go_simp
          rfl
         refine hK.out _ _ (ks hHeld) (fun hHeld => ?_); clear hK K; refine pu 4 (some 6) (bl 5 31) (h := ?_); refine A2y (by kernel_rfl) ?_
         try go_wp2
         refine bodyPost_ret (A06 (rs := [.tmp 4, .cell 5 30, .tmp 6]) rfl (by simp) (.tmp (.cell af 30 #[.int .u64 ag, .int .i64 an, .int .i64 ao] (0, 0) _ rfl (kb aa) Tryd.underlying30 rfl (by kernel_rfl) (.tmp .nil)))) rfl ?_
         exact ⟨kF, (A0b.k am), (A0b.kl HB), (kk HK)⟩
        ·rw [if_neg cr] at H; obtain ⟨cs, ct⟩ := kqF cr; have bV := ak H; clear H
         go_upto_region 17 with (fail)
         go_cut [8, 13] (fun v8 jw wc => ∃ (kq : Nat) (bv : Bool) (aR : Int) (au : List Int) (av : Int) (aw : Int), v8 = .bool bv ∧ jw = .int .u64 aR ∧ A0g (A0q.j2 kq bv aQ aD a2 aR au av aw ag an ao = some (r1, r2, r3, r4, r5, r6, r7, r8)) ∧ A0g (kq ≤ cq) ∧ A0g (wc.heap[ad]? = some (.cells #[.int .u64 ag, .int .i64 an, .int .i64 ao] 30 (0, 0))) ∧ A0g (wc.heap[af]? = some (.cells #[.int .u64 a9, .int .i64 aA, .int .i64 aB] 30 (0, 0))) ∧ A0g (A0b w0 wc g au av aw) ∧ A0g (A0f w wc g none) ∧ A0g (Below w0.heap.size w0 wc))
         case first =>
          have H := bV.out; clear bV; replace H := bkH H; obtain ⟨⟨cu, cv, cw, cx, cy⟩, jx, H⟩ := H; (try dsimp only at H); have H' := ak H; clear H
          go_wp2_with (first | ((with_reducible refine A0m (f := 98) rfl ?_); refine A07 (some 64) rfl rfl Tryd.func98 (by kernel_rfl) rfl #[.pointer (some ⟨g, 0, none⟩), .int .i64 a2] rfl km ?_; (with_reducible refine (A0j.calls cq g aU aV aW a2 cu cv cw cx cy w0 _ ?a8 ?aE jx.out).mono ?_); (case a8 => exact A0b.k am); (case aE => exact A0b.kl HB); rintro e jW ⟨rfl, hi, hb, hk⟩; refine ⟨_, rfl, ?_⟩; replace ac := ak (A0f.blk hk (g' := ad) (o := .cells #[.int .u64 ag, .int .i64 an, .int .i64 ao] 30 (0, 0)) (kb ac) a4.out (by simp)); replace aa := ak (A0f.blk hk (g' := af) (o := .cells #[.int .u64 a9, .int .i64 aA, .int .i64 aB] 30 (0, 0)) (kb aa) a5.out (by simp)); replace HK := ak (A0f.trans (kk HK) hk (.inl rfl)); replace HB := ak (hb); replace am := ak (hi); ))
          go_meet
          case rel => exact ⟨_, (cv), (cu), (cw), (cx), (cy), kE, kE, H', ⟨by have := bD.out; have := cp.out; first | omega | exact Nat.le_refl _⟩, ⟨kb ac⟩, ⟨kb aa⟩, ⟨(A0b.k am)⟩, ⟨(kk HK)⟩, ⟨(A0b.kl HB)⟩⟩
         case rest =>
          clear bV; obtain ⟨kq, bv, aR, au, av, aw, rfl, rfl, HA, f7, ac, aa, am, HK, HB⟩ := hcut
          cases kq with
          | zero => exact absurd HA.out (by simp [A0q.j2])
          | succ bw =>
           have H := HA.out; clear HA; simp only [A0q.j2] at H
           by_cases e8 : bv = true
           ·subst e8
            rw [if_pos rfl] at H; obtain ⟨bh, aS⟩ : ∃ j_ : Int, (wrap64 ((wrap64 (64 - aD)) - a2)) = j_ := ⟨_, rfl⟩
            replace H : (if 0 ≤ (bh) then ((A1b.f bw ag an ao (Go.bits .xor .u64 ag (shl .u64 aR (bh)))).bind fun aT => (A0q.j3 bw aQ aD a2 (Go.bits .xor .u64 ag (shl .u64 aR (bh))) (wrap64 (2 + a2)) au av aw ag an ao aT.1 aT.2.1 aT.2.2.1 aT.2.2.2.1 aT.2.2.2.2)) else (none)) = some (r1, r2, r3, r4, r5, r6, r7, r8) := by first | (rw [aS] at H; exact H) | (simp only [aS] at H ⊢; exact H)
            have f8 : (IntKind.i64.wrap ((wrap64 (64 - aD)) - a2)) = bh := (A2b _).trans aS
            by_cases cz : 0 ≤ (bh)
            ·rw [if_pos cz] at H; have hn := eq_true cz; have hp := decide_eq_true cz; clear cz; obtain ⟨bq, aI⟩ : ∃ j_ : Int, (shl .u64 aR (bh)) = j_ := ⟨_, rfl⟩
             replace H : ((A1b.f bw ag an ao (Go.bits .xor .u64 ag (bq))).bind fun aT => (A0q.j3 bw aQ aD a2 (Go.bits .xor .u64 ag (bq)) (wrap64 (2 + a2)) au av aw ag an ao aT.1 aT.2.1 aT.2.2.1 aT.2.2.2.1 aT.2.2.2.2)) = some (r1, r2, r3, r4, r5, r6, r7, r8) := by first | (rw [aI] at H; exact H) | (simp only [aI] at H ⊢; exact H)
             have f9 : (IntKind.u64.wrap (aR * 2 ^ min (bh).toNat 64)) = bq := aI; have fA : (bh) ≤ 64 → (IntKind.u64.wrap (aR * 2 ^ (bh).toNat)) = bq := A3i aI; replace H := bkH H; obtain ⟨⟨aJ, bx, bp, bi, bj⟩, jy, H⟩ := H; (try dsimp only at H); have bW := ak H; clear H
             try go_wp2
             replace ac := ak (A0o ac.out); replace aa := ak (A0o aa.out); replace am := ak (A0b.drew am.out); replace HK := ak (A1r HK.out); replace HB := ak (A0e HB.out)
             refine A12 (n := 10) (S := fun w' => w'.cell? ⟨ad, 0, none⟩ = some (.int .u64 ag) ∧ w'.cell? ⟨ad, 1, none⟩ = some (.int .i64 an) ∧ w'.cell? ⟨ad, 2, none⟩ = some (.int .i64 ao)) (ds := []) (bl 10 0) (by kernel_rfl) rfl rfl kz (fun hHeld => ?_); refine A13 A0q.tab20 A0q.bits20 (fun HT_ HW_ => ?_)
             generalize wc.drew = jX at ac aa am HK HB hHeld ⊢; refine pu 0 (some 71) (bl 10 1) (h := ?_); refine pu 2 (some 73) (bl 10 5) (h := ?_); refine pu 3 (some 74) (bl 10 13) (h := ?_); refine pu 4 (some 75) (bl 10 29) (h := ?_); refine pu 5 (some 76) (bl 10 61) (h := ?_); refine pu 6 (some 77) (bl 10 125) (h := ?_); refine pu 7 (some 78) (bl 10 253) (h := ?_); refine ta 1 (some 72) (bl 10 255) (h := ?_); refine pu 8 (some 79) (bl 10 511) (h := ?_); refine pu 9 (some 14) (bl 10 1023) (h := ?_); refine A2y (A2z HT_.out (by kernel_rfl)) ?_; have hq := ah.out; have hs := ai.out; have ht := a4.out; have hu := bg.out; obtain ⟨e9, eA, eB⟩ := kc3 ac; obtain ⟨eC, eD, eE⟩ := kf3 ac
             go_upto_region 22 with (first | ((with_reducible refine A0m (f := 104) rfl ?_); refine A07 (some 83) rfl rfl Tryd.func104 (by kernel_rfl) rfl #[.agg #[.int .u64 ag, .int .i64 an, .int .i64 ao], .int .u64 (Go.bits .xor .u64 ag (bq))] rfl (by (try simp only [List.map_toArray, List.map_cons, List.map_nil]); first | done | (simp only [aI]; rfl) | rfl | (simp only [List.length_drop, List.length_take]; rfl)) ?_; (with_reducible refine (A1b.calls bw ag an ao (Go.bits .xor .u64 ag (bq)) aJ bx bp bi bj _ ?a8 jy.out).mono ?_); (case a8 => exact A3e.below HT.out (A0b.kl HB) (Nat.le_refl _)); rintro e jY ⟨jz, rfl, ho0, hb⟩; refine ⟨_, rfl, ?_⟩; have bM := ak (Kd.A11 ho0 (A0z (w := w) (g := g) (row := none) (kk HK))); have bN := ak (kbb ac hb); have bO := ak (kbb aa hb); have bP := ak (A0b.below (A0b.k am) hb); have bQ := ak (A0f.trans (kk HK) (A0f.of_below hb g none) (.inl rfl)); have bR := ak (A0n (A0b.kl HB) hb); clear ac; clear aa; clear am; clear HK; clear HB; have bb := bM; have ac := bN; have aa := bO; have am := bP; have HK := bQ; have HB := bR; clear bM bN bO bP bQ bR) | ((with_reducible refine A0s (N := 15) rfl ?_); refine bxe 15 #[.slice none 0 0, .int .i64 0] 161 (h := ?_); intro aC hg jZ hbox hb; have bM := ak (Kd.A05 (kr bb) hb); have bN := ak (kbb ac hb); have bO := ak (kbb aa hb); have bP := ak (A0b.below (A0b.k am) hb); have bQ := ak (A0f.trans (kk HK) (A0f.of_below hb g none) (.inl rfl)); have bR := ak (A0n (A0b.kl HB) hb); have cA := ak (hbox); have cB := ak ((by rw [hg]; exact (A0z (w := w) (g := g) (row := none) (kk HK)) : w.heap.size ≤ aC)); have cC := ak ((Nat.le_trans HW0.out (by rw [hg]; exact (A0z (w := w) (g := g) (row := none) (kk HK)) : w.heap.size ≤ aC) : w0.heap.size ≤ aC)); have cD := ak ((kn hg ac : ad ≠ aC)); have b2 := ak ((kn' hg ac : aC ≠ ad)); have b3 := ak ((kn hg aa : af ≠ aC)); have b4 := ak ((kn' hg aa : aC ≠ af)); have b5 := ak ((by rw [hg]; exact Nat.ne_of_lt (A0b.lt (show A0b w0 _ g au av aw from A0b.k am)) : g ≠ aC)); have b6 := ak ((by rw [hg]; exact Nat.ne_of_gt (A0b.lt (show A0b w0 _ g au av aw from A0b.k am)) : aC ≠ g)); clear bb; clear ac; clear aa; clear am; clear HK; clear HB; have bb := bM; have ac := bN; have aa := bO; have am := bP; have HK := bQ; have HB := bR; have ae := cA; have hv := cB; have hw := cC; have ax := cD; have ay := b2; have aj := b3; have al := b4; have a6 := b5; have a7 := b6; clear bM bN bO bP bQ bR cA cB cC cD b2 b3 b4 b5 b6; clear hb hbox hg) | ((with_reducible refine A0s (N := 16) rfl ?_); refine bxe 16 #[.int .u64 0, .int .i64 0, .int .i64 0] 30 (h := ?_); intro a3 hg ka hbox hb; have bM := ak (Kd.A05 (kr bb) hb); have bN := ak (kbb ac hb); have bO := ak (kbb aa hb); have bP := ak (A0b.below (A0b.k am) hb); have bQ := ak (kbb ae hb); have bR := ak (A0f.trans (kk HK) (A0f.of_below hb g none) (.inl rfl)); have cA := ak (A0n (A0b.kl HB) hb); have cB := ak (hbox); have cC := ak ((by rw [hg]; exact (A0z (w := w) (g := g) (row := none) (kk HK)) : w.heap.size ≤ a3)); have cD := ak ((Nat.le_trans HW0.out (by rw [hg]; exact (A0z (w := w) (g := g) (row := none) (kk HK)) : w.heap.size ≤ a3) : w0.heap.size ≤ a3)); have b2 := ak ((kn hg ac : ad ≠ a3)); have b3 := ak ((kn' hg ac : a3 ≠ ad)); have b4 := ak ((kn hg aa : af ≠ a3)); have b5 := ak ((kn' hg aa : a3 ≠ af)); have b6 := ak ((kn hg ae : aC ≠ a3)); have cE := ak ((kn' hg ae : a3 ≠ aC)); have cF := ak ((by rw [hg]; exact Nat.ne_of_lt (A0b.lt (show A0b w0 _ g au av aw from A0b.k am)) : g ≠ a3)); have cG := ak ((by rw [hg]; exact Nat.ne_of_gt (A0b.lt (show A0b w0 _ g au av aw from A0b.k am)) : a3 ≠ g)); clear bb; clear ac; clear aa; clear am; clear ae; clear HK; clear HB; have bb := bM; have ac := bN; have aa := bO; have am := bP; have ae := bQ; have HK := bR; have HB := cA; have ap := cB; have hx := cC; have hy := cD; have aK := b2; have aL := b3; have aq := b4; have ar := b5; have az := b6; have a1 := cE; have aX := cF; have aY := cG; clear bM bN bO bP bQ bR cA cB cC cD b2 b3 b4 b5 b6 cE cF cG; clear hb hbox hg; obtain ⟨bX, bY, fB⟩ := Kd.A1w bb.out; subst fB; have hz := ay.out; have h6 := ax.out; have h7 := al.out; have h8 := aj.out; have h9 := az.out; have hA := a1.out; have hC := a7.out; have hD := a6.out; obtain ⟨eF, eG⟩ := kc2 ae; obtain ⟨eH, eI⟩ := kf2 ae; have hE := aL.out; have hF := aK.out; have hG := ar.out; have hH := aq.out; have hJ := aY.out; have hL := aX.out; obtain ⟨eJ, eK, eL⟩ := kc3 ap; obtain ⟨eM, eN, eO⟩ := kf3 ap))
             (try simp only [Act.put, List.setIfInBounds_toArray, List.set_cons_zero, List.set_cons_succ])
             go_cut [17] (fun j4 wc => ∃ (kq : Nat) (bc : Int), j4 = .int .i64 bc ∧ A0g (A0q.j3 kq aQ aD a2 (Go.bits .xor .u64 ag (bq)) bc au av aw ag an ao aJ bx bp bi bj = some (r1, r2, r3, r4, r5, r6, r7, r8)) ∧ A0g (kq ≤ bw) ∧ A0g (Kd.R (Kd.int .u8) 5 wc w.heap.size (fun _ => True) (.slice bX aJ.length bY) aJ) ∧ A0g (wc.heap[ad]? = some (.cells #[.int .u64 ag, .int .i64 an, .int .i64 ao] 30 (0, 0))) ∧ A0g (wc.heap[af]? = some (.cells #[.int .u64 a9, .int .i64 aA, .int .i64 aB] 30 (0, 0))) ∧ A0g (wc.heap[aC]? = some (.cells #[(.slice bX aJ.length bY), .int .i64 bx] 161 (0, 0))) ∧ A0g (wc.heap[a3]? = some (.cells #[.int .u64 bp, .int .i64 bi, .int .i64 bj] 30 (0, 0))) ∧ A0g (A0b w0 wc g au av aw) ∧ A0g (A0f w wc g none) ∧ A0g (Below w0.heap.size w0 wc))
             case first =>
              have H := bW.out; clear bW; have H' := ak H; clear H
              go_wp2
              go_meet
              case rel => exact ⟨_, (wrap64 (2 + a2)), kE, H', ⟨by have := bD.out; have := cp.out; have := f7.out; first | omega | exact Nat.le_refl _⟩, ⟨by (with_reducible repeat (first | apply Kd.A1g | apply Kd.A1h | apply Kd.A1f)); exact Kd.A1a (Kd.A0r (p := ⟨a3, 2, none⟩) (Kd.A0r (p := ⟨a3, 1, none⟩) (Kd.A0r (p := ⟨a3, 0, none⟩) (Kd.A0r (p := ⟨aC, 1, none⟩) (Kd.A0r (p := ⟨aC, 0, none⟩) (Kd.A1c (Kd.A1c bb.out ae.out (by decide)) ap.out (by decide)) (fun _ hk => hk.1.2) (.slice bX aJ.length bY)) (fun _ hk => hk.1.2) (.int .i64 bx)) (fun _ hk => hk.2) (.int .u64 bp)) (fun _ hk => hk.2) (.int .i64 bi)) (fun _ hk => hk.2) (.int .i64 bj)) (fun _ hk => trivial)⟩, ⟨(kb ac)⟩, ⟨(kb aa)⟩, ⟨(kb ae)⟩, ⟨(kb ap)⟩, ⟨(A0b.k am)⟩, ⟨(kk HK)⟩, ⟨(A0b.kl HB)⟩⟩
             case rest =>
              clear bW; obtain ⟨kq, bc, rfl, HA, j5, HO_294000, ac, aa, ae, ap, am, HK, HB⟩ := hcut
              cases kq with
              | zero => exact absurd HA.out (by simp [A0q.j3])
              | succ j6 =>
               have H := HA.out; clear HA; simp only [A0q.j3] at H
               by_cases cH : aQ = 1
               ·rw [if_pos cH] at H; obtain ⟨cI, cJ⟩ := kqT cH; clear cH
                by_cases cK : bx = (wrap64 (bc + 12))
                ·rw [if_pos cK] at H; obtain ⟨cL, cM⟩ := kqT cK; clear cK
                 by_cases cN : bi = aD
                 ·rw [if_pos cN] at H; obtain ⟨cO, cP⟩ := kqT cN; clear cN
                  by_cases cQ : bj = a2
                  ·rw [if_pos cQ] at H; obtain ⟨cR, cS⟩ := kqT cQ; clear cQ
                   by_cases eP : 0 < (aJ.length : Int)
                   ·rw [if_pos eP] at H; have hM := decide_eq_true eP; have hN : decide (0 < aJ.length) = true := decide_eq_true (by omega); clear eP
                    by_cases cT : (((rd aJ 0) / 64) = 3)
                    ·rw [if_pos cT] at H; obtain ⟨cU, cV⟩ := kqT cT; clear cT; simp only [Option.some.injEq, Prod.mk.injEq] at H; obtain ⟨rfl, rfl, rfl, rfl, rfl, rfl, rfl, rfl⟩ := H; have hO := ay.out; have hP := ax.out; have hQ := al.out; have hR := aj.out; have hS := az.out; have hU := a1.out; have hV := a7.out; have hW := a6.out; obtain ⟨eQ, eR⟩ := kc2 ae; obtain ⟨eS, eT⟩ := kf2 ae; have hX := aL.out; have hY := aK.out; have hZ := ar.out; have ia := aq.out; have ib := aY.out; have ic := aX.out; obtain ⟨eU, eV, eW⟩ := kc3 ap; obtain ⟨eX, eY, eZ⟩ := kf3 ap; have br : 0 ≤ (0 : Int) := (by omega); have bk : 0 < (aJ.length : Int) := kD; obtain ⟨cW, bZ, aZ⟩ := Kd.at_int (Kd.A1u HO_294000.out).2.2 0 br bk
                     cases bZ
                     have cX : (0 < aJ.length) = True := eq_true (by omega); (try rw [show ((0 : Int)).toNat = 0 from rfl] at aZ); (try rw [Addr.add_zero'] at aZ); replace br := eq_true br
                     (try (have be := bk; simp only [List.length_drop, List.length_take] at be; replace be := eq_true be)); replace bk := eq_true bk
                     try go_wp2
                     replace HO_294000 := ak (Kd.A1f HO_294000.out); replace ac := ak (A0o ac.out); replace aa := ak (A0o aa.out); replace ae := ak (A0o ae.out); replace ap := ak (A0o ap.out); replace am := ak (A0b.drew am.out); replace HK := ak (A1r HK.out); replace HB := ak (A0e HB.out); refine A12 (n := 5) (S := fun w' => w'.cell? ⟨a3, 0, none⟩ = some (.int .u64 bp) ∧ w'.cell? ⟨a3, 1, none⟩ = some (.int .i64 bi) ∧ w'.cell? ⟨a3, 2, none⟩ = some (.int .i64 bj)) (ds := []) (bl 5 0) (by kernel_rfl) rfl rfl kz (fun hHeld => ?_); generalize wc.drew = kc at HO_294000 ac aa ae ap am HK HB hHeld ⊢; refine pu 0 (some 125) (bl 5 1) (h := ?_); refine pu 2 (some 4) (bl 5 5) (h := ?_); refine ta 1 (some 126) (bl 5 7) (h := ?_); refine one_ (i := 3) (N := none) (bl 5 15) rfl rfl (by kernel_rfl) (by decide) (fun K hK => ?_); have j7 := (kc3 aa).1; have ie := A0c aa.out 0; have fa := ah.out; have fb := al.out; have fc := ar.out; have fd := ai.out; have fe := aj.out; have ff := aq.out; have j8 := (kc3 aa).2.1; have ig := A0c aa.out 1; have j9 := (kc3 aa).2.2; have ii := A0c aa.out 2; refine A2x (w1 := ?_) (by rfl) rfl ?_ ?_
                     rotate_left
                     ·go_simp
                      rfl
                     refine hK.out _ _ (ks hHeld) (fun hHeld => ?_); clear hK K; refine pu 4 (some 6) (bl 5 31) (h := ?_); refine A2y (by kernel_rfl) ?_
                     try go_wp2
                     refine bodyPost_ret (A06 (rs := [.tmp 4, .cell 5 30, .tmp 6]) rfl (by simp) (.tmp (.cell af 30 #[.int .u64 bp, .int .i64 bi, .int .i64 bj] (0, 0) _ rfl (kb aa) Tryd.underlying30 rfl (by kernel_rfl) (.tmp .nil)))) rfl ?_
                     exact ⟨by first | rfl | (simp [A0k, A0l] <;> rfl) | (simp only [← aS, ← aI]; first | rfl | (simp [A0k, A0l] <;> rfl)) | (simp [*, A0k, A0l] <;> rfl), (A0b.k am), (A0b.kl HB), (kk HK)⟩
                    ·rw [if_neg cT] at H; obtain ⟨cU, cV⟩ := kqF cT; simp only [Option.some.injEq, Prod.mk.injEq] at H; obtain ⟨rfl, rfl, rfl, rfl, rfl, rfl, rfl, rfl⟩ := H; have ij := ay.out; have ik := ax.out; have il := al.out; have im := aj.out; have io := az.out; have ip := a1.out; have iq := a7.out; have ir := a6.out; obtain ⟨fg, fh⟩ := kc2 ae; obtain ⟨fi, fj⟩ := kf2 ae; have iu := aL.out; have iv := aK.out; have iw := ar.out; have ix := aq.out; have iy := aY.out; have iz := aX.out; obtain ⟨fk, fl, fm⟩ := kc3 ap; obtain ⟨fo, fp, fq⟩ := kf3 ap; have br : 0 ≤ (0 : Int) := (by omega); have bk : 0 < (aJ.length : Int) := kD; obtain ⟨cW, bZ, aZ⟩ := Kd.at_int (Kd.A1u HO_294000.out).2.2 0 br bk
                     cases bZ
                     have cX : (0 < aJ.length) = True := eq_true (by omega); (try rw [show ((0 : Int)).toNat = 0 from rfl] at aZ); (try rw [Addr.add_zero'] at aZ); replace br := eq_true br
                     (try (have be := bk; simp only [List.length_drop, List.length_take] at be; replace be := eq_true be)); replace bk := eq_true bk
                     try go_wp2
                     replace HO_294000 := ak (Kd.A1f HO_294000.out); replace ac := ak (A0o ac.out); replace aa := ak (A0o aa.out); replace ae := ak (A0o ae.out); replace ap := ak (A0o ap.out); replace am := ak (A0b.drew am.out); replace HK := ak (A1r HK.out); replace HB := ak (A0e HB.out); refine A12 (n := 5) (S := fun w' => w'.cell? ⟨ad, 0, none⟩ = some (.int .u64 ag) ∧ w'.cell? ⟨ad, 1, none⟩ = some (.int .i64 an) ∧ w'.cell? ⟨ad, 2, none⟩ = some (.int .i64 ao)) (ds := []) (bl 5 0) (by kernel_rfl) rfl rfl kz (fun hHeld => ?_); generalize wc.drew = kf at HO_294000 ac aa ae ap am HK HB hHeld ⊢; refine pu 1 (some 124) (bl 5 2) (h := ?_); refine pu 2 (some 4) (bl 5 6) (h := ?_); refine ta 0 (some 123) (bl 5 7) (h := ?_); refine one_ (i := 3) (N := none) (bl 5 15) rfl rfl (by kernel_rfl) (by decide) (fun K hK => ?_); have jA := (kc3 aa).1; have i0 := A0c aa.out 0; have fs := ah.out; have ft := al.out; have fu := ar.out; have fv := ai.out; have fw := aj.out; have fx := aq.out; have jB := (kc3 aa).2.1; have i1 := A0c aa.out 1; have jC := (kc3 aa).2.2; have i3 := A0c aa.out 2; refine A2x (w1 := ?_) (by rfl) rfl ?_ ?_
                     rotate_left
                     ·go_simp
                      rfl
                     refine hK.out _ _ (ks hHeld) (fun hHeld => ?_); clear hK K; refine pu 4 (some 6) (bl 5 31) (h := ?_); refine A2y (by kernel_rfl) ?_
                     try go_wp2
                     refine bodyPost_ret (A06 (rs := [.tmp 4, .cell 5 30, .tmp 6]) rfl (by simp) (.tmp (.cell af 30 #[.int .u64 ag, .int .i64 an, .int .i64 ao] (0, 0) _ rfl (kb aa) Tryd.underlying30 rfl (by kernel_rfl) (.tmp .nil)))) rfl ?_
                     exact ⟨by first | rfl | (simp [A0k, A0l] <;> rfl) | (simp only [← aS, ← aI]; first | rfl | (simp [A0k, A0l] <;> rfl)) | (simp [*, A0k, A0l] <;> rfl), (A0b.k am), (A0b.kl HB), (kk HK)⟩
                   ·rw [if_neg eP] at H
                    exact absurd H (by simp)
                  ·rw [if_neg cQ] at H; obtain ⟨cR, cS⟩ := kqF cQ; simp only [Option.some.injEq, Prod.mk.injEq] at H; obtain ⟨rfl, rfl, rfl, rfl, rfl, rfl, rfl, rfl⟩ := H; have i4 := ay.out; have i5 := ax.out; have i6 := al.out; have i7 := aj.out; have i9 := az.out; have iA := a1.out; have iB := a7.out; have iC := a6.out; obtain ⟨fy, fz⟩ := kc2 ae; obtain ⟨f0, f2⟩ := kf2 ae; have iD := aL.out; have iE := aK.out; have iF := ar.out; have iG := aq.out; have fC := aY.out; have fD := aX.out; obtain ⟨cY, cZ, da⟩ := kc3 ap; obtain ⟨db, dc, dd⟩ := kf3 ap
                   try go_wp2
                   replace HO_294000 := ak (Kd.A1f HO_294000.out); replace ac := ak (A0o ac.out); replace aa := ak (A0o aa.out); replace ae := ak (A0o ae.out); replace ap := ak (A0o ap.out); replace am := ak (A0b.drew am.out); replace HK := ak (A1r HK.out); replace HB := ak (A0e HB.out); refine A12 (n := 5) (S := fun w' => w'.cell? ⟨ad, 0, none⟩ = some (.int .u64 ag) ∧ w'.cell? ⟨ad, 1, none⟩ = some (.int .i64 an) ∧ w'.cell? ⟨ad, 2, none⟩ = some (.int .i64 ao)) (ds := []) (bl 5 0) (by kernel_rfl) rfl rfl kz (fun hHeld => ?_); generalize wc.drew = jD at HO_294000 ac aa ae ap am HK HB hHeld ⊢; refine pu 1 (some 124) (bl 5 2) (h := ?_); refine pu 2 (some 4) (bl 5 6) (h := ?_); refine ta 0 (some 123) (bl 5 7) (h := ?_); refine one_ (i := 3) (N := none) (bl 5 15) rfl rfl (by kernel_rfl) (by decide) (fun K hK => ?_); have iH := (kc3 aa).1; have fE := A0c aa.out 0; have de := ah.out; have df := al.out; have dg := ar.out; have dh := ai.out; have di := aj.out; have dj := aq.out; have iI := (kc3 aa).2.1; have fF := A0c aa.out 1; have iJ := (kc3 aa).2.2; have fG := A0c aa.out 2; refine A2x (w1 := ?_) (by rfl) rfl ?_ ?_
                   rotate_left
                   ·go_simp
                    rfl
                   refine hK.out _ _ (ks hHeld) (fun hHeld => ?_); clear hK K; refine pu 4 (some 6) (bl 5 31) (h := ?_); refine A2y (by kernel_rfl) ?_
                   try go_wp2
                   refine bodyPost_ret (A06 (rs := [.tmp 4, .cell 5 30, .tmp 6]) rfl (by simp) (.tmp (.cell af 30 #[.int .u64 ag, .int .i64 an, .int .i64 ao] (0, 0) _ rfl (kb aa) Tryd.underlying30 rfl (by kernel_rfl) (.tmp .nil)))) rfl ?_
                   exact ⟨by first | rfl | (simp [A0k, A0l] <;> rfl) | (simp only [← aS, ← aI]; first | rfl | (simp [A0k, A0l] <;> rfl)) | (simp [*, A0k, A0l] <;> rfl), (A0b.k am), (A0b.kl HB), (kk HK)⟩
                 ·rw [if_neg cN] at H; obtain ⟨cO, cP⟩ := kqF cN; simp only [Option.some.injEq, Prod.mk.injEq] at H; obtain ⟨rfl, rfl, rfl, rfl, rfl, rfl, rfl, rfl⟩ := H; have fH := ay.out; have fI := ax.out; have fJ := al.out; have fK := aj.out; have fL := az.out; have fM := a1.out; have fN := a7.out; have fO := a6.out; obtain ⟨dk, dl⟩ := kc2 ae; obtain ⟨dm, dn⟩ := kf2 ae; have fP := aL.out; have fQ := aK.out; have fR := ar.out; have fS := aq.out; have fT := aY.out; have fU := aX.out; obtain ⟨dp, dq, dr⟩ := kc3 ap; obtain ⟨du, dw, dz⟩ := kf3 ap
                  try go_wp2
                  replace HO_294000 := ak (Kd.A1f HO_294000.out); replace ac := ak (A0o ac.out); replace aa := ak (A0o aa.out); replace ae := ak (A0o ae.out); replace ap := ak (A0o ap.out); replace am := ak (A0b.drew am.out); replace HK := ak (A1r HK.out); replace HB := ak (A0e HB.out); refine A12 (n := 5) (S := fun w' => w'.cell? ⟨ad, 0, none⟩ = some (.int .u64 ag) ∧ w'.cell? ⟨ad, 1, none⟩ = some (.int .i64 an) ∧ w'.cell? ⟨ad, 2, none⟩ = some (.int .i64 ao)) (ds := []) (bl 5 0) (by kernel_rfl) rfl rfl kz (fun hHeld => ?_); generalize wc.drew = jE at HO_294000 ac aa ae ap am HK HB hHeld ⊢; refine pu 1 (some 124) (bl 5 2) (h := ?_); refine pu 2 (some 4) (bl 5 6) (h := ?_); refine ta 0 (some 123) (bl 5 7) (h := ?_); refine one_ (i := 3) (N := none) (bl 5 15) rfl rfl (by kernel_rfl) (by decide) (fun K hK => ?_); have iK := (kc3 aa).1; have fV := A0c aa.out 0; have d0 := ah.out; have d5 := al.out; have d6 := ar.out; have d7 := ai.out; have d8 := aj.out; have d9 := aq.out; have iL := (kc3 aa).2.1; have fW := A0c aa.out 1; have iM := (kc3 aa).2.2; have fX := A0c aa.out 2; refine A2x (w1 := ?_) (by rfl) rfl ?_ ?_
                  rotate_left
                  ·go_simp
                   rfl
                  refine hK.out _ _ (ks hHeld) (fun hHeld => ?_); clear hK K; refine pu 4 (some 6) (bl 5 31) (h := ?_); refine A2y (by kernel_rfl) ?_
                  try go_wp2
                  refine bodyPost_ret (A06 (rs := [.tmp 4, .cell 5 30, .tmp 6]) rfl (by simp) (.tmp (.cell af 30 #[.int .u64 ag, .int .i64 an, .int .i64 ao] (0, 0) _ rfl (kb aa) Tryd.underlying30 rfl (by kernel_rfl) (.tmp .nil)))) rfl ?_
                  exact ⟨by first | rfl | (simp [A0k, A0l] <;> rfl) | (simp only [← aS, ← aI]; first | rfl | (simp [A0k, A0l] <;> rfl)) | (simp [*, A0k, A0l] <;> rfl), (A0b.k am), (A0b.kl HB), (kk HK)⟩
                ·rw [if_neg cK] at H; obtain ⟨cL, cM⟩ := kqF cK; simp only [Option.some.injEq, Prod.mk.injEq] at H; obtain ⟨rfl, rfl, rfl, rfl, rfl, rfl, rfl, rfl⟩ := H; have fY := ay.out; have fZ := ax.out; have ga := al.out; have gb := aj.out; have gc := az.out; have gf := a1.out; have gg := a7.out; have gh := a6.out; obtain ⟨dA, dB⟩ := kc2 ae; obtain ⟨dC, dD⟩ := kf2 ae
                 try go_wp2
                 replace HO_294000 := ak (Kd.A1f HO_294000.out); replace ac := ak (A0o ac.out); replace aa := ak (A0o aa.out); replace ae := ak (A0o ae.out); replace ap := ak (A0o ap.out); replace am := ak (A0b.drew am.out); replace HK := ak (A1r HK.out); replace HB := ak (A0e HB.out); refine A12 (n := 5) (S := fun w' => w'.cell? ⟨ad, 0, none⟩ = some (.int .u64 ag) ∧ w'.cell? ⟨ad, 1, none⟩ = some (.int .i64 an) ∧ w'.cell? ⟨ad, 2, none⟩ = some (.int .i64 ao)) (ds := []) (bl 5 0) (by kernel_rfl) rfl rfl kz (fun hHeld => ?_); generalize wc.drew = jF at HO_294000 ac aa ae ap am HK HB hHeld ⊢; refine pu 1 (some 124) (bl 5 2) (h := ?_); refine pu 2 (some 4) (bl 5 6) (h := ?_); refine ta 0 (some 123) (bl 5 7) (h := ?_); refine one_ (i := 3) (N := none) (bl 5 15) rfl rfl (by kernel_rfl) (by decide) (fun K hK => ?_); have iN := (kc3 aa).1; have gj := A0c aa.out 0; have dE := ah.out; have dF := al.out; have dG := ar.out; have dH := ai.out; have dI := aj.out; have dJ := aq.out; have iO := (kc3 aa).2.1; have gk := A0c aa.out 1; have iP := (kc3 aa).2.2; have gl := A0c aa.out 2; refine A2x (w1 := ?_) (by rfl) rfl ?_ ?_
                 rotate_left
                 ·go_simp
                  rfl
                 refine hK.out _ _ (ks hHeld) (fun hHeld => ?_); clear hK K; refine pu 4 (some 6) (bl 5 31) (h := ?_); refine A2y (by kernel_rfl) ?_
                 try go_wp2
                 refine bodyPost_ret (A06 (rs := [.tmp 4, .cell 5 30, .tmp 6]) rfl (by simp) (.tmp (.cell af 30 #[.int .u64 ag, .int .i64 an, .int .i64 ao] (0, 0) _ rfl (kb aa) Tryd.underlying30 rfl (by kernel_rfl) (.tmp .nil)))) rfl ?_
                 exact ⟨by first | rfl | (simp [A0k, A0l] <;> rfl) | (simp only [← aS, ← aI]; first | rfl | (simp [A0k, A0l] <;> rfl)) | (simp [*, A0k, A0l] <;> rfl), (A0b.k am), (A0b.kl HB), (kk HK)⟩
               ·rw [if_neg cH] at H; obtain ⟨cI, cJ⟩ := kqF cH
                by_cases b7 : bx = bc
                ·rw [if_pos b7] at H; obtain ⟨ca, cc⟩ := kqT b7; clear b7
                 by_cases bH : 0 < (aJ.length : Int)
                 ·rw [if_pos bH] at H; have gm := decide_eq_true bH; have gn : decide (0 < aJ.length) = true := decide_eq_true (by omega); clear bH
                  by_cases b8 : ((rd aJ 0) / 64) = 3
                  ·rw [if_pos b8] at H; obtain ⟨cd, ce⟩ := kqT b8; clear b8; simp only [Option.some.injEq, Prod.mk.injEq] at H; obtain ⟨rfl, rfl, rfl, rfl, rfl, rfl, rfl, rfl⟩ := H; have gp := ay.out; have gq := ax.out; have gr := al.out; have gs := aj.out; have gu := az.out; have gv := a1.out; have gw := a7.out; have gx := a6.out; obtain ⟨dK, dL⟩ := kc2 ae; obtain ⟨dM, dN⟩ := kf2 ae; have bs : 0 ≤ (0 : Int) := (by omega); have bm : 0 < (aJ.length : Int) := kD; obtain ⟨dO, cf, ba⟩ := Kd.at_int (Kd.A1u HO_294000.out).2.2 0 bs bm
                   cases cf
                   have dP : (0 < aJ.length) = True := eq_true (by omega); (try rw [show ((0 : Int)).toNat = 0 from rfl] at ba); (try rw [Addr.add_zero'] at ba); replace bs := eq_true bs
                   (try (have bf := bm; simp only [List.length_drop, List.length_take] at bf; replace bf := eq_true bf)); replace bm := eq_true bm
                   try go_wp2
                   replace HO_294000 := ak (Kd.A1f HO_294000.out); replace ac := ak (A0o ac.out); replace aa := ak (A0o aa.out); replace ae := ak (A0o ae.out); replace ap := ak (A0o ap.out); replace am := ak (A0b.drew am.out); replace HK := ak (A1r HK.out); replace HB := ak (A0e HB.out); refine A12 (n := 5) (S := fun w' => w'.cell? ⟨ad, 0, none⟩ = some (.int .u64 ag) ∧ w'.cell? ⟨ad, 1, none⟩ = some (.int .i64 an) ∧ w'.cell? ⟨ad, 2, none⟩ = some (.int .i64 ao)) (ds := []) (bl 5 0) (by kernel_rfl) rfl rfl kz (fun hHeld => ?_); generalize wc.drew = jG at HO_294000 ac aa ae ap am HK HB hHeld ⊢; refine pu 1 (some 124) (bl 5 2) (h := ?_); refine pu 2 (some 4) (bl 5 6) (h := ?_); refine ta 0 (some 123) (bl 5 7) (h := ?_); refine one_ (i := 3) (N := none) (bl 5 15) rfl rfl (by kernel_rfl) (by decide) (fun K hK => ?_); have iQ := (kc3 aa).1; have gy := A0c aa.out 0; have dQ := ah.out; have dR := al.out; have dS := ar.out; have dT := ai.out; have dU := aj.out; have dV := aq.out; have iR := (kc3 aa).2.1; have gz := A0c aa.out 1; have iS := (kc3 aa).2.2; have g0 := A0c aa.out 2; refine A2x (w1 := ?_) (by rfl) rfl ?_ ?_
                   rotate_left
                   ·go_simp
                    rfl
                   refine hK.out _ _ (ks hHeld) (fun hHeld => ?_); clear hK K; refine pu 4 (some 6) (bl 5 31) (h := ?_); refine A2y (by kernel_rfl) ?_
                   try go_wp2
                   refine bodyPost_ret (A06 (rs := [.tmp 4, .cell 5 30, .tmp 6]) rfl (by simp) (.tmp (.cell af 30 #[.int .u64 ag, .int .i64 an, .int .i64 ao] (0, 0) _ rfl (kb aa) Tryd.underlying30 rfl (by kernel_rfl) (.tmp .nil)))) rfl ?_
                   exact ⟨by first | rfl | (simp [A0k, A0l] <;> rfl) | (simp only [← aS, ← aI]; first | rfl | (simp [A0k, A0l] <;> rfl)) | (simp [*, A0k, A0l] <;> rfl), (A0b.k am), (A0b.kl HB), (kk HK)⟩
                  ·rw [if_neg b8] at H; obtain ⟨cd, ce⟩ := kqF b8; simp only [Option.some.injEq, Prod.mk.injEq] at H; obtain ⟨rfl, rfl, rfl, rfl, rfl, rfl, rfl, rfl⟩ := H; have g1 := ay.out; have g2 := ax.out; have g3 := al.out; have g4 := aj.out; have g5 := az.out; have g6 := a1.out; have g7 := a7.out; have g8 := a6.out; obtain ⟨dW, dX⟩ := kc2 ae; obtain ⟨dY, dZ⟩ := kf2 ae; have bs : 0 ≤ (0 : Int) := (by omega); have bm : 0 < (aJ.length : Int) := kD; obtain ⟨dO, cf, ba⟩ := Kd.at_int (Kd.A1u HO_294000.out).2.2 0 bs bm
                   cases cf
                   have dP : (0 < aJ.length) = True := eq_true (by omega); (try rw [show ((0 : Int)).toNat = 0 from rfl] at ba); (try rw [Addr.add_zero'] at ba); replace bs := eq_true bs
                   (try (have bf := bm; simp only [List.length_drop, List.length_take] at bf; replace bf := eq_true bf)); replace bm := eq_true bm
                   try go_wp2
                   replace HO_294000 := ak (Kd.A1f HO_294000.out); replace ac := ak (A0o ac.out); replace aa := ak (A0o aa.out); replace ae := ak (A0o ae.out); replace ap := ak (A0o ap.out); replace am := ak (A0b.drew am.out); replace HK := ak (A1r HK.out); replace HB := ak (A0e HB.out); refine A12 (n := 5) (S := fun w' => w'.cell? ⟨a3, 0, none⟩ = some (.int .u64 bp) ∧ w'.cell? ⟨a3, 1, none⟩ = some (.int .i64 bi) ∧ w'.cell? ⟨a3, 2, none⟩ = some (.int .i64 bj)) (ds := []) (bl 5 0) (by kernel_rfl) rfl rfl kz (fun hHeld => ?_); generalize wc.drew = jH at HO_294000 ac aa ae ap am HK HB hHeld ⊢; refine pu 0 (some 125) (bl 5 1) (h := ?_); refine pu 2 (some 4) (bl 5 5) (h := ?_); refine ta 1 (some 126) (bl 5 7) (h := ?_); refine one_ (i := 3) (N := none) (bl 5 15) rfl rfl (by kernel_rfl) (by decide) (fun K hK => ?_); have iT := (kc3 aa).1; have g9 := A0c aa.out 0; have ea := ah.out; have eb := al.out; have ec := ar.out; have ed := ai.out; have ee := aj.out; have ef := aq.out; have iU := (kc3 aa).2.1; have gA := A0c aa.out 1; have iV := (kc3 aa).2.2; have gB := A0c aa.out 2; refine A2x (w1 := ?_) (by rfl) rfl ?_ ?_
                   rotate_left
                   ·go_simp
                    rfl
                   refine hK.out _ _ (ks hHeld) (fun hHeld => ?_); clear hK K; refine pu 4 (some 6) (bl 5 31) (h := ?_); refine A2y (by kernel_rfl) ?_
                   try go_wp2
                   refine bodyPost_ret (A06 (rs := [.tmp 4, .cell 5 30, .tmp 6]) rfl (by simp) (.tmp (.cell af 30 #[.int .u64 bp, .int .i64 bi, .int .i64 bj] (0, 0) _ rfl (kb aa) Tryd.underlying30 rfl (by kernel_rfl) (.tmp .nil)))) rfl ?_
                   exact ⟨by first | rfl | (simp [A0k, A0l] <;> rfl) | (simp only [← aS, ← aI]; first | rfl | (simp [A0k, A0l] <;> rfl)) | (simp [*, A0k, A0l] <;> rfl), (A0b.k am), (A0b.kl HB), (kk HK)⟩
                 ·rw [if_neg bH] at H
                  exact absurd H (by simp)
                ·rw [if_neg b7] at H; obtain ⟨ca, cc⟩ := kqF b7; simp only [Option.some.injEq, Prod.mk.injEq] at H; obtain ⟨rfl, rfl, rfl, rfl, rfl, rfl, rfl, rfl⟩ := H; have gC := ay.out; have gD := ax.out; have gE := al.out; have gF := aj.out; have gG := az.out; have gH := a1.out; have gI := a7.out; have gJ := a6.out; obtain ⟨eg, eh⟩ := kc2 ae; obtain ⟨ei, ej⟩ := kf2 ae
                 try go_wp2
                 replace HO_294000 := ak (Kd.A1f HO_294000.out); replace ac := ak (A0o ac.out); replace aa := ak (A0o aa.out); replace ae := ak (A0o ae.out); replace ap := ak (A0o ap.out); replace am := ak (A0b.drew am.out); replace HK := ak (A1r HK.out); replace HB := ak (A0e HB.out); refine A12 (n := 5) (S := fun w' => w'.cell? ⟨ad, 0, none⟩ = some (.int .u64 ag) ∧ w'.cell? ⟨ad, 1, none⟩ = some (.int .i64 an) ∧ w'.cell? ⟨ad, 2, none⟩ = some (.int .i64 ao)) (ds := []) (bl 5 0) (by kernel_rfl) rfl rfl kz (fun hHeld => ?_); generalize wc.drew = jI at HO_294000 ac aa ae ap am HK HB hHeld ⊢; refine pu 1 (some 124) (bl 5 2) (h := ?_); refine pu 2 (some 4) (bl 5 6) (h := ?_); refine ta 0 (some 123) (bl 5 7) (h := ?_); refine one_ (i := 3) (N := none) (bl 5 15) rfl rfl (by kernel_rfl) (by decide) (fun K hK => ?_); have iW := (kc3 aa).1; have gK := A0c aa.out 0; have ek := ah.out; have el := al.out; have em := ar.out; have en := ai.out; have eo := aj.out; have ep := aq.out; have iX := (kc3 aa).2.1; have gL := A0c aa.out 1; have iY := (kc3 aa).2.2; have gM := A0c aa.out 2; refine A2x (w1 := ?_) (by rfl) rfl ?_ ?_
                 rotate_left
                 ·go_simp
                  rfl
                 refine hK.out _ _ (ks hHeld) (fun hHeld => ?_); clear hK K; refine pu 4 (some 6) (bl 5 31) (h := ?_); refine A2y (by kernel_rfl) ?_
                 try go_wp2
                 refine bodyPost_ret (A06 (rs := [.tmp 4, .cell 5 30, .tmp 6]) rfl (by simp) (.tmp (.cell af 30 #[.int .u64 ag, .int .i64 an, .int .i64 ao] (0, 0) _ rfl (kb aa) Tryd.underlying30 rfl (by kernel_rfl) (.tmp .nil)))) rfl ?_
                 exact ⟨by first | rfl | (simp [A0k, A0l] <;> rfl) | (simp only [← aS, ← aI]; first | rfl | (simp [A0k, A0l] <;> rfl)) | (simp [*, A0k, A0l] <;> rfl), (A0b.k am), (A0b.kl HB), (kk HK)⟩
            ·rw [if_neg cz] at H
             exact absurd H (by simp)
           ·replace e8 := Bool.eq_false_iff.mpr e8; subst e8
            rw [if_neg (show ¬ (false = true) by decide)] at H; simp only [Option.some.injEq, Prod.mk.injEq] at H; obtain ⟨rfl, rfl, rfl, rfl, rfl, rfl, rfl, rfl⟩ := H
            try go_wp2
            replace ac := ak (A0o ac.out); replace aa := ak (A0o aa.out); replace am := ak (A0b.drew am.out); replace HK := ak (A1r HK.out); replace HB := ak (A0e HB.out); refine A12 (n := 5) (S := fun w' => w'.cell? ⟨ad, 0, none⟩ = some (.int .u64 ag) ∧ w'.cell? ⟨ad, 1, none⟩ = some (.int .i64 an) ∧ w'.cell? ⟨ad, 2, none⟩ = some (.int .i64 ao)) (ds := []) (bl 5 0) (by kernel_rfl) rfl rfl kz (fun hHeld => ?_); generalize wc.drew = jJ at ac aa am HK HB hHeld ⊢; refine pu 1 (some 70) (bl 5 2) (h := ?_); refine pu 2 (some 4) (bl 5 6) (h := ?_); refine ta 0 (some 69) (bl 5 7) (h := ?_); refine one_ (i := 3) (N := none) (bl 5 15) rfl rfl (by kernel_rfl) (by decide) (fun K hK => ?_); have iZ := (kc3 aa).1; have gN := A0c aa.out 0; have er := ah.out; have et := ai.out; have ja := (kc3 aa).2.1; have gO := A0c aa.out 1; have jb := (kc3 aa).2.2; have gP := A0c aa.out 2; refine A2x (w1 := ?_) (by rfl) rfl ?_ ?_
            rotate_left
            ·go_simp
             rfl
            refine hK.out _ _ (ks hHeld) (fun hHeld => ?_); clear hK K; refine pu 4 (some 6) (bl 5 31) (h := ?_); refine A2y (by kernel_rfl) ?_
            try go_wp2
            refine bodyPost_ret (A06 (rs := [.tmp 4, .cell 5 30, .tmp 6]) rfl (by simp) (.tmp (.cell af 30 #[.int .u64 ag, .int .i64 an, .int .i64 ao] (0, 0) _ rfl (kb aa) Tryd.underlying30 rfl (by kernel_rfl) (.tmp .nil)))) rfl ?_
            exact ⟨kF, (A0b.k am), (A0b.kl HB), (kk HK)⟩
     ·replace e0 := Bool.eq_false_iff.mpr e0; subst e0
      rw [if_neg (show ¬ (false = true) by decide)] at H; simp only [Option.some.injEq, Prod.mk.injEq] at H; obtain ⟨rfl, rfl, rfl, rfl, rfl, rfl, rfl, rfl⟩ := H
      try go_wp2
      replace ac := ak (A0o ac.out); replace aa := ak (A0o aa.out); replace am := ak (A0b.drew am.out); replace HK := ak (A1r HK.out); replace HB := ak (A0e HB.out); refine A12 (n := 5) (S := fun w' => w'.cell? ⟨ad, 0, none⟩ = some (.int .u64 ag) ∧ w'.cell? ⟨ad, 1, none⟩ = some (.int .i64 an) ∧ w'.cell? ⟨ad, 2, none⟩ = some (.int .i64 ao)) (ds := []) (bl 5 0) (by kernel_rfl) rfl rfl kz (fun hHeld => ?_); generalize wc.drew = jK at ac aa am HK HB hHeld ⊢; refine pu 1 (some 40) (bl 5 2) (h := ?_); refine pu 2 (some 4) (bl 5 6) (h := ?_); refine ta 0 (some 39) (bl 5 7) (h := ?_); refine one_ (i := 3) (N := none) (bl 5 15) rfl rfl (by kernel_rfl) (by decide) (fun K hK => ?_); have jc := (kc3 aa).1; have gQ := A0c aa.out 0; have eu := ah.out; have ev := ai.out; have jd := (kc3 aa).2.1; have gR := A0c aa.out 1; have je := (kc3 aa).2.2; have gS := A0c aa.out 2; refine A2x (w1 := ?_) (by rfl) rfl ?_ ?_
      rotate_left
      ·go_simp
       rfl
      refine hK.out _ _ (ks hHeld) (fun hHeld => ?_); clear hK K; refine pu 4 (some 6) (bl 5 31) (h := ?_); refine A2y (by kernel_rfl) ?_
      try go_wp2
      refine bodyPost_ret (A06 (rs := [.tmp 4, .cell 5 30, .tmp 6]) rfl (by simp) (.tmp (.cell af 30 #[.int .u64 ag, .int .i64 an, .int .i64 ao] (0, 0) _ rfl (kb aa) Tryd.underlying30 rfl (by kernel_rfl) (.tmp .nil)))) rfl ?_
      exact ⟨kF, (A0b.k am), (A0b.kl HB), (kk HK)⟩
 ·replace c4 := Bool.eq_false_iff.mpr c4; subst c4
  rw [if_neg (show ¬ (false = true) by decide)] at H; simp only [Option.some.injEq, Prod.mk.injEq] at H; obtain ⟨rfl, rfl, rfl, rfl, rfl, rfl, rfl, rfl⟩ := H
  go_enter Tryd.func76, Tryd.ntmps76
  try go_wp2_with (first | ((with_reducible refine A0s (N := 3) rfl ?_); refine bxe 3 #[.int .u64 ag, .int .i64 an, .int .i64 ao] 30 (h := ?_); intro ad hg jL hbox hb; replace HB := ak (A0n (A0b.kl HB) hb); have ac := ak (hbox); have bI := ak ((by rw [hg]; exact (A0z (w := w) (g := g) (row := none) (kk HK)) : w.heap.size ≤ ad)); have bJ := ak ((Nat.le_trans HW0.out (by rw [hg]; exact (A0z (w := w) (g := g) (row := none) (kk HK)) : w.heap.size ≤ ad) : w0.heap.size ≤ ad)); replace HK := ak (A0f.trans (kk HK) (A0f.of_below hb g none) (.inl rfl)); have bg := ak ((by rw [hg]; exact Nat.ne_of_lt (A0b.lt (show A0b w0 _ g aM aN aO from A0b.k am)) : g ≠ ad)); have a4 := ak ((by rw [hg]; exact Nat.ne_of_gt (A0b.lt (show A0b w0 _ g aM aN aO from A0b.k am)) : ad ≠ g)); replace am := ak (A0b.below (A0b.k am) hb); clear hb hbox hg) | ((with_reducible refine A0s (N := 5) rfl ?_); refine bxe 5 #[.int .u64 0, .int .i64 0, .int .i64 0] 30 (h := ?_); intro af hg jM hbox hb; replace HB := ak (A0n (A0b.kl HB) hb); have aa := ak (hbox); have bK := ak ((by rw [hg]; exact (A0z (w := w) (g := g) (row := none) (kk HK)) : w.heap.size ≤ af)); have bL := ak ((Nat.le_trans HW0.out (by rw [hg]; exact (A0z (w := w) (g := g) (row := none) (kk HK)) : w.heap.size ≤ af) : w0.heap.size ≤ af)); replace HK := ak (A0f.trans (kk HK) (A0f.of_below hb g none) (.inl rfl)); obtain ⟨ah, ai⟩ := kN hg ac; replace ac := kB ac hb; have bt := ak ((by rw [hg]; exact Nat.ne_of_lt (A0b.lt (show A0b w0 _ g aM aN aO from A0b.k am)) : g ≠ af)); have a5 := ak ((by rw [hg]; exact Nat.ne_of_gt (A0b.lt (show A0b w0 _ g aM aN aO from A0b.k am)) : af ≠ g)); replace am := ak (A0b.below (A0b.k am) hb); clear hb hbox hg) | ((with_reducible refine A0m (f := 98) rfl ?_); refine A07 (some 20) rfl rfl Tryd.func98 (by kernel_rfl) rfl #[.pointer (some ⟨g, 0, none⟩), .int .i64 1] rfl km ?_; (with_reducible refine (A0j.calls k g aM aN aO 1 b9 false bA bB bC w0 _ ?a8 ?aE A3.out).mono ?_); (case a8 => exact A0b.k am); (case aE => exact A0b.kl HB); rintro e gT ⟨rfl, hi, hb, hk⟩; refine ⟨_, rfl, ?_⟩; replace ac := ak (A0f.blk hk (g' := ad) (o := .cells #[.int .u64 ag, .int .i64 an, .int .i64 ao] 30 (0, 0)) (kb ac) a4.out (by simp)); replace aa := ak (A0f.blk hk (g' := af) (o := .cells #[.int .u64 0, .int .i64 0, .int .i64 0] 30 (0, 0)) (kb aa) a5.out (by simp)); replace HK := ak (A0f.trans (kk HK) hk (.inl rfl)); replace HB := ak (hb); replace am := ak (hi); ))
  replace ac := ak (A0o ac.out); replace aa := ak (A0o aa.out); replace am := ak (A0b.drew am.out); replace HK := ak (A1r HK.out); replace HB := ak (A0e HB.out); refine A12 (n := 5) (S := fun w' => w'.cell? ⟨ad, 0, none⟩ = some (.int .u64 ag) ∧ w'.cell? ⟨ad, 1, none⟩ = some (.int .i64 an) ∧ w'.cell? ⟨ad, 2, none⟩ = some (.int .i64 ao)) (ds := []) (bl 5 0) (by kernel_rfl) rfl rfl kz (fun hHeld => ?_); generalize gT.drew = jN at ac aa am HK HB hHeld ⊢; refine pu 1 (some 26) (bl 5 2) (h := ?_); refine pu 2 (some 4) (bl 5 6) (h := ?_); refine ta 0 (some 25) (bl 5 7) (h := ?_); refine one_ (i := 3) (N := none) (bl 5 15) rfl rfl (by kernel_rfl) (by decide) (fun K hK => ?_); have jf := (kc3 aa).1; have gU := A0c aa.out 0; have ew := ah.out; have ex := ai.out; have jg := (kc3 aa).2.1; have gV := A0c aa.out 1; have jh := (kc3 aa).2.2; have gW := A0c aa.out 2; refine A2x (w1 := ?_) (by rfl) rfl ?_ ?_
  rotate_left
  ·go_simp
   rfl
  refine hK.out _ _ (ks hHeld) (fun hHeld => ?_); clear hK K; refine pu 4 (some 6) (bl 5 31) (h := ?_); refine A2y (by kernel_rfl) ?_
  try go_wp2
  refine bodyPost_ret (A06 (rs := [.tmp 4, .cell 5 30, .tmp 6]) rfl (by simp) (.tmp (.cell af 30 #[.int .u64 ag, .int .i64 an, .int .i64 ao] (0, 0) _ rfl (kb aa) Tryd.underlying30 rfl (by kernel_rfl) (.tmp .nil)))) rfl ?_
  exact ⟨kF, (A0b.k am), (A0b.kl HB), (kk HK)⟩
end Go.Proofs.YtodocfjbpkicgaaDoor.All
