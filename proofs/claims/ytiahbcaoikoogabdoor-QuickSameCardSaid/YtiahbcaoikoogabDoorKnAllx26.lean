-- copied by a program of the session
import Derived.Test.YtiahbcaoikoogabDoorKnAllx7
import Derived.Test.YtiahbcaoikoogabDoorKnAllx24
namespace Go.Proofs.YtiahbcaoikoogabDoor.All
open Go.RowKit Go.Proofs.YtiahbcaoikoogabDoorW.PrintWords Go.Proofs.YtiahbcaoikoogabDoorW.PrintLast Go.Proofs.YtiahbcaoikoogabDoorW.PrintMore
attribute [local go_sem] A2m A2n A25 A26 A2b A2c A2o A2p
set_option linter.unusedVariables false
set_option linter.unusedSimpArgs false
mutual
def A0q.j0 : Nat → Bool → Int → List Int → Int → Int → Int → Int → Int → Option (Int × Int × Int × Int × Option Int × List Int × Int × Int)
 | 0, _, _, _, _, _, _, _, _ => none
 | k + 1, x8, x9, af, ag, ah, ae, ac, ad => if x8 = true then (if x9 = 1 then ((A2i.f k af ag ah).bind fun aa => (if aa.2.2.1.isNone = true then (A0q.j1 k x9 aa.1 aa.2.1 aa.2.2.2.1 aa.2.2.2.2.1 aa.2.2.2.2.2 ae ac ad) else (some (0, ae, ac, ad, some (aa.2.2.1.getD 0), aa.2.2.2.1, aa.2.2.2.2.1, aa.2.2.2.2.2)))) else (A0q.j1 k x9 ac ad af ag ah ae ac ad)) else (some (0, ae, ac, ad, some 2, af, ag, ah))
def A0q.j1 : Nat → Int → Int → Int → List Int → Int → Int → Int → Int → Int → Option (Int × Int × Int × Int × Option Int × List Int × Int × Int)
 | 0, _, _, _, _, _, _, _, _, _ => none
 | k + 1, x9, aj, ai, af, ag, ah, ac, ad, ae => if ai = 0 then (some (0, ac, ad, ae, some 3, af, ag, ah)) else ((A0j.f k af ag ah ai).bind fun aa => (A0q.j2 k aa.2.1 x9 aj ai aa.1 aa.2.2.1 aa.2.2.2.1 aa.2.2.2.2 ac ad ae))
def A0q.j2 : Nat → Bool → Int → Int → Int → Int → List Int → Int → Int → Int → Int → Int → Option (Int × Int × Int × Int × Option Int × List Int × Int × Int)
 | 0, _, _, _, _, _, _, _, _, _, _, _ => none
 | k + 1, x8, x9, aj, ai, al, af, ag, ah, aa, ac, ad => if x8 = true then (if 0 ≤ (wrap64 ((wrap64 (64 - aj)) - ai)) then ((A1l.f k aa ac ad (Go.bits .xor .u64 aa (shl .u64 al (wrap64 ((wrap64 (64 - aj)) - ai))))).bind fun ae => (A0q.j3 k x9 aj ai (Go.bits .xor .u64 aa (shl .u64 al (wrap64 ((wrap64 (64 - aj)) - ai)))) (wrap64 (2 + ai)) af ag ah aa ac ad ae.1 ae.2.1 ae.2.2.1 ae.2.2.2.1 ae.2.2.2.2)) else (none)) else (some (0, aa, ac, ad, some 2, af, ag, ah))
def A0q.j3 : Nat → Int → Int → Int → Int → Int → List Int → Int → Int → Int → Int → Int → List Int → Int → Int → Int → Int → Option (Int × Int × Int × Int × Option Int × List Int × Int × Int)
 | 0, _, _, _, _, _, _, _, _, _, _, _, _, _, _, _, _ => none
 | k + 1, x9, ap, aq, an, ao, ae, af, ag, aa, ac, ad, ah, al, am, ai, aj => if x9 = 1 then (if al = (wrap64 (ao + 12)) then (if ai = ap then (if aj = aq then (if 0 < (ah.length : Int) then (if (((rd ah 0) / 64) = 3) then (some (an, am, ai, aj, none, ae, af, ag)) else (some (0, aa, ac, ad, some 3, ae, af, ag))) else (none)) else (some (0, aa, ac, ad, some 3, ae, af, ag))) else (some (0, aa, ac, ad, some 3, ae, af, ag))) else (some (0, aa, ac, ad, some 3, ae, af, ag))) else (if al = ao then (if 0 < (ah.length : Int) then (if ((rd ah 0) / 64) = 3 then (some (0, aa, ac, ad, some 3, ae, af, ag)) else (some (an, am, ai, aj, none, ae, af, ag))) else (none)) else (some (0, aa, ac, ad, some 3, ae, af, ag)))
end
def A0q.f (k : Nat) (ag : List Int) (ah : Int) (ai : Int) (ad : Int) (ae : Int) (af : Int) : Option (Int × Int × Int × Int × Option Int × List Int × Int × Int) := (A0j.f k ag ah ai 1).bind fun aa => (if aa.2.1 = true then (if aa.1 = 0 then (some (ad, ad, ae, af, none, aa.2.2.1, aa.2.2.2.1, aa.2.2.2.2)) else ((A0j.f k aa.2.2.1 aa.2.2.2.1 aa.2.2.2.2 1).bind fun ac => (A0q.j0 k ac.2.1 ac.1 ac.2.2.1 ac.2.2.2.1 ac.2.2.2.2 ad ae af))) else (some (0, ad, ae, af, some 2, aa.2.2.1, aa.2.2.2.1, aa.2.2.2.2)))
theorem A0q.A3f : ∀ k, (∀ y0 y1 y2 y3 y4 y5 y6 y7, LeO (A0q.j0 k y0 y1 y2 y3 y4 y5 y6 y7) (A0q.j0 (k + 1) y0 y1 y2 y3 y4 y5 y6 y7)) ∧ (∀ y0 y1 y2 y3 y4 y5 y6 y7 y8, LeO (A0q.j1 k y0 y1 y2 y3 y4 y5 y6 y7 y8) (A0q.j1 (k + 1) y0 y1 y2 y3 y4 y5 y6 y7 y8)) ∧ (∀ y0 y1 y2 y3 y4 y5 y6 y7 y8 y9 aa, LeO (A0q.j2 k y0 y1 y2 y3 y4 y5 y6 y7 y8 y9 aa) (A0q.j2 (k + 1) y0 y1 y2 y3 y4 y5 y6 y7 y8 y9 aa)) ∧ (∀ y0 y1 y2 y3 y4 y5 y6 y7 y8 y9 aa ac ad ae af ag, LeO (A0q.j3 k y0 y1 y2 y3 y4 y5 y6 y7 y8 y9 aa ac ad ae af ag) (A0q.j3 (k + 1) y0 y1 y2 y3 y4 y5 y6 y7 y8 y9 aa ac ad ae af ag))
 | 0 => ⟨fun _ _ _ _ _ _ _ _ r h => by simp [A0q.j0] at h, fun _ _ _ _ _ _ _ _ _ r h => by simp [A0q.j1] at h, fun _ _ _ _ _ _ _ _ _ _ _ r h => by simp [A0q.j2] at h, fun _ _ _ _ _ _ _ _ _ _ _ _ _ _ _ _ r h => by simp [A0q.j3] at h⟩
 | k + 1 => by
  obtain ⟨ih0, ih1, ih2, ih3⟩ := A0q.A3f k
  refine ⟨?_, ?_, ?_, ?_⟩ <;> intros <;> (first | unfold A0q.j0 | unfold A0q.j1 | unfold A0q.j2 | unfold A0q.j3) <;> (
   repeat' first
   | (with_reducible exact ih0 _ _ _ _ _ _ _ _)
   | (with_reducible exact ih1 _ _ _ _ _ _ _ _ _)
   | (with_reducible exact ih2 _ _ _ _ _ _ _ _ _ _ _)
   | (with_reducible exact ih3 _ _ _ _ _ _ _ _ _ _ _ _ _ _ _ _)
   | (with_reducible exact A2i.mono _ _ _ _)
   | (with_reducible exact A0j.mono _ _ _ _ _)
   | (with_reducible exact A1l.mono _ _ _ _ _)
   | (with_reducible exact LeO.refl _)
   | (with_reducible exact LeO.none _)
   | (with_reducible refine LeO.ite ?_ ?_)
   | (with_reducible refine LeO.bind ?_ (fun _ => ?_))
   | exact ih0 _ _ _ _ _ _ _ _
   | exact ih1 _ _ _ _ _ _ _ _ _
   | exact ih2 _ _ _ _ _ _ _ _ _ _ _
   | exact ih3 _ _ _ _ _ _ _ _ _ _ _ _ _ _ _ _
   | exact A2i.mono _ _ _ _
   | exact A0j.mono _ _ _ _ _
   | exact A1l.mono _ _ _ _ _
   | exact LeO.none _
   | refine LeO.ite ?_ ?_
   | refine LeO.bind ?_ (fun _ => ?_))
theorem A0q.mono : ∀ a0 a1 a2 a3 a4 a5 k, LeO (A0q.f k a0 a1 a2 a3 a4 a5) (A0q.f (k + 1) a0 a1 a2 a3 a4 a5) := by
 intro a0 a1 a2 a3 a4 a5 k
 obtain ⟨ih0, ih1, ih2, ih3⟩ := A0q.A3f k
 unfold A0q.f
 repeat' first
   | (with_reducible exact ih0 _ _ _ _ _ _ _ _)
   | (with_reducible exact ih1 _ _ _ _ _ _ _ _ _)
   | (with_reducible exact ih2 _ _ _ _ _ _ _ _ _ _ _)
   | (with_reducible exact ih3 _ _ _ _ _ _ _ _ _ _ _ _ _ _ _ _)
   | (with_reducible exact A2i.mono _ _ _ _)
   | (with_reducible exact A0j.mono _ _ _ _ _)
   | (with_reducible exact A1l.mono _ _ _ _ _)
   | (with_reducible exact LeO.refl _)
   | (with_reducible exact LeO.none _)
   | (with_reducible refine LeO.ite ?_ ?_)
   | (with_reducible refine LeO.bind ?_ (fun _ => ?_))
   | exact ih0 _ _ _ _ _ _ _ _
   | exact ih1 _ _ _ _ _ _ _ _ _
   | exact ih2 _ _ _ _ _ _ _ _ _ _ _
   | exact ih3 _ _ _ _ _ _ _ _ _ _ _ _ _ _ _ _
   | exact A2i.mono _ _ _ _
   | exact A0j.mono _ _ _ _ _
   | exact A1l.mono _ _ _ _ _
   | exact LeO.none _
   | refine LeO.ite ?_ ?_
   | refine LeO.bind ?_ (fun _ => ?_)
def A0q.T20 : Bool × List (List Nat × List Nat) := (true, [([], []), ([0], [0]), ([], []), ([], []), ([3], [3]), ([], []), ([4, 5], [4, 5]), ([2, 6], [2, 6]), ([1, 7], [1, 7]), ([8, 0, 1, 2, 3, 4, 5, 6, 7, 8], [8])])
def A0q.B20 : List Nat := [0, 1, 0, 0, 8, 0, 56, 124, 255, 511]
theorem A0q.tab20 : rtab .any (opsOf Tryd.f45 20) = A0q.T20 := by kernel_rfl
theorem A0q.bits20 : A3g A0q.T20.2 A0q.B20 = true := by kernel_rfl
set_option maxHeartbeats 8000000 in
set_option maxRecDepth 100000 in
theorem A0q.calls (k : Nat) (g : Nat) (aO : List Int) (aP : Int) (aQ : Int) (ah : Int) (an : Int) (ao : Int) (r1 : Int) (r2 : Int) (r3 : Int) (r4 : Int) (r5 : Option Int) (r6 : List Int) (r7 : Int) (r8 : Int) (w0 w : World) (hT : A3l w0) (hI : A0a w0 w g aO aP aQ) (hB : Below w0.heap.size w0 w) (h : A0q.f k aO aP aQ ah an ao = some (r1, r2, r3, r4, r5, r6, r7, r8)) :
  Calls Tryd.prog 45 #[.pointer (some ⟨g, 0, none⟩), .agg #[.int .u64 ah, .int .i64 an, .int .i64 ao]] w fun e w' => e = .returned (.tuple #[.int .u64 r1, .agg #[.int .u64 r2, .int .i64 r3, .int .i64 r4], errW r5]) ∧ A0a w0 w' g r6 r7 r8 ∧ Below w0.heap.size w0 w' ∧ A0d w w' g none := by
 have hu42 := Tryd.underlying42; have hu56 := Tryd.underlying56; have hu27 := Tryd.underlying27; have hu54 := Tryd.underlying54; have HT := ak hT; clear hT; have ae := ak hI; have HK := ak (A0d.refl w g none); have HL := ak hB.size; clear hI; have HW0 := ak hB.size; have HB := ak hB; clear hB; have H : ((A0j.f k aO aP aQ 1).bind fun aR => (if aR.2.1 = true then (if aR.1 = 0 then (some (ah, ah, an, ao, none, aR.2.2.1, aR.2.2.2.1, aR.2.2.2.2)) else ((A0j.f k aR.2.2.1 aR.2.2.2.1 aR.2.2.2.2 1).bind fun bq => (A0q.j0 k bq.2.1 bq.1 bq.2.2.1 bq.2.2.2.1 bq.2.2.2.2 ah an ao))) else (some (0, ah, an, ao, some 2, aR.2.2.1, aR.2.2.2.1, aR.2.2.2.2)))) = some (r1, r2, r3, r4, r5, r6, r7, r8) := h; clear h; replace H := bkH H; obtain ⟨⟨bF, f8, bG, bH, bI⟩, A3, H⟩ := H; (try dsimp only at H)
 by_cases c4 : f8 = true
 ·subst c4
  rw [if_pos rfl] at H
  by_cases c5 : bF = 0
  ·rw [if_pos c5] at H; obtain ⟨b1, b2⟩ := kqT c5; clear c5; simp only [Option.some.injEq, Prod.mk.injEq] at H; obtain ⟨rfl, rfl, rfl, rfl, rfl, rfl, rfl, rfl⟩ := H
   go_enter Tryd.func45, Tryd.ntmps45
   try go_wp2_with (first | ((with_reducible refine A0p (N := 3) rfl ?_); refine bxe 3 #[.int .u64 ah, .int .i64 an, .int .i64 ao] 42 (h := ?_); intro ad hg w6 hbox hb; replace HB := ak (A0t (A0a.kl HB) hb); have ac := ak (hbox); have cf := ak ((by rw [hg]; exact (A0r (w := w) (g := g) (row := none) (kk HK)) : w.heap.size ≤ ad)); have aW := ak ((Nat.le_trans HW0.out (by rw [hg]; exact (A0r (w := w) (g := g) (row := none) (kk HK)) : w.heap.size ≤ ad) : w0.heap.size ≤ ad)); replace HK := ak (A0d.trans (kk HK) (A0d.of_below hb g none) (.inl rfl)); have aq := ak ((by rw [hg]; exact Nat.ne_of_lt (A0a.lt (show A0a w0 _ g aO aP aQ from by repeat (first | (with_reducible first | exact ae.out | apply A0a.alloc | apply A0a.drewN | apply A0a.drew | apply A0a.A04 | apply A0a.A05) | exact ae.out))) : g ≠ ad)); have a7 := ak ((by rw [hg]; exact Nat.ne_of_gt (A0a.lt (show A0a w0 _ g aO aP aQ from by repeat (first | (with_reducible first | exact ae.out | apply A0a.alloc | apply A0a.drewN | apply A0a.drew | apply A0a.A04 | apply A0a.A05) | exact ae.out))) : ad ≠ g)); replace ae := ak (A0a.below (A0a.k ae) hb); clear hb hbox hg) | ((with_reducible refine A0p (N := 5) rfl ?_); refine bxe 5 #[.int .u64 0, .int .i64 0, .int .i64 0] 42 (h := ?_); intro ag hg w7 hbox hb; replace HB := ak (A0t (A0a.kl HB) hb); have aa := ak (hbox); have cg := ak ((by rw [hg]; exact (A0r (w := w) (g := g) (row := none) (kk HK)) : w.heap.size ≤ ag)); have aX := ak ((Nat.le_trans HW0.out (by rw [hg]; exact (A0r (w := w) (g := g) (row := none) (kk HK)) : w.heap.size ≤ ag) : w0.heap.size ≤ ag)); replace HK := ak (A0d.trans (kk HK) (A0d.of_below hb g none) (.inl rfl)); obtain ⟨ai, aj⟩ := kN hg ac; replace ac := kB ac hb; have ay := ak ((by rw [hg]; exact Nat.ne_of_lt (A0a.lt (show A0a w0 _ g aO aP aQ from by repeat (first | (with_reducible first | exact ae.out | apply A0a.alloc | apply A0a.drewN | apply A0a.drew | apply A0a.A04 | apply A0a.A05 | refine A0a.far ?_ aq.out _) | exact ae.out))) : g ≠ ag)); have a8 := ak ((by rw [hg]; exact Nat.ne_of_gt (A0a.lt (show A0a w0 _ g aO aP aQ from by repeat (first | (with_reducible first | exact ae.out | apply A0a.alloc | apply A0a.drewN | apply A0a.drew | apply A0a.A04 | apply A0a.A05 | refine A0a.far ?_ aq.out _) | exact ae.out))) : ag ≠ g)); replace ae := ak (A0a.below (A0a.k ae) hb); clear hb hbox hg) | ((with_reducible refine A0f (f := 57) rfl ?_); refine A03 (some 20) rfl rfl Tryd.func57 (by kernel_rfl) rfl #[.pointer (some ⟨g, 0, none⟩), .int .i64 1] rfl km ?_; (with_reducible refine (A0j.calls k g aO aP aQ 1 bF true bG bH bI w0 _ ?aA ?aG A3.out).mono ?_); (case aA => repeat (first | (with_reducible first | exact ae.out | apply A0a.alloc | apply A0a.drewN | apply A0a.drew | apply A0a.A04 | apply A0a.A05 | refine A0a.far ?_ aq.out _ | refine A0a.far ?_ ay.out _) | exact ae.out)); (case aG => repeat (first | (with_reducible first | exact HB.out | apply A0o | apply A0h | apply A0g | refine A0c ?_ (A0a.ge ae.out) | refine A0c ?_ aW.out | refine A0c ?_ aX.out) | exact HB.out)); rintro e w8 ⟨rfl, hi, hb, hk⟩; refine ⟨_, rfl, ?_⟩; replace ac := ak (A0d.blk hk (g' := ad) (o := .cells #[.int .u64 ah, .int .i64 an, .int .i64 ao] 42 (0, 0)) (kb ac) a7.out (by simp)); replace aa := ak (A0d.blk hk (g' := ag) (o := .cells #[.int .u64 0, .int .i64 0, .int .i64 0] 42 (0, 0)) (kb aa) a8.out (by simp)); replace HK := ak (A0d.trans (kk HK) hk (.inl rfl)); replace HB := ak (hb); replace ae := ak (hi); (try clear hb); (try clear hk); (try clear hi); ))
   replace ac := ak (A0i ac.out); replace aa := ak (A0i aa.out); replace ae := ak (A0a.drew ae.out); replace HK := ak (A1u HK.out); replace HB := ak (A0g HB.out); refine A2h (n := 6) (S := fun w' => w'.cell? ⟨ad, 0, none⟩ = some (.int .u64 ah) ∧ w'.cell? ⟨ad, 1, none⟩ = some (.int .i64 an) ∧ w'.cell? ⟨ad, 2, none⟩ = some (.int .i64 ao)) (ds := []) (bl 6 0) (by kernel_rfl) rfl rfl kz (fun hHeld => ?_); generalize w8.drew = w9 at ac aa ae HK HB hHeld ⊢; refine pu 0 (some 29) (bl 6 1) (h := ?_); refine ta 1 (some 30) (bl 6 3) (h := ?_); refine pu 3 (some 4) (bl 6 11) (h := ?_); refine ta 2 (some 31) (bl 6 15) (h := ?_); refine one_ (i := 4) (N := none) (bl 6 31) rfl rfl (by kernel_rfl) (by decide) (fun K hK => ?_); have jj := (kc3 aa).1; have ha := A0b aa.out 0; have eN := ai.out; have eO := aj.out; have jk := (kc3 aa).2.1; have hc := A0b aa.out 1; have jl := (kc3 aa).2.2; have he := A0b aa.out 2; refine A20 (w1 := ?_) (by rfl) rfl ?_ ?_
   rotate_left
   ·go_simp
    rfl
   refine hK.out _ _ (ks hHeld) (fun hHeld => ?_); clear hK K; refine pu 5 (some 6) (bl 6 63) (h := ?_); refine A3b (by kernel_rfl) ?_
   try go_wp2
   refine bodyPost_ret (A1a (rs := [.tmp 4, .cell 5 42, .tmp 6]) rfl (by simp) (.tmp (.cell ag 42 #[.int .u64 ah, .int .i64 an, .int .i64 ao] (0, 0) _ rfl (kb aa) Tryd.underlying42 rfl (by kernel_rfl) (.tmp .nil)))) rfl ?_
   exact ⟨kF, (A0a.k ae), (A0a.kl HB), (kk HK)⟩
  ·rw [if_neg c5] at H; obtain ⟨b1, b2⟩ := kqF c5; have cp := ak H; clear H
   go_enter Tryd.func45, Tryd.ntmps45
   go_upto_region 6 with (first | ((with_reducible refine A0p (N := 3) rfl ?_); refine bxe 3 #[.int .u64 ah, .int .i64 an, .int .i64 ao] 42 (h := ?_); intro ad hg jP hbox hb; replace HB := ak (A0t (A0a.kl HB) hb); have ac := ak (hbox); have cf := ak ((by rw [hg]; exact (A0r (w := w) (g := g) (row := none) (kk HK)) : w.heap.size ≤ ad)); have aW := ak ((Nat.le_trans HW0.out (by rw [hg]; exact (A0r (w := w) (g := g) (row := none) (kk HK)) : w.heap.size ≤ ad) : w0.heap.size ≤ ad)); replace HK := ak (A0d.trans (kk HK) (A0d.of_below hb g none) (.inl rfl)); have aq := ak ((by rw [hg]; exact Nat.ne_of_lt (A0a.lt (show A0a w0 _ g aO aP aQ from by repeat (first | (with_reducible first | exact ae.out | apply A0a.alloc | apply A0a.drewN | apply A0a.drew | apply A0a.A04 | apply A0a.A05) | exact ae.out))) : g ≠ ad)); have a7 := ak ((by rw [hg]; exact Nat.ne_of_gt (A0a.lt (show A0a w0 _ g aO aP aQ from by repeat (first | (with_reducible first | exact ae.out | apply A0a.alloc | apply A0a.drewN | apply A0a.drew | apply A0a.A04 | apply A0a.A05) | exact ae.out))) : ad ≠ g)); replace ae := ak (A0a.below (A0a.k ae) hb); clear hb hbox hg) | ((with_reducible refine A0p (N := 5) rfl ?_); refine bxe 5 #[.int .u64 0, .int .i64 0, .int .i64 0] 42 (h := ?_); intro ag hg jQ hbox hb; replace HB := ak (A0t (A0a.kl HB) hb); have aa := ak (hbox); have cg := ak ((by rw [hg]; exact (A0r (w := w) (g := g) (row := none) (kk HK)) : w.heap.size ≤ ag)); have aX := ak ((Nat.le_trans HW0.out (by rw [hg]; exact (A0r (w := w) (g := g) (row := none) (kk HK)) : w.heap.size ≤ ag) : w0.heap.size ≤ ag)); replace HK := ak (A0d.trans (kk HK) (A0d.of_below hb g none) (.inl rfl)); obtain ⟨ai, aj⟩ := kN hg ac; replace ac := kB ac hb; have ay := ak ((by rw [hg]; exact Nat.ne_of_lt (A0a.lt (show A0a w0 _ g aO aP aQ from by repeat (first | (with_reducible first | exact ae.out | apply A0a.alloc | apply A0a.drewN | apply A0a.drew | apply A0a.A04 | apply A0a.A05 | refine A0a.far ?_ aq.out _) | exact ae.out))) : g ≠ ag)); have a8 := ak ((by rw [hg]; exact Nat.ne_of_gt (A0a.lt (show A0a w0 _ g aO aP aQ from by repeat (first | (with_reducible first | exact ae.out | apply A0a.alloc | apply A0a.drewN | apply A0a.drew | apply A0a.A04 | apply A0a.A05 | refine A0a.far ?_ aq.out _) | exact ae.out))) : ag ≠ g)); replace ae := ak (A0a.below (A0a.k ae) hb); clear hb hbox hg) | ((with_reducible refine A0f (f := 57) rfl ?_); refine A03 (some 20) rfl rfl Tryd.func57 (by kernel_rfl) rfl #[.pointer (some ⟨g, 0, none⟩), .int .i64 1] rfl km ?_; (with_reducible refine (A0j.calls k g aO aP aQ 1 bF true bG bH bI w0 _ ?aA ?aG A3.out).mono ?_); (case aA => repeat (first | (with_reducible first | exact ae.out | apply A0a.alloc | apply A0a.drewN | apply A0a.drew | apply A0a.A04 | apply A0a.A05 | refine A0a.far ?_ aq.out _ | refine A0a.far ?_ ay.out _) | exact ae.out)); (case aG => repeat (first | (with_reducible first | exact HB.out | apply A0o | apply A0h | apply A0g | refine A0c ?_ (A0a.ge ae.out) | refine A0c ?_ aW.out | refine A0c ?_ aX.out) | exact HB.out)); rintro e jR ⟨rfl, hi, hb, hk⟩; refine ⟨_, rfl, ?_⟩; replace ac := ak (A0d.blk hk (g' := ad) (o := .cells #[.int .u64 ah, .int .i64 an, .int .i64 ao] 42 (0, 0)) (kb ac) a7.out (by simp)); replace aa := ak (A0d.blk hk (g' := ag) (o := .cells #[.int .u64 0, .int .i64 0, .int .i64 0] 42 (0, 0)) (kb aa) a8.out (by simp)); replace HK := ak (A0d.trans (kk HK) hk (.inl rfl)); replace HB := ak (hb); replace ae := ak (hi); (try clear hb); (try clear hk); (try clear hi); ))
   (try simp only [Act.put, List.setIfInBounds_toArray, List.set_cons_zero, List.set_cons_succ])
   go_cut [8, 9] (fun v8 v9 wc => ∃ (kq : Nat) (bw : Bool) (aS : Int) (aH : List Int) (aI : Int) (aJ : Int), v8 = .bool bw ∧ v9 = .int .u64 aS ∧ A0e (A0q.j0 kq bw aS aH aI aJ ah an ao = some (r1, r2, r3, r4, r5, r6, r7, r8)) ∧ A0e (kq ≤ k) ∧ A0e (wc.heap[ad]? = some (.cells #[.int .u64 ah, .int .i64 an, .int .i64 ao] 42 (0, 0))) ∧ A0e (wc.heap[ag]? = some (.cells #[.int .u64 0, .int .i64 0, .int .i64 0] 42 (0, 0))) ∧ A0e (A0a w0 wc g aH aI aJ) ∧ A0e (A0d w wc g none) ∧ A0e (Below w0.heap.size w0 wc))
   case first =>
    have H := cp.out; clear cp; replace H := bkH H; obtain ⟨⟨cF, cG, cH, cI, cJ⟩, jm, H⟩ := H; (try dsimp only at H); have H' := ak H; clear H
    go_wp2_with (first | ((with_reducible refine A0f (f := 57) rfl ?_); refine A03 (some 34) rfl rfl Tryd.func57 (by kernel_rfl) rfl #[.pointer (some ⟨g, 0, none⟩), .int .i64 1] rfl km ?_; (with_reducible refine (A0j.calls k g bG bH bI 1 cF cG cH cI cJ w0 _ ?aA ?aG jm.out).mono ?_); (case aA => repeat (first | (with_reducible first | exact ae.out | apply A0a.alloc | apply A0a.drewN | apply A0a.drew | apply A0a.A04 | apply A0a.A05 | refine A0a.far ?_ aq.out _ | refine A0a.far ?_ ay.out _) | exact ae.out)); (case aG => repeat (first | (with_reducible first | exact HB.out | apply A0o | apply A0h | apply A0g | refine A0c ?_ (A0a.ge ae.out) | refine A0c ?_ aW.out | refine A0c ?_ aX.out) | exact HB.out)); rintro e jS ⟨rfl, hi, hb, hk⟩; refine ⟨_, rfl, ?_⟩; replace ac := ak (A0d.blk hk (g' := ad) (o := .cells #[.int .u64 ah, .int .i64 an, .int .i64 ao] 42 (0, 0)) (kb ac) a7.out (by simp)); replace aa := ak (A0d.blk hk (g' := ag) (o := .cells #[.int .u64 0, .int .i64 0, .int .i64 0] 42 (0, 0)) (kb aa) a8.out (by simp)); replace HK := ak (A0d.trans (kk HK) hk (.inl rfl)); replace HB := ak (hb); replace ae := ak (hi); (try clear hb); (try clear hk); (try clear hi); ))
    go_meet
    case rel => exact ⟨_, (cG), (cF), (cH), (cI), (cJ), kE, kE, H', ⟨by first | omega | exact Nat.le_refl _⟩, ⟨kb ac⟩, ⟨kb aa⟩, ⟨(A0a.k ae)⟩, ⟨(kk HK)⟩, ⟨(A0a.kl HB)⟩⟩
   case rest =>
    clear cp; (try clear c4); (try clear c5); (try clear b1); (try clear b2); obtain ⟨kq, bw, aS, aH, aI, aJ, rfl, rfl, HA, bJ, ac, aa, ae, HK, HB⟩ := hcut
    cases kq with
    | zero => exact absurd HA.out (by simp [A0q.j0])
    | succ bK =>
     have H := HA.out; clear HA; simp only [A0q.j0] at H
     by_cases cq : bw = true
     ·subst cq
      rw [if_pos rfl] at H; have cr := ak H; clear H
      try go_wp2
      replace ac := ak (A0i ac.out); replace aa := ak (A0i aa.out); replace ae := ak (A0a.drew ae.out); replace HK := ak (A1u HK.out); replace HB := ak (A0g HB.out); refine A2h (n := 6) (S := fun w' => w'.cell? ⟨ad, 0, none⟩ = some (.int .u64 ah) ∧ w'.cell? ⟨ad, 1, none⟩ = some (.int .i64 an) ∧ w'.cell? ⟨ad, 2, none⟩ = some (.int .i64 ao)) (ds := []) (bl 6 0) (by kernel_rfl) rfl rfl kz (fun hHeld => ?_); generalize wc.drew = jT at ac aa ae HK HB hHeld ⊢; refine pu 0 (some 41) (bl 6 1) (h := ?_); refine pu 2 (some 43) (bl 6 5) (h := ?_); refine ta 1 (some 42) (bl 6 7) (h := ?_); refine pu 4 (some 10) (bl 6 23) (h := ?_); refine ta 3 (some 44) (bl 6 31) (h := ?_); refine pu 5 (some 11) (bl 6 63) (h := ?_); refine A3b (by kernel_rfl) ?_
      go_upto_if 46 with (fail)
      go_cut [10, 11] (fun jo jp wc => ∃ (kq : Nat) (aF : Int) (a4 : Int) (aY : List Int) (aZ : Int) (ba : Int) (aB : Int) (aC : Int) (aD : Int), jo = .int .i64 aF ∧ jp = .int .i64 a4 ∧ A0e (A0q.j1 kq aS aF a4 aY aZ ba ah an ao = some (r1, r2, r3, r4, r5, r6, r7, r8)) ∧ A0e (kq ≤ bK) ∧ A0e (wc.heap[ad]? = some (.cells #[.int .u64 ah, .int .i64 an, .int .i64 ao] 42 (0, 0))) ∧ A0e (wc.heap[ag]? = some (.cells #[.int .u64 aB, .int .i64 aC, .int .i64 aD] 42 (0, 0))) ∧ A0e (A0a w0 wc g aY aZ ba) ∧ A0e (A0d w wc g none) ∧ A0e (Below w0.heap.size w0 wc))
      case first =>
       have H := cr.out; clear cr
       by_cases cK : aS = 1
       ·rw [if_pos cK] at H; obtain ⟨br, cL⟩ := kqT cK; clear cK
        (first | rw [br] | (simp only [A2w, A3k]; rw [br]) | skip)
        replace H := bkH H; obtain ⟨⟨bL, bM, f9, b3, b4, b5⟩, hf, H⟩ := H; (try dsimp only at H)
        rcases f9 with _ | cs
        ·have H1 : (A0q.j1 bK aS bL bM b3 b4 b5 ah an ao) = some (r1, r2, r3, r4, r5, r6, r7, r8) := by rw [if_pos (show (none : Option Int).isNone = true by rfl)] at H; exact H
         clear H; have H := H1; clear H1
         try simp only [A0l, A0m]
         have H' := ak H; clear H
         go_wp2_with (first | ((with_reducible refine A0f (f := 60) rfl ?_); refine A03 (some 49) rfl rfl Tryd.func60 (by kernel_rfl) rfl #[.pointer (some ⟨g, 0, none⟩)] rfl km ?_; (with_reducible refine (A2i.calls bK g aH aI aJ bL bM none b3 b4 b5 w0 _ ?aA ?aG hf.out).mono ?_); (case aA => repeat (first | (with_reducible first | exact ae.out | apply A0a.alloc | apply A0a.drewN | apply A0a.drew | apply A0a.A04 | apply A0a.A05 | refine A0a.far ?_ aq.out _ | refine A0a.far ?_ ay.out _) | exact ae.out)); (case aG => repeat (first | (with_reducible first | exact HB.out | apply A0o | apply A0h | apply A0g | refine A0c ?_ (A0a.ge ae.out) | refine A0c ?_ aW.out | refine A0c ?_ aX.out) | exact HB.out)); rintro e jU ⟨rfl, hi, hb, hk⟩; refine ⟨_, rfl, ?_⟩; replace ac := ak (A0d.blk hk (g' := ad) (o := .cells #[.int .u64 ah, .int .i64 an, .int .i64 ao] 42 (0, 0)) (kb ac) a7.out (by simp)); replace aa := ak (A0d.blk hk (g' := ag) (o := .cells #[.int .u64 0, .int .i64 0, .int .i64 0] 42 (0, 0)) (kb aa) a8.out (by simp)); replace HK := ak (A0d.trans (kk HK) hk (.inl rfl)); replace HB := ak (hb); replace ae := ak (hi); (try clear hb); (try clear hk); (try clear hi); (try simp only [A0l, A0m])))
         go_meet
         case rel => exact ⟨_, (bL), (bM), (b3), (b4), (b5), (0), (0), (0), kE, kE, H', ⟨by have := bJ.out; first | omega | exact Nat.le_refl _⟩, ⟨kb ac⟩, ⟨kb aa⟩, ⟨(A0a.k ae)⟩, ⟨(kk HK)⟩, ⟨(A0a.kl HB)⟩⟩
        ·have H1 : (some (0, ah, an, ao, some cs, b3, b4, b5)) = some (r1, r2, r3, r4, r5, r6, r7, r8) := by rw [if_neg (show ¬ (some cs).isNone = true by simp)] at H; exact H
         clear H; have H := H1; clear H1
         try simp only [A0l, A0m]
         simp only [Option.some.injEq, Prod.mk.injEq] at H; obtain ⟨rfl, rfl, rfl, rfl, rfl, rfl, rfl, rfl⟩ := H
         try go_wp2_with (first | ((with_reducible refine A0f (f := 60) rfl ?_); refine A03 (some 49) rfl rfl Tryd.func60 (by kernel_rfl) rfl #[.pointer (some ⟨g, 0, none⟩)] rfl km ?_; (with_reducible refine (A2i.calls bK g aH aI aJ bL bM (some cs) b3 b4 b5 w0 _ ?aA ?aG hf.out).mono ?_); (case aA => repeat (first | (with_reducible first | exact ae.out | apply A0a.alloc | apply A0a.drewN | apply A0a.drew | apply A0a.A04 | apply A0a.A05 | refine A0a.far ?_ aq.out _ | refine A0a.far ?_ ay.out _) | exact ae.out)); (case aG => repeat (first | (with_reducible first | exact HB.out | apply A0o | apply A0h | apply A0g | refine A0c ?_ (A0a.ge ae.out) | refine A0c ?_ aW.out | refine A0c ?_ aX.out) | exact HB.out)); rintro e jq ⟨rfl, hi, hb, hk⟩; refine ⟨_, rfl, ?_⟩; replace ac := ak (A0d.blk hk (g' := ad) (o := .cells #[.int .u64 ah, .int .i64 an, .int .i64 ao] 42 (0, 0)) (kb ac) a7.out (by simp)); replace aa := ak (A0d.blk hk (g' := ag) (o := .cells #[.int .u64 0, .int .i64 0, .int .i64 0] 42 (0, 0)) (kb aa) a8.out (by simp)); replace HK := ak (A0d.trans (kk HK) hk (.inl rfl)); replace HB := ak (hb); replace ae := ak (hi); (try clear hb); (try clear hk); (try clear hi); (try simp only [A0l, A0m])))
         replace ac := ak (A0i ac.out); replace aa := ak (A0i aa.out); replace ae := ak (A0a.drew ae.out); replace HK := ak (A1u HK.out); replace HB := ak (A0g HB.out); refine A2h (n := 5) (S := fun w' => w'.cell? ⟨ad, 0, none⟩ = some (.int .u64 ah) ∧ w'.cell? ⟨ad, 1, none⟩ = some (.int .i64 an) ∧ w'.cell? ⟨ad, 2, none⟩ = some (.int .i64 ao)) (ds := []) (bl 5 0) (by kernel_rfl) rfl rfl kz (fun hHeld => ?_); generalize jq.drew = jV at ac aa ae HK HB hHeld ⊢; refine pu 1 (some 56) (bl 5 2) (h := ?_); refine pu 2 (some 4) (bl 5 6) (h := ?_); refine ta 0 (some 55) (bl 5 7) (h := ?_); refine one_ (i := 3) (N := none) (bl 5 15) rfl rfl (by kernel_rfl) (by decide) (fun K hK => ?_); have jr := (kc3 aa).1; have hh := A0b aa.out 0; have eP := ai.out; have eQ := aj.out; have js := (kc3 aa).2.1; have hl := A0b aa.out 1; have jt := (kc3 aa).2.2; have hm := A0b aa.out 2; refine A20 (w1 := ?_) (by rfl) rfl ?_ ?_
         rotate_left
         ·go_simp
          rfl
         refine hK.out _ _ (ks hHeld) (fun hHeld => ?_); clear hK K; refine pu 4 (some 6) (bl 5 31) (h := ?_); refine A3b (by kernel_rfl) ?_
         try go_wp2
         refine bodyPost_ret (A1a (rs := [.tmp 4, .cell 5 42, .tmp 6]) rfl (by simp) (.tmp (.cell ag 42 #[.int .u64 ah, .int .i64 an, .int .i64 ao] (0, 0) _ rfl (kb aa) Tryd.underlying42 rfl (by kernel_rfl) (.tmp .nil)))) rfl ?_
         exact ⟨kF, (A0a.k ae), (A0a.kl HB), (kk HK)⟩
       ·rw [if_neg cK] at H; obtain ⟨br, cL⟩ := kqF cK
        (first | rw [br] | (simp only [A2w, A3k]; rw [br]) | skip)
        have H' := ak H; clear H
        go_wp2
        go_meet
        case rel => exact ⟨_, (an), (ao), (aH), (aI), (aJ), (0), (0), (0), kE, kE, H', ⟨by have := bJ.out; first | omega | exact Nat.le_refl _⟩, ⟨kb ac⟩, ⟨kb aa⟩, ⟨(A0a.k ae)⟩, ⟨(kk HK)⟩, ⟨(A0a.kl HB)⟩⟩
      case rest =>
       clear cr; (try clear c4); (try clear c5); (try clear b1); (try clear b2); (try clear cq); obtain ⟨kq, aF, a4, aY, aZ, ba, aB, aC, aD, rfl, rfl, HA, cM, ac, aa, ae, HK, HB⟩ := hcut
       cases kq with
       | zero => exact absurd HA.out (by simp [A0q.j1])
       | succ cN =>
        have H := HA.out; clear HA; simp only [A0q.j1] at H
        by_cases ct : a4 = 0
        ·rw [if_pos ct] at H; obtain ⟨b6, b7⟩ := kqT ct; clear ct; simp only [Option.some.injEq, Prod.mk.injEq] at H; obtain ⟨rfl, rfl, rfl, rfl, rfl, rfl, rfl, rfl⟩ := H
         try go_wp2
         replace ac := ak (A0i ac.out); replace aa := ak (A0i aa.out); replace ae := ak (A0a.drew ae.out); replace HK := ak (A1u HK.out); replace HB := ak (A0g HB.out); refine A2h (n := 5) (S := fun w' => w'.cell? ⟨ad, 0, none⟩ = some (.int .u64 ah) ∧ w'.cell? ⟨ad, 1, none⟩ = some (.int .i64 an) ∧ w'.cell? ⟨ad, 2, none⟩ = some (.int .i64 ao)) (ds := []) (bl 5 0) (by kernel_rfl) rfl rfl kz (fun hHeld => ?_); generalize wc.drew = jW at ac aa ae HK HB hHeld ⊢; refine pu 1 (some 60) (bl 5 2) (h := ?_); refine pu 2 (some 4) (bl 5 6) (h := ?_); refine ta 0 (some 59) (bl 5 7) (h := ?_); refine one_ (i := 3) (N := none) (bl 5 15) rfl rfl (by kernel_rfl) (by decide) (fun K hK => ?_); have ju := (kc3 aa).1; have hn := A0b aa.out 0; have eR := ai.out; have eS := aj.out; have jv := (kc3 aa).2.1; have hp := A0b aa.out 1; have jw := (kc3 aa).2.2; have hq := A0b aa.out 2; refine A20 (w1 := ?_) (by rfl) rfl ?_ ?_
         rotate_left
         ·go_simp
          rfl
         refine hK.out _ _ (ks hHeld) (fun hHeld => ?_); clear hK K; refine pu 4 (some 6) (bl 5 31) (h := ?_); refine A3b (by kernel_rfl) ?_
         try go_wp2
         refine bodyPost_ret (A1a (rs := [.tmp 4, .cell 5 42, .tmp 6]) rfl (by simp) (.tmp (.cell ag 42 #[.int .u64 ah, .int .i64 an, .int .i64 ao] (0, 0) _ rfl (kb aa) Tryd.underlying42 rfl (by kernel_rfl) (.tmp .nil)))) rfl ?_
         exact ⟨kF, (A0a.k ae), (A0a.kl HB), (kk HK)⟩
        ·rw [if_neg ct] at H; obtain ⟨b6, b7⟩ := kqF ct; have cu := ak H; clear H
         go_upto_region 17 with (fail)
         go_cut [8, 13] (fun v8 jx wc => ∃ (kq : Nat) (bx : Bool) (aT : Int) (av : List Int) (aw : Int) (ax : Int), v8 = .bool bx ∧ jx = .int .u64 aT ∧ A0e (A0q.j2 kq bx aS aF a4 aT av aw ax ah an ao = some (r1, r2, r3, r4, r5, r6, r7, r8)) ∧ A0e (kq ≤ cN) ∧ A0e (wc.heap[ad]? = some (.cells #[.int .u64 ah, .int .i64 an, .int .i64 ao] 42 (0, 0))) ∧ A0e (wc.heap[ag]? = some (.cells #[.int .u64 aB, .int .i64 aC, .int .i64 aD] 42 (0, 0))) ∧ A0e (A0a w0 wc g av aw ax) ∧ A0e (A0d w wc g none) ∧ A0e (Below w0.heap.size w0 wc))
         case first =>
          have H := cu.out; clear cu; replace H := bkH H; obtain ⟨⟨cO, cP, cQ, cR, cS⟩, jy, H⟩ := H; (try dsimp only at H); have H' := ak H; clear H
          go_wp2_with (first | ((with_reducible refine A0f (f := 57) rfl ?_); refine A03 (some 64) rfl rfl Tryd.func57 (by kernel_rfl) rfl #[.pointer (some ⟨g, 0, none⟩), .int .i64 a4] rfl km ?_; (with_reducible refine (A0j.calls cN g aY aZ ba a4 cO cP cQ cR cS w0 _ ?aA ?aG jy.out).mono ?_); (case aA => repeat (first | (with_reducible first | exact ae.out | apply A0a.alloc | apply A0a.drewN | apply A0a.drew | apply A0a.A04 | apply A0a.A05 | refine A0a.far ?_ aq.out _ | refine A0a.far ?_ ay.out _) | exact ae.out)); (case aG => repeat (first | (with_reducible first | exact HB.out | apply A0o | apply A0h | apply A0g | refine A0c ?_ (A0a.ge ae.out) | refine A0c ?_ aW.out | refine A0c ?_ aX.out) | exact HB.out)); rintro e jX ⟨rfl, hi, hb, hk⟩; refine ⟨_, rfl, ?_⟩; replace ac := ak (A0d.blk hk (g' := ad) (o := .cells #[.int .u64 ah, .int .i64 an, .int .i64 ao] 42 (0, 0)) (kb ac) a7.out (by simp)); replace aa := ak (A0d.blk hk (g' := ag) (o := .cells #[.int .u64 aB, .int .i64 aC, .int .i64 aD] 42 (0, 0)) (kb aa) a8.out (by simp)); replace HK := ak (A0d.trans (kk HK) hk (.inl rfl)); replace HB := ak (hb); replace ae := ak (hi); (try clear hb); (try clear hk); (try clear hi); ))
          go_meet
          case rel => exact ⟨_, (cP), (cO), (cQ), (cR), (cS), kE, kE, H', ⟨by have := bJ.out; have := cM.out; first | omega | exact Nat.le_refl _⟩, ⟨kb ac⟩, ⟨kb aa⟩, ⟨(A0a.k ae)⟩, ⟨(kk HK)⟩, ⟨(A0a.kl HB)⟩⟩
         case rest =>
          clear cu; (try clear c4); (try clear c5); (try clear b1); (try clear b2); (try clear cq); (try clear ct); (try clear b6); (try clear b7); obtain ⟨kq, bx, aT, av, aw, ax, rfl, rfl, HA, fA, ac, aa, ae, HK, HB⟩ := hcut
          cases kq with
          | zero => exact absurd HA.out (by simp [A0q.j2])
          | succ bz =>
           have H := HA.out; clear HA; simp only [A0q.j2] at H
           by_cases cT : bx = true
           ·subst cT
            rw [if_pos rfl] at H; obtain ⟨bk, aU⟩ : ∃ j_ : Int, (wrap64 ((wrap64 (64 - aF)) - a4)) = j_ := ⟨_, rfl⟩
            replace H : (if 0 ≤ (bk) then ((A1l.f bz ah an ao (Go.bits .xor .u64 ah (shl .u64 aT (bk)))).bind fun aV => (A0q.j3 bz aS aF a4 (Go.bits .xor .u64 ah (shl .u64 aT (bk))) (wrap64 (2 + a4)) av aw ax ah an ao aV.1 aV.2.1 aV.2.2.1 aV.2.2.2.1 aV.2.2.2.2)) else (none)) = some (r1, r2, r3, r4, r5, r6, r7, r8) := by first | (rw [aU] at H; exact H) | (simp only [aU] at H ⊢; exact H)
            have fB : (IntKind.i64.wrap ((wrap64 (64 - aF)) - a4)) = bk := (A2w _).trans aU
            by_cases cE : 0 ≤ (bk)
            ·rw [if_pos cE] at H; have cU := eq_true cE; have cV := decide_eq_true cE; clear cE; obtain ⟨bt, aK⟩ : ∃ j_ : Int, (shl .u64 aT (bk)) = j_ := ⟨_, rfl⟩
             replace H : ((A1l.f bz ah an ao (Go.bits .xor .u64 ah (bt))).bind fun aV => (A0q.j3 bz aS aF a4 (Go.bits .xor .u64 ah (bt)) (wrap64 (2 + a4)) av aw ax ah an ao aV.1 aV.2.1 aV.2.2.1 aV.2.2.2.1 aV.2.2.2.2)) = some (r1, r2, r3, r4, r5, r6, r7, r8) := by first | (rw [aK] at H; exact H) | (simp only [aK] at H ⊢; exact H)
             have fC : (IntKind.u64.wrap (aT * 2 ^ min (bk).toNat 64)) = bt := aK; have fD : (bk) ≤ 64 → (IntKind.u64.wrap (aT * 2 ^ (bk).toNat)) = bt := A3p aK; replace H := bkH H; obtain ⟨⟨aL, b0, bs, bm, bn⟩, jz, H⟩ := H; (try dsimp only at H); have cv := ak H; clear H
             try go_wp2
             replace ac := ak (A0i ac.out); replace aa := ak (A0i aa.out); replace ae := ak (A0a.drew ae.out); replace HK := ak (A1u HK.out); replace HB := ak (A0g HB.out)
             refine A2h (n := 10) (S := fun w' => w'.cell? ⟨ad, 0, none⟩ = some (.int .u64 ah) ∧ w'.cell? ⟨ad, 1, none⟩ = some (.int .i64 an) ∧ w'.cell? ⟨ad, 2, none⟩ = some (.int .i64 ao)) (ds := []) (bl 10 0) (by kernel_rfl) rfl rfl kz (fun hHeld => ?_); refine A2d A0q.tab20 A0q.bits20 (fun HT_ HW_ => ?_)
             generalize wc.drew = jY at ac aa ae HK HB hHeld ⊢; refine pu 0 (some 71) (bl 10 1) (h := ?_); refine pu 2 (some 73) (bl 10 5) (h := ?_); refine pu 3 (some 74) (bl 10 13) (h := ?_); refine pu 4 (some 75) (bl 10 29) (h := ?_); refine pu 5 (some 76) (bl 10 61) (h := ?_); refine pu 6 (some 77) (bl 10 125) (h := ?_); refine pu 7 (some 78) (bl 10 253) (h := ?_); refine ta 1 (some 72) (bl 10 255) (h := ?_); refine pu 8 (some 79) (bl 10 511) (h := ?_); refine pu 9 (some 14) (bl 10 1023) (h := ?_); refine A3b (A27 HT_.out (by kernel_rfl)) ?_; have hs := ai.out; have ht := aj.out; have hu := a7.out; have hv := aq.out; obtain ⟨bN, bO, bP⟩ := kc3 ac; obtain ⟨bQ, bR, bS⟩ := kf3 ac
             go_upto_region 22 with (first | ((with_reducible refine A0f (f := 36) rfl ?_); refine A03 (some 83) rfl rfl Tryd.func36 (by kernel_rfl) rfl #[.agg #[.int .u64 ah, .int .i64 an, .int .i64 ao], .int .u64 (Go.bits .xor .u64 ah (bt))] rfl (by (try simp only [List.map_toArray, List.map_cons, List.map_nil]); first | done | (simp only [aK]; rfl) | rfl | (simp only [List.length_drop, List.length_take]; rfl)) ?_; (with_reducible refine (A1l.calls bz ah an ao (Go.bits .xor .u64 ah (bt)) aL b0 bs bm bn _ ?aA jz.out).mono ?_); (case aA => exact A3l.below HT.out (A0a.kl HB) (Nat.le_refl _)); rintro e jZ ⟨j4, rfl, ho0, hb⟩; refine ⟨_, rfl, ?_⟩; have ch := ak (Kd.A14 ho0 (A0r (w := w) (g := g) (row := none) (kk HK))); have ci := ak (kbb ac hb); have cj := ak (kbb aa hb); have ck := ak (A0a.below (A0a.k ae) hb); have cm := ak (A0d.trans (kk HK) (A0d.of_below hb g none) (.inl rfl)); have co := ak (A0t (A0a.kl HB) hb); clear ac; clear aa; clear ae; clear HK; clear HB; have bg := ch; have ac := ci; have aa := cj; have ae := ck; have HK := cm; have HB := co; clear ch ci cj ck cm co; (try clear hb); (try clear hk); (try clear hi); (try clear ho0)) | ((with_reducible refine A0p (N := 15) rfl ?_); refine bxe 15 #[.slice none 0 0, .int .i64 0] 56 (h := ?_); intro aE hg ka hbox hb; have ch := ak (Kd.A1n (kr bg) hb); have ci := ak (kbb ac hb); have cj := ak (kbb aa hb); have ck := ak (A0a.below (A0a.k ae) hb); have cm := ak (A0d.trans (kk HK) (A0d.of_below hb g none) (.inl rfl)); have co := ak (A0t (A0a.kl HB) hb); have cW := ak (hbox); have cX := ak ((by rw [hg]; exact (A0r (w := w) (g := g) (row := none) (kk HK)) : w.heap.size ≤ aE)); have cY := ak ((Nat.le_trans HW0.out (by rw [hg]; exact (A0r (w := w) (g := g) (row := none) (kk HK)) : w.heap.size ≤ aE) : w0.heap.size ≤ aE)); have cZ := ak ((kn hg ac : ad ≠ aE)); have b8 := ak ((kn' hg ac : aE ≠ ad)); have b9 := ak ((kn hg aa : ag ≠ aE)); have bA := ak ((kn' hg aa : aE ≠ ag)); have bB := ak ((by rw [hg]; exact Nat.ne_of_lt (A0a.lt (show A0a w0 _ g av aw ax from by repeat (first | (with_reducible first | exact ae.out | apply A0a.alloc | apply A0a.drewN | apply A0a.drew | apply A0a.A04 | apply A0a.A05 | refine A0a.far ?_ aq.out _ | refine A0a.far ?_ ay.out _) | exact ae.out))) : g ≠ aE)); have bC := ak ((by rw [hg]; exact Nat.ne_of_gt (A0a.lt (show A0a w0 _ g av aw ax from by repeat (first | (with_reducible first | exact ae.out | apply A0a.alloc | apply A0a.drewN | apply A0a.drew | apply A0a.A04 | apply A0a.A05 | refine A0a.far ?_ aq.out _ | refine A0a.far ?_ ay.out _) | exact ae.out))) : aE ≠ g)); clear bg; clear ac; clear aa; clear ae; clear HK; clear HB; have bg := ch; have ac := ci; have aa := cj; have ae := ck; have HK := cm; have HB := co; have af := cW; have hw := cX; have hx := cY; have az := cZ; have a1 := b8; have al := b9; have am := bA; have a6 := bB; have a9 := bC; clear ch ci cj ck cm co cW cX cY cZ b8 b9 bA bB bC; clear hb hbox hg) | ((with_reducible refine A0p (N := 16) rfl ?_); refine bxe 16 #[.int .u64 0, .int .i64 0, .int .i64 0] 42 (h := ?_); intro a5 hg kc hbox hb; have ch := ak (Kd.A1n (kr bg) hb); have ci := ak (kbb ac hb); have cj := ak (kbb aa hb); have ck := ak (A0a.below (A0a.k ae) hb); have cm := ak (kbb af hb); have co := ak (A0d.trans (kk HK) (A0d.of_below hb g none) (.inl rfl)); have cW := ak (A0t (A0a.kl HB) hb); have cX := ak (hbox); have cY := ak ((by rw [hg]; exact (A0r (w := w) (g := g) (row := none) (kk HK)) : w.heap.size ≤ a5)); have cZ := ak ((Nat.le_trans HW0.out (by rw [hg]; exact (A0r (w := w) (g := g) (row := none) (kk HK)) : w.heap.size ≤ a5) : w0.heap.size ≤ a5)); have b8 := ak ((kn hg ac : ad ≠ a5)); have b9 := ak ((kn' hg ac : a5 ≠ ad)); have bA := ak ((kn hg aa : ag ≠ a5)); have bB := ak ((kn' hg aa : a5 ≠ ag)); have bC := ak ((kn hg af : aE ≠ a5)); have da := ak ((kn' hg af : a5 ≠ aE)); have db := ak ((by rw [hg]; exact Nat.ne_of_lt (A0a.lt (show A0a w0 _ g av aw ax from by repeat (first | (with_reducible first | exact ae.out | apply A0a.alloc | apply A0a.drewN | apply A0a.drew | apply A0a.A04 | apply A0a.A05 | refine A0a.far ?_ aq.out _ | refine A0a.far ?_ ay.out _ | refine A0a.far ?_ a6.out _) | exact ae.out))) : g ≠ a5)); have dc := ak ((by rw [hg]; exact Nat.ne_of_gt (A0a.lt (show A0a w0 _ g av aw ax from by repeat (first | (with_reducible first | exact ae.out | apply A0a.alloc | apply A0a.drewN | apply A0a.drew | apply A0a.A04 | apply A0a.A05 | refine A0a.far ?_ aq.out _ | refine A0a.far ?_ ay.out _ | refine A0a.far ?_ a6.out _) | exact ae.out))) : a5 ≠ g)); clear bg; clear ac; clear aa; clear ae; clear af; clear HK; clear HB; have bg := ch; have ac := ci; have aa := cj; have ae := ck; have af := cm; have HK := co; have HB := cW; have ap := cX; have hy := cY; have hz := cZ; have aM := b8; have aN := b9; have ar := bA; have au := bB; have a2 := bC; have a3 := da; have bb := db; have bc := dc; clear ch ci cj ck cm co cW cX cY cZ b8 b9 bA bB bC da db dc; clear hb hbox hg; obtain ⟨cw, cx, fE⟩ := Kd.A1t bg.out; subst fE; have h6 := a1.out; have h7 := az.out; have h8 := am.out; have h9 := al.out; have hA := a2.out; have hC := a3.out; have hD := a9.out; have hE := a6.out; obtain ⟨bT, bU⟩ := kc2 af; obtain ⟨bV, bW⟩ := kf2 af; have hF := aN.out; have hG := aM.out; have hH := au.out; have hJ := ar.out; have hL := bc.out; have hM := bb.out; obtain ⟨bX, bY, bZ⟩ := kc3 ap; obtain ⟨ca, cc, cd⟩ := kf3 ap))
             (try simp only [Act.put, List.setIfInBounds_toArray, List.set_cons_zero, List.set_cons_succ])
             go_cut [17] (fun j5 wc => ∃ (kq : Nat) (bh : Int), j5 = .int .i64 bh ∧ A0e (A0q.j3 kq aS aF a4 (Go.bits .xor .u64 ah (bt)) bh av aw ax ah an ao aL b0 bs bm bn = some (r1, r2, r3, r4, r5, r6, r7, r8)) ∧ A0e (kq ≤ bz) ∧ A0e (Kd.R (Kd.int .u8) 5 wc w.heap.size (fun _ => True) (.slice cw aL.length cx) aL) ∧ A0e (wc.heap[ad]? = some (.cells #[.int .u64 ah, .int .i64 an, .int .i64 ao] 42 (0, 0))) ∧ A0e (wc.heap[ag]? = some (.cells #[.int .u64 aB, .int .i64 aC, .int .i64 aD] 42 (0, 0))) ∧ A0e (wc.heap[aE]? = some (.cells #[(.slice cw aL.length cx), .int .i64 b0] 56 (0, 0))) ∧ A0e (wc.heap[a5]? = some (.cells #[.int .u64 bs, .int .i64 bm, .int .i64 bn] 42 (0, 0))) ∧ A0e (A0a w0 wc g av aw ax) ∧ A0e (A0d w wc g none) ∧ A0e (Below w0.heap.size w0 wc))
             case first =>
              have H := cv.out; clear cv; have H' := ak H; clear H
              go_wp2
              go_meet
              case rel => exact ⟨_, (wrap64 (2 + a4)), kE, H', ⟨by have := bJ.out; have := cM.out; have := fA.out; first | omega | exact Nat.le_refl _⟩, ⟨by (with_reducible repeat (first | apply Kd.A08 | apply Kd.A09 | apply Kd.A1b)); exact Kd.A1e (Kd.A0k (p := ⟨a5, 2, none⟩) (Kd.A0k (p := ⟨a5, 1, none⟩) (Kd.A0k (p := ⟨a5, 0, none⟩) (Kd.A0k (p := ⟨aE, 1, none⟩) (Kd.A0k (p := ⟨aE, 0, none⟩) (Kd.A00 (Kd.A00 bg.out af.out (by decide)) ap.out (by decide)) (fun _ hk => hk.1.2) (.slice cw aL.length cx)) (fun _ hk => hk.1.2) (.int .i64 b0)) (fun _ hk => hk.2) (.int .u64 bs)) (fun _ hk => hk.2) (.int .i64 bm)) (fun _ hk => hk.2) (.int .i64 bn)) (fun _ hk => trivial)⟩, ⟨(kb ac)⟩, ⟨(kb aa)⟩, ⟨(kb af)⟩, ⟨(kb ap)⟩, ⟨(A0a.k ae)⟩, ⟨(kk HK)⟩, ⟨(A0a.kl HB)⟩⟩
             case rest =>
              clear cv; (try clear c4); (try clear c5); (try clear b1); (try clear b2); (try clear cq); (try clear ct); (try clear b6); (try clear b7); (try clear cT); (try clear cE); (try clear cU); (try clear cV); (try clear bN); (try clear bO); (try clear bP); (try clear bT); (try clear bU); (try clear bX); (try clear bY); (try clear bZ); (try clear bQ); (try clear bR); (try clear bS); (try clear bV); (try clear bW); (try clear ca); (try clear cc); (try clear cd); obtain ⟨kq, bh, rfl, HA, j6, HO_626000, ac, aa, af, ap, ae, HK, HB⟩ := hcut
              cases kq with
              | zero => exact absurd HA.out (by simp [A0q.j3])
              | succ j7 =>
               have H := HA.out; clear HA; simp only [A0q.j3] at H
               by_cases dd : aS = 1
               ·rw [if_pos dd] at H; obtain ⟨de, df⟩ := kqT dd; clear dd
                by_cases dg : b0 = (wrap64 (bh + 12))
                ·rw [if_pos dg] at H; obtain ⟨dh, di⟩ := kqT dg; clear dg
                 by_cases dj : bm = aF
                 ·rw [if_pos dj] at H; obtain ⟨dk, dl⟩ := kqT dj; clear dj
                  by_cases dm : bn = a4
                  ·rw [if_pos dm] at H; obtain ⟨dn, dp⟩ := kqT dm; clear dm
                   by_cases eT : 0 < (aL.length : Int)
                   ·rw [if_pos eT] at H; have hN := decide_eq_true eT; have hO : decide (0 < aL.length) = true := decide_eq_true (by omega); clear eT
                    by_cases dq : (((rd aL 0) / 64) = 3)
                    ·rw [if_pos dq] at H; obtain ⟨dr, du⟩ := kqT dq; clear dq; simp only [Option.some.injEq, Prod.mk.injEq] at H; obtain ⟨rfl, rfl, rfl, rfl, rfl, rfl, rfl, rfl⟩ := H; have hP := a1.out; have hQ := az.out; have hR := am.out; have hS := al.out; have hU := a2.out; have hV := a3.out; have hW := a9.out; have hX := a6.out; obtain ⟨eU, eV⟩ := kc2 af; obtain ⟨eW, eX⟩ := kf2 af; have hY := aN.out; have hZ := aM.out; have ia := au.out; have ib := ar.out; have ic := bc.out; have ie := bb.out; obtain ⟨eY, eZ, fa⟩ := kc3 ap; obtain ⟨fb, fd, fe⟩ := kf3 ap; have bu : 0 ≤ (0 : Int) := (by omega); have bo : 0 < (aL.length : Int) := kD; obtain ⟨dw, cy, be⟩ := Kd.at_int (Kd.A07 HO_626000.out).2.2 0 bu bo
                     cases cy
                     have dz : (0 < aL.length) = True := eq_true (by omega); (try rw [show ((0 : Int)).toNat = 0 from rfl] at be); (try rw [Addr.add_zero'] at be); replace bu := eq_true bu
                     (try (have bi := bo; simp only [List.length_drop, List.length_take] at bi; replace bi := eq_true bi)); replace bo := eq_true bo
                     try go_wp2
                     replace HO_626000 := ak (Kd.A1b HO_626000.out); replace ac := ak (A0i ac.out); replace aa := ak (A0i aa.out); replace af := ak (A0i af.out); replace ap := ak (A0i ap.out); replace ae := ak (A0a.drew ae.out); replace HK := ak (A1u HK.out); replace HB := ak (A0g HB.out); refine A2h (n := 5) (S := fun w' => w'.cell? ⟨a5, 0, none⟩ = some (.int .u64 bs) ∧ w'.cell? ⟨a5, 1, none⟩ = some (.int .i64 bm) ∧ w'.cell? ⟨a5, 2, none⟩ = some (.int .i64 bn)) (ds := []) (bl 5 0) (by kernel_rfl) rfl rfl kz (fun hHeld => ?_); generalize wc.drew = kf at HO_626000 ac aa af ap ae HK HB hHeld ⊢; refine pu 0 (some 125) (bl 5 1) (h := ?_); refine pu 2 (some 4) (bl 5 5) (h := ?_); refine ta 1 (some 126) (bl 5 7) (h := ?_); refine one_ (i := 3) (N := none) (bl 5 15) rfl rfl (by kernel_rfl) (by decide) (fun K hK => ?_); have j8 := (kc3 aa).1; have ig := A0b aa.out 0; have ff := ai.out; have fg := am.out; have fh := au.out; have fi := aj.out; have fj := al.out; have fk := ar.out; have j9 := (kc3 aa).2.1; have ii := A0b aa.out 1; have jA := (kc3 aa).2.2; have ij := A0b aa.out 2; refine A20 (w1 := ?_) (by rfl) rfl ?_ ?_
                     rotate_left
                     ·go_simp
                      rfl
                     refine hK.out _ _ (ks hHeld) (fun hHeld => ?_); clear hK K; refine pu 4 (some 6) (bl 5 31) (h := ?_); refine A3b (by kernel_rfl) ?_
                     try go_wp2
                     refine bodyPost_ret (A1a (rs := [.tmp 4, .cell 5 42, .tmp 6]) rfl (by simp) (.tmp (.cell ag 42 #[.int .u64 bs, .int .i64 bm, .int .i64 bn] (0, 0) _ rfl (kb aa) Tryd.underlying42 rfl (by kernel_rfl) (.tmp .nil)))) rfl ?_
                     exact ⟨by first | rfl | (simp [A0l, A0m] <;> rfl) | (simp only [← aU, ← aK]; first | rfl | (simp [A0l, A0m] <;> rfl)) | (simp [*, A0l, A0m] <;> rfl), (A0a.k ae), (A0a.kl HB), (kk HK)⟩
                    ·rw [if_neg dq] at H; obtain ⟨dr, du⟩ := kqF dq; simp only [Option.some.injEq, Prod.mk.injEq] at H; obtain ⟨rfl, rfl, rfl, rfl, rfl, rfl, rfl, rfl⟩ := H; have ik := a1.out; have il := az.out; have im := am.out; have io := al.out; have ip := a2.out; have iq := a3.out; have ir := a9.out; have iu := a6.out; obtain ⟨fl, fm⟩ := kc2 af; obtain ⟨fo, fp⟩ := kf2 af; have iv := aN.out; have iw := aM.out; have ix := au.out; have iy := ar.out; have iz := bc.out; have i0 := bb.out; obtain ⟨fq, fs, ft⟩ := kc3 ap; obtain ⟨fu, fv, fw⟩ := kf3 ap; have bu : 0 ≤ (0 : Int) := (by omega); have bo : 0 < (aL.length : Int) := kD; obtain ⟨dw, cy, be⟩ := Kd.at_int (Kd.A07 HO_626000.out).2.2 0 bu bo
                     cases cy
                     have dz : (0 < aL.length) = True := eq_true (by omega); (try rw [show ((0 : Int)).toNat = 0 from rfl] at be); (try rw [Addr.add_zero'] at be); replace bu := eq_true bu
                     (try (have bi := bo; simp only [List.length_drop, List.length_take] at bi; replace bi := eq_true bi)); replace bo := eq_true bo
                     try go_wp2
                     replace HO_626000 := ak (Kd.A1b HO_626000.out); replace ac := ak (A0i ac.out); replace aa := ak (A0i aa.out); replace af := ak (A0i af.out); replace ap := ak (A0i ap.out); replace ae := ak (A0a.drew ae.out); replace HK := ak (A1u HK.out); replace HB := ak (A0g HB.out); refine A2h (n := 5) (S := fun w' => w'.cell? ⟨ad, 0, none⟩ = some (.int .u64 ah) ∧ w'.cell? ⟨ad, 1, none⟩ = some (.int .i64 an) ∧ w'.cell? ⟨ad, 2, none⟩ = some (.int .i64 ao)) (ds := []) (bl 5 0) (by kernel_rfl) rfl rfl kz (fun hHeld => ?_); generalize wc.drew = ki at HO_626000 ac aa af ap ae HK HB hHeld ⊢; refine pu 1 (some 124) (bl 5 2) (h := ?_); refine pu 2 (some 4) (bl 5 6) (h := ?_); refine ta 0 (some 123) (bl 5 7) (h := ?_); refine one_ (i := 3) (N := none) (bl 5 15) rfl rfl (by kernel_rfl) (by decide) (fun K hK => ?_); have jB := (kc3 aa).1; have i1 := A0b aa.out 0; have fx := ai.out; have fy := am.out; have fz := au.out; have f0 := aj.out; have f2 := al.out; have f3 := ar.out; have jC := (kc3 aa).2.1; have i3 := A0b aa.out 1; have jD := (kc3 aa).2.2; have i4 := A0b aa.out 2; refine A20 (w1 := ?_) (by rfl) rfl ?_ ?_
                     rotate_left
                     ·go_simp
                      rfl
                     refine hK.out _ _ (ks hHeld) (fun hHeld => ?_); clear hK K; refine pu 4 (some 6) (bl 5 31) (h := ?_); refine A3b (by kernel_rfl) ?_
                     try go_wp2
                     refine bodyPost_ret (A1a (rs := [.tmp 4, .cell 5 42, .tmp 6]) rfl (by simp) (.tmp (.cell ag 42 #[.int .u64 ah, .int .i64 an, .int .i64 ao] (0, 0) _ rfl (kb aa) Tryd.underlying42 rfl (by kernel_rfl) (.tmp .nil)))) rfl ?_
                     exact ⟨by first | rfl | (simp [A0l, A0m] <;> rfl) | (simp only [← aU, ← aK]; first | rfl | (simp [A0l, A0m] <;> rfl)) | (simp [*, A0l, A0m] <;> rfl), (A0a.k ae), (A0a.kl HB), (kk HK)⟩
                   ·rw [if_neg eT] at H
                    exact absurd H (by simp)
                  ·rw [if_neg dm] at H; obtain ⟨dn, dp⟩ := kqF dm; simp only [Option.some.injEq, Prod.mk.injEq] at H; obtain ⟨rfl, rfl, rfl, rfl, rfl, rfl, rfl, rfl⟩ := H; have i5 := a1.out; have i6 := az.out; have i7 := am.out; have i9 := al.out; have iA := a2.out; have iB := a3.out; have iC := a9.out; have iD := a6.out; obtain ⟨f4, f5⟩ := kc2 af; obtain ⟨f6, f7⟩ := kf2 af; have iE := aN.out; have iF := aM.out; have iG := au.out; have iH := ar.out; have fF := bc.out; have fG := bb.out; obtain ⟨d0, d5, d6⟩ := kc3 ap; obtain ⟨d7, d8, d9⟩ := kf3 ap
                   try go_wp2
                   replace HO_626000 := ak (Kd.A1b HO_626000.out); replace ac := ak (A0i ac.out); replace aa := ak (A0i aa.out); replace af := ak (A0i af.out); replace ap := ak (A0i ap.out); replace ae := ak (A0a.drew ae.out); replace HK := ak (A1u HK.out); replace HB := ak (A0g HB.out); refine A2h (n := 5) (S := fun w' => w'.cell? ⟨ad, 0, none⟩ = some (.int .u64 ah) ∧ w'.cell? ⟨ad, 1, none⟩ = some (.int .i64 an) ∧ w'.cell? ⟨ad, 2, none⟩ = some (.int .i64 ao)) (ds := []) (bl 5 0) (by kernel_rfl) rfl rfl kz (fun hHeld => ?_); generalize wc.drew = jE at HO_626000 ac aa af ap ae HK HB hHeld ⊢; refine pu 1 (some 124) (bl 5 2) (h := ?_); refine pu 2 (some 4) (bl 5 6) (h := ?_); refine ta 0 (some 123) (bl 5 7) (h := ?_); refine one_ (i := 3) (N := none) (bl 5 15) rfl rfl (by kernel_rfl) (by decide) (fun K hK => ?_); have iI := (kc3 aa).1; have fH := A0b aa.out 0; have dA := ai.out; have dB := am.out; have dC := au.out; have dD := aj.out; have dE := al.out; have dF := ar.out; have iJ := (kc3 aa).2.1; have fI := A0b aa.out 1; have iK := (kc3 aa).2.2; have fJ := A0b aa.out 2; refine A20 (w1 := ?_) (by rfl) rfl ?_ ?_
                   rotate_left
                   ·go_simp
                    rfl
                   refine hK.out _ _ (ks hHeld) (fun hHeld => ?_); clear hK K; refine pu 4 (some 6) (bl 5 31) (h := ?_); refine A3b (by kernel_rfl) ?_
                   try go_wp2
                   refine bodyPost_ret (A1a (rs := [.tmp 4, .cell 5 42, .tmp 6]) rfl (by simp) (.tmp (.cell ag 42 #[.int .u64 ah, .int .i64 an, .int .i64 ao] (0, 0) _ rfl (kb aa) Tryd.underlying42 rfl (by kernel_rfl) (.tmp .nil)))) rfl ?_
                   exact ⟨by first | rfl | (simp [A0l, A0m] <;> rfl) | (simp only [← aU, ← aK]; first | rfl | (simp [A0l, A0m] <;> rfl)) | (simp [*, A0l, A0m] <;> rfl), (A0a.k ae), (A0a.kl HB), (kk HK)⟩
                 ·rw [if_neg dj] at H; obtain ⟨dk, dl⟩ := kqF dj; simp only [Option.some.injEq, Prod.mk.injEq] at H; obtain ⟨rfl, rfl, rfl, rfl, rfl, rfl, rfl, rfl⟩ := H; have fK := a1.out; have fL := az.out; have fM := am.out; have fN := al.out; have fO := a2.out; have fP := a3.out; have fQ := a9.out; have fR := a6.out; obtain ⟨dG, dH⟩ := kc2 af; obtain ⟨dI, dJ⟩ := kf2 af; have fS := aN.out; have fT := aM.out; have fU := au.out; have fV := ar.out; have fW := bc.out; have fX := bb.out; obtain ⟨dK, dL, dM⟩ := kc3 ap; obtain ⟨dN, dO, dP⟩ := kf3 ap
                  try go_wp2
                  replace HO_626000 := ak (Kd.A1b HO_626000.out); replace ac := ak (A0i ac.out); replace aa := ak (A0i aa.out); replace af := ak (A0i af.out); replace ap := ak (A0i ap.out); replace ae := ak (A0a.drew ae.out); replace HK := ak (A1u HK.out); replace HB := ak (A0g HB.out); refine A2h (n := 5) (S := fun w' => w'.cell? ⟨ad, 0, none⟩ = some (.int .u64 ah) ∧ w'.cell? ⟨ad, 1, none⟩ = some (.int .i64 an) ∧ w'.cell? ⟨ad, 2, none⟩ = some (.int .i64 ao)) (ds := []) (bl 5 0) (by kernel_rfl) rfl rfl kz (fun hHeld => ?_); generalize wc.drew = jF at HO_626000 ac aa af ap ae HK HB hHeld ⊢; refine pu 1 (some 124) (bl 5 2) (h := ?_); refine pu 2 (some 4) (bl 5 6) (h := ?_); refine ta 0 (some 123) (bl 5 7) (h := ?_); refine one_ (i := 3) (N := none) (bl 5 15) rfl rfl (by kernel_rfl) (by decide) (fun K hK => ?_); have iL := (kc3 aa).1; have fY := A0b aa.out 0; have dQ := ai.out; have dR := am.out; have dS := au.out; have dT := aj.out; have dU := al.out; have dV := ar.out; have iM := (kc3 aa).2.1; have fZ := A0b aa.out 1; have iN := (kc3 aa).2.2; have ga := A0b aa.out 2; refine A20 (w1 := ?_) (by rfl) rfl ?_ ?_
                  rotate_left
                  ·go_simp
                   rfl
                  refine hK.out _ _ (ks hHeld) (fun hHeld => ?_); clear hK K; refine pu 4 (some 6) (bl 5 31) (h := ?_); refine A3b (by kernel_rfl) ?_
                  try go_wp2
                  refine bodyPost_ret (A1a (rs := [.tmp 4, .cell 5 42, .tmp 6]) rfl (by simp) (.tmp (.cell ag 42 #[.int .u64 ah, .int .i64 an, .int .i64 ao] (0, 0) _ rfl (kb aa) Tryd.underlying42 rfl (by kernel_rfl) (.tmp .nil)))) rfl ?_
                  exact ⟨by first | rfl | (simp [A0l, A0m] <;> rfl) | (simp only [← aU, ← aK]; first | rfl | (simp [A0l, A0m] <;> rfl)) | (simp [*, A0l, A0m] <;> rfl), (A0a.k ae), (A0a.kl HB), (kk HK)⟩
                ·rw [if_neg dg] at H; obtain ⟨dh, di⟩ := kqF dg; simp only [Option.some.injEq, Prod.mk.injEq] at H; obtain ⟨rfl, rfl, rfl, rfl, rfl, rfl, rfl, rfl⟩ := H; have gb := a1.out; have gc := az.out; have gf := am.out; have gg := al.out; have gh := a2.out; have gj := a3.out; have gk := a9.out; have gl := a6.out; obtain ⟨dW, dX⟩ := kc2 af; obtain ⟨dY, dZ⟩ := kf2 af
                 try go_wp2
                 replace HO_626000 := ak (Kd.A1b HO_626000.out); replace ac := ak (A0i ac.out); replace aa := ak (A0i aa.out); replace af := ak (A0i af.out); replace ap := ak (A0i ap.out); replace ae := ak (A0a.drew ae.out); replace HK := ak (A1u HK.out); replace HB := ak (A0g HB.out); refine A2h (n := 5) (S := fun w' => w'.cell? ⟨ad, 0, none⟩ = some (.int .u64 ah) ∧ w'.cell? ⟨ad, 1, none⟩ = some (.int .i64 an) ∧ w'.cell? ⟨ad, 2, none⟩ = some (.int .i64 ao)) (ds := []) (bl 5 0) (by kernel_rfl) rfl rfl kz (fun hHeld => ?_); generalize wc.drew = jG at HO_626000 ac aa af ap ae HK HB hHeld ⊢; refine pu 1 (some 124) (bl 5 2) (h := ?_); refine pu 2 (some 4) (bl 5 6) (h := ?_); refine ta 0 (some 123) (bl 5 7) (h := ?_); refine one_ (i := 3) (N := none) (bl 5 15) rfl rfl (by kernel_rfl) (by decide) (fun K hK => ?_); have iO := (kc3 aa).1; have gm := A0b aa.out 0; have ea := ai.out; have eb := am.out; have ec := au.out; have ed := aj.out; have ee := al.out; have ef := ar.out; have iP := (kc3 aa).2.1; have gn := A0b aa.out 1; have iQ := (kc3 aa).2.2; have gp := A0b aa.out 2; refine A20 (w1 := ?_) (by rfl) rfl ?_ ?_
                 rotate_left
                 ·go_simp
                  rfl
                 refine hK.out _ _ (ks hHeld) (fun hHeld => ?_); clear hK K; refine pu 4 (some 6) (bl 5 31) (h := ?_); refine A3b (by kernel_rfl) ?_
                 try go_wp2
                 refine bodyPost_ret (A1a (rs := [.tmp 4, .cell 5 42, .tmp 6]) rfl (by simp) (.tmp (.cell ag 42 #[.int .u64 ah, .int .i64 an, .int .i64 ao] (0, 0) _ rfl (kb aa) Tryd.underlying42 rfl (by kernel_rfl) (.tmp .nil)))) rfl ?_
                 exact ⟨by first | rfl | (simp [A0l, A0m] <;> rfl) | (simp only [← aU, ← aK]; first | rfl | (simp [A0l, A0m] <;> rfl)) | (simp [*, A0l, A0m] <;> rfl), (A0a.k ae), (A0a.kl HB), (kk HK)⟩
               ·rw [if_neg dd] at H; obtain ⟨de, df⟩ := kqF dd
                by_cases bD : b0 = bh
                ·rw [if_pos bD] at H; obtain ⟨cz, cA⟩ := kqT bD; clear bD
                 by_cases ce : 0 < (aL.length : Int)
                 ·rw [if_pos ce] at H; have gq := decide_eq_true ce; have gr : decide (0 < aL.length) = true := decide_eq_true (by omega); clear ce
                  by_cases bE : ((rd aL 0) / 64) = 3
                  ·rw [if_pos bE] at H; obtain ⟨cB, cC⟩ := kqT bE; clear bE; simp only [Option.some.injEq, Prod.mk.injEq] at H; obtain ⟨rfl, rfl, rfl, rfl, rfl, rfl, rfl, rfl⟩ := H; have gs := a1.out; have gu := az.out; have gv := am.out; have gw := al.out; have gx := a2.out; have gy := a3.out; have gz := a9.out; have g0 := a6.out; obtain ⟨eg, eh⟩ := kc2 af; obtain ⟨ei, ej⟩ := kf2 af; have bv : 0 ≤ (0 : Int) := (by omega); have bp : 0 < (aL.length : Int) := kD; obtain ⟨ek, cD, bf⟩ := Kd.at_int (Kd.A07 HO_626000.out).2.2 0 bv bp
                   cases cD
                   have el : (0 < aL.length) = True := eq_true (by omega); (try rw [show ((0 : Int)).toNat = 0 from rfl] at bf); (try rw [Addr.add_zero'] at bf); replace bv := eq_true bv
                   (try (have bj := bp; simp only [List.length_drop, List.length_take] at bj; replace bj := eq_true bj)); replace bp := eq_true bp
                   try go_wp2
                   replace HO_626000 := ak (Kd.A1b HO_626000.out); replace ac := ak (A0i ac.out); replace aa := ak (A0i aa.out); replace af := ak (A0i af.out); replace ap := ak (A0i ap.out); replace ae := ak (A0a.drew ae.out); replace HK := ak (A1u HK.out); replace HB := ak (A0g HB.out); refine A2h (n := 5) (S := fun w' => w'.cell? ⟨ad, 0, none⟩ = some (.int .u64 ah) ∧ w'.cell? ⟨ad, 1, none⟩ = some (.int .i64 an) ∧ w'.cell? ⟨ad, 2, none⟩ = some (.int .i64 ao)) (ds := []) (bl 5 0) (by kernel_rfl) rfl rfl kz (fun hHeld => ?_); generalize wc.drew = jH at HO_626000 ac aa af ap ae HK HB hHeld ⊢; refine pu 1 (some 124) (bl 5 2) (h := ?_); refine pu 2 (some 4) (bl 5 6) (h := ?_); refine ta 0 (some 123) (bl 5 7) (h := ?_); refine one_ (i := 3) (N := none) (bl 5 15) rfl rfl (by kernel_rfl) (by decide) (fun K hK => ?_); have iR := (kc3 aa).1; have g1 := A0b aa.out 0; have em := ai.out; have en := am.out; have eo := au.out; have ep := aj.out; have er := al.out; have et := ar.out; have iS := (kc3 aa).2.1; have g2 := A0b aa.out 1; have iT := (kc3 aa).2.2; have g3 := A0b aa.out 2; refine A20 (w1 := ?_) (by rfl) rfl ?_ ?_
                   rotate_left
                   ·go_simp
                    rfl
                   refine hK.out _ _ (ks hHeld) (fun hHeld => ?_); clear hK K; refine pu 4 (some 6) (bl 5 31) (h := ?_); refine A3b (by kernel_rfl) ?_
                   try go_wp2
                   refine bodyPost_ret (A1a (rs := [.tmp 4, .cell 5 42, .tmp 6]) rfl (by simp) (.tmp (.cell ag 42 #[.int .u64 ah, .int .i64 an, .int .i64 ao] (0, 0) _ rfl (kb aa) Tryd.underlying42 rfl (by kernel_rfl) (.tmp .nil)))) rfl ?_
                   exact ⟨by first | rfl | (simp [A0l, A0m] <;> rfl) | (simp only [← aU, ← aK]; first | rfl | (simp [A0l, A0m] <;> rfl)) | (simp [*, A0l, A0m] <;> rfl), (A0a.k ae), (A0a.kl HB), (kk HK)⟩
                  ·rw [if_neg bE] at H; obtain ⟨cB, cC⟩ := kqF bE; simp only [Option.some.injEq, Prod.mk.injEq] at H; obtain ⟨rfl, rfl, rfl, rfl, rfl, rfl, rfl, rfl⟩ := H; have g4 := a1.out; have g5 := az.out; have g6 := am.out; have g7 := al.out; have g8 := a2.out; have g9 := a3.out; have gA := a9.out; have gB := a6.out; obtain ⟨eu, ev⟩ := kc2 af; obtain ⟨ew, ex⟩ := kf2 af; have bv : 0 ≤ (0 : Int) := (by omega); have bp : 0 < (aL.length : Int) := kD; obtain ⟨ek, cD, bf⟩ := Kd.at_int (Kd.A07 HO_626000.out).2.2 0 bv bp
                   cases cD
                   have el : (0 < aL.length) = True := eq_true (by omega); (try rw [show ((0 : Int)).toNat = 0 from rfl] at bf); (try rw [Addr.add_zero'] at bf); replace bv := eq_true bv
                   (try (have bj := bp; simp only [List.length_drop, List.length_take] at bj; replace bj := eq_true bj)); replace bp := eq_true bp
                   try go_wp2
                   replace HO_626000 := ak (Kd.A1b HO_626000.out); replace ac := ak (A0i ac.out); replace aa := ak (A0i aa.out); replace af := ak (A0i af.out); replace ap := ak (A0i ap.out); replace ae := ak (A0a.drew ae.out); replace HK := ak (A1u HK.out); replace HB := ak (A0g HB.out); refine A2h (n := 5) (S := fun w' => w'.cell? ⟨a5, 0, none⟩ = some (.int .u64 bs) ∧ w'.cell? ⟨a5, 1, none⟩ = some (.int .i64 bm) ∧ w'.cell? ⟨a5, 2, none⟩ = some (.int .i64 bn)) (ds := []) (bl 5 0) (by kernel_rfl) rfl rfl kz (fun hHeld => ?_); generalize wc.drew = jI at HO_626000 ac aa af ap ae HK HB hHeld ⊢; refine pu 0 (some 125) (bl 5 1) (h := ?_); refine pu 2 (some 4) (bl 5 5) (h := ?_); refine ta 1 (some 126) (bl 5 7) (h := ?_); refine one_ (i := 3) (N := none) (bl 5 15) rfl rfl (by kernel_rfl) (by decide) (fun K hK => ?_); have iU := (kc3 aa).1; have gC := A0b aa.out 0; have ey := ai.out; have ez := am.out; have e0 := au.out; have e4 := aj.out; have e5 := al.out; have e6 := ar.out; have iV := (kc3 aa).2.1; have gD := A0b aa.out 1; have iW := (kc3 aa).2.2; have gE := A0b aa.out 2; refine A20 (w1 := ?_) (by rfl) rfl ?_ ?_
                   rotate_left
                   ·go_simp
                    rfl
                   refine hK.out _ _ (ks hHeld) (fun hHeld => ?_); clear hK K; refine pu 4 (some 6) (bl 5 31) (h := ?_); refine A3b (by kernel_rfl) ?_
                   try go_wp2
                   refine bodyPost_ret (A1a (rs := [.tmp 4, .cell 5 42, .tmp 6]) rfl (by simp) (.tmp (.cell ag 42 #[.int .u64 bs, .int .i64 bm, .int .i64 bn] (0, 0) _ rfl (kb aa) Tryd.underlying42 rfl (by kernel_rfl) (.tmp .nil)))) rfl ?_
                   exact ⟨by first | rfl | (simp [A0l, A0m] <;> rfl) | (simp only [← aU, ← aK]; first | rfl | (simp [A0l, A0m] <;> rfl)) | (simp [*, A0l, A0m] <;> rfl), (A0a.k ae), (A0a.kl HB), (kk HK)⟩
                 ·rw [if_neg ce] at H
                  exact absurd H (by simp)
                ·rw [if_neg bD] at H; obtain ⟨cz, cA⟩ := kqF bD; simp only [Option.some.injEq, Prod.mk.injEq] at H; obtain ⟨rfl, rfl, rfl, rfl, rfl, rfl, rfl, rfl⟩ := H; have gF := a1.out; have gG := az.out; have gH := am.out; have gI := al.out; have gJ := a2.out; have gK := a3.out; have gL := a9.out; have gM := a6.out; obtain ⟨e7, e8⟩ := kc2 af; obtain ⟨e9, eA⟩ := kf2 af
                 try go_wp2
                 replace HO_626000 := ak (Kd.A1b HO_626000.out); replace ac := ak (A0i ac.out); replace aa := ak (A0i aa.out); replace af := ak (A0i af.out); replace ap := ak (A0i ap.out); replace ae := ak (A0a.drew ae.out); replace HK := ak (A1u HK.out); replace HB := ak (A0g HB.out); refine A2h (n := 5) (S := fun w' => w'.cell? ⟨ad, 0, none⟩ = some (.int .u64 ah) ∧ w'.cell? ⟨ad, 1, none⟩ = some (.int .i64 an) ∧ w'.cell? ⟨ad, 2, none⟩ = some (.int .i64 ao)) (ds := []) (bl 5 0) (by kernel_rfl) rfl rfl kz (fun hHeld => ?_); generalize wc.drew = jJ at HO_626000 ac aa af ap ae HK HB hHeld ⊢; refine pu 1 (some 124) (bl 5 2) (h := ?_); refine pu 2 (some 4) (bl 5 6) (h := ?_); refine ta 0 (some 123) (bl 5 7) (h := ?_); refine one_ (i := 3) (N := none) (bl 5 15) rfl rfl (by kernel_rfl) (by decide) (fun K hK => ?_); have iX := (kc3 aa).1; have gN := A0b aa.out 0; have eB := ai.out; have eC := am.out; have eD := au.out; have eE := aj.out; have eF := al.out; have eG := ar.out; have iY := (kc3 aa).2.1; have gO := A0b aa.out 1; have iZ := (kc3 aa).2.2; have gP := A0b aa.out 2; refine A20 (w1 := ?_) (by rfl) rfl ?_ ?_
                 rotate_left
                 ·go_simp
                  rfl
                 refine hK.out _ _ (ks hHeld) (fun hHeld => ?_); clear hK K; refine pu 4 (some 6) (bl 5 31) (h := ?_); refine A3b (by kernel_rfl) ?_
                 try go_wp2
                 refine bodyPost_ret (A1a (rs := [.tmp 4, .cell 5 42, .tmp 6]) rfl (by simp) (.tmp (.cell ag 42 #[.int .u64 ah, .int .i64 an, .int .i64 ao] (0, 0) _ rfl (kb aa) Tryd.underlying42 rfl (by kernel_rfl) (.tmp .nil)))) rfl ?_
                 exact ⟨by first | rfl | (simp [A0l, A0m] <;> rfl) | (simp only [← aU, ← aK]; first | rfl | (simp [A0l, A0m] <;> rfl)) | (simp [*, A0l, A0m] <;> rfl), (A0a.k ae), (A0a.kl HB), (kk HK)⟩
            ·rw [if_neg cE] at H
             exact absurd H (by simp)
           ·replace cT := Bool.eq_false_iff.mpr cT; subst cT
            rw [if_neg (show ¬ (false = true) by decide)] at H; simp only [Option.some.injEq, Prod.mk.injEq] at H; obtain ⟨rfl, rfl, rfl, rfl, rfl, rfl, rfl, rfl⟩ := H
            try go_wp2
            replace ac := ak (A0i ac.out); replace aa := ak (A0i aa.out); replace ae := ak (A0a.drew ae.out); replace HK := ak (A1u HK.out); replace HB := ak (A0g HB.out); refine A2h (n := 5) (S := fun w' => w'.cell? ⟨ad, 0, none⟩ = some (.int .u64 ah) ∧ w'.cell? ⟨ad, 1, none⟩ = some (.int .i64 an) ∧ w'.cell? ⟨ad, 2, none⟩ = some (.int .i64 ao)) (ds := []) (bl 5 0) (by kernel_rfl) rfl rfl kz (fun hHeld => ?_); generalize wc.drew = jK at ac aa ae HK HB hHeld ⊢; refine pu 1 (some 70) (bl 5 2) (h := ?_); refine pu 2 (some 4) (bl 5 6) (h := ?_); refine ta 0 (some 69) (bl 5 7) (h := ?_); refine one_ (i := 3) (N := none) (bl 5 15) rfl rfl (by kernel_rfl) (by decide) (fun K hK => ?_); have ja := (kc3 aa).1; have gQ := A0b aa.out 0; have eH := ai.out; have eI := aj.out; have jb := (kc3 aa).2.1; have gR := A0b aa.out 1; have jc := (kc3 aa).2.2; have gS := A0b aa.out 2; refine A20 (w1 := ?_) (by rfl) rfl ?_ ?_
            rotate_left
            ·go_simp
             rfl
            refine hK.out _ _ (ks hHeld) (fun hHeld => ?_); clear hK K; refine pu 4 (some 6) (bl 5 31) (h := ?_); refine A3b (by kernel_rfl) ?_
            try go_wp2
            refine bodyPost_ret (A1a (rs := [.tmp 4, .cell 5 42, .tmp 6]) rfl (by simp) (.tmp (.cell ag 42 #[.int .u64 ah, .int .i64 an, .int .i64 ao] (0, 0) _ rfl (kb aa) Tryd.underlying42 rfl (by kernel_rfl) (.tmp .nil)))) rfl ?_
            exact ⟨kF, (A0a.k ae), (A0a.kl HB), (kk HK)⟩
     ·replace cq := Bool.eq_false_iff.mpr cq; subst cq
      rw [if_neg (show ¬ (false = true) by decide)] at H; simp only [Option.some.injEq, Prod.mk.injEq] at H; obtain ⟨rfl, rfl, rfl, rfl, rfl, rfl, rfl, rfl⟩ := H
      try go_wp2
      replace ac := ak (A0i ac.out); replace aa := ak (A0i aa.out); replace ae := ak (A0a.drew ae.out); replace HK := ak (A1u HK.out); replace HB := ak (A0g HB.out); refine A2h (n := 5) (S := fun w' => w'.cell? ⟨ad, 0, none⟩ = some (.int .u64 ah) ∧ w'.cell? ⟨ad, 1, none⟩ = some (.int .i64 an) ∧ w'.cell? ⟨ad, 2, none⟩ = some (.int .i64 ao)) (ds := []) (bl 5 0) (by kernel_rfl) rfl rfl kz (fun hHeld => ?_); generalize wc.drew = jL at ac aa ae HK HB hHeld ⊢; refine pu 1 (some 40) (bl 5 2) (h := ?_); refine pu 2 (some 4) (bl 5 6) (h := ?_); refine ta 0 (some 39) (bl 5 7) (h := ?_); refine one_ (i := 3) (N := none) (bl 5 15) rfl rfl (by kernel_rfl) (by decide) (fun K hK => ?_); have jd := (kc3 aa).1; have gT := A0b aa.out 0; have eJ := ai.out; have eK := aj.out; have je := (kc3 aa).2.1; have gU := A0b aa.out 1; have jf := (kc3 aa).2.2; have gV := A0b aa.out 2; refine A20 (w1 := ?_) (by rfl) rfl ?_ ?_
      rotate_left
      ·go_simp
       rfl
      refine hK.out _ _ (ks hHeld) (fun hHeld => ?_); clear hK K; refine pu 4 (some 6) (bl 5 31) (h := ?_); refine A3b (by kernel_rfl) ?_
      try go_wp2
      refine bodyPost_ret (A1a (rs := [.tmp 4, .cell 5 42, .tmp 6]) rfl (by simp) (.tmp (.cell ag 42 #[.int .u64 ah, .int .i64 an, .int .i64 ao] (0, 0) _ rfl (kb aa) Tryd.underlying42 rfl (by kernel_rfl) (.tmp .nil)))) rfl ?_
      exact ⟨kF, (A0a.k ae), (A0a.kl HB), (kk HK)⟩
 ·replace c4 := Bool.eq_false_iff.mpr c4; subst c4
  rw [if_neg (show ¬ (false = true) by decide)] at H; simp only [Option.some.injEq, Prod.mk.injEq] at H; obtain ⟨rfl, rfl, rfl, rfl, rfl, rfl, rfl, rfl⟩ := H
  go_enter Tryd.func45, Tryd.ntmps45
  try go_wp2_with (first | ((with_reducible refine A0p (N := 3) rfl ?_); refine bxe 3 #[.int .u64 ah, .int .i64 an, .int .i64 ao] 42 (h := ?_); intro ad hg jM hbox hb; replace HB := ak (A0t (A0a.kl HB) hb); have ac := ak (hbox); have cf := ak ((by rw [hg]; exact (A0r (w := w) (g := g) (row := none) (kk HK)) : w.heap.size ≤ ad)); have aW := ak ((Nat.le_trans HW0.out (by rw [hg]; exact (A0r (w := w) (g := g) (row := none) (kk HK)) : w.heap.size ≤ ad) : w0.heap.size ≤ ad)); replace HK := ak (A0d.trans (kk HK) (A0d.of_below hb g none) (.inl rfl)); have aq := ak ((by rw [hg]; exact Nat.ne_of_lt (A0a.lt (show A0a w0 _ g aO aP aQ from by repeat (first | (with_reducible first | exact ae.out | apply A0a.alloc | apply A0a.drewN | apply A0a.drew | apply A0a.A04 | apply A0a.A05) | exact ae.out))) : g ≠ ad)); have a7 := ak ((by rw [hg]; exact Nat.ne_of_gt (A0a.lt (show A0a w0 _ g aO aP aQ from by repeat (first | (with_reducible first | exact ae.out | apply A0a.alloc | apply A0a.drewN | apply A0a.drew | apply A0a.A04 | apply A0a.A05) | exact ae.out))) : ad ≠ g)); replace ae := ak (A0a.below (A0a.k ae) hb); clear hb hbox hg) | ((with_reducible refine A0p (N := 5) rfl ?_); refine bxe 5 #[.int .u64 0, .int .i64 0, .int .i64 0] 42 (h := ?_); intro ag hg jN hbox hb; replace HB := ak (A0t (A0a.kl HB) hb); have aa := ak (hbox); have cg := ak ((by rw [hg]; exact (A0r (w := w) (g := g) (row := none) (kk HK)) : w.heap.size ≤ ag)); have aX := ak ((Nat.le_trans HW0.out (by rw [hg]; exact (A0r (w := w) (g := g) (row := none) (kk HK)) : w.heap.size ≤ ag) : w0.heap.size ≤ ag)); replace HK := ak (A0d.trans (kk HK) (A0d.of_below hb g none) (.inl rfl)); obtain ⟨ai, aj⟩ := kN hg ac; replace ac := kB ac hb; have ay := ak ((by rw [hg]; exact Nat.ne_of_lt (A0a.lt (show A0a w0 _ g aO aP aQ from by repeat (first | (with_reducible first | exact ae.out | apply A0a.alloc | apply A0a.drewN | apply A0a.drew | apply A0a.A04 | apply A0a.A05 | refine A0a.far ?_ aq.out _) | exact ae.out))) : g ≠ ag)); have a8 := ak ((by rw [hg]; exact Nat.ne_of_gt (A0a.lt (show A0a w0 _ g aO aP aQ from by repeat (first | (with_reducible first | exact ae.out | apply A0a.alloc | apply A0a.drewN | apply A0a.drew | apply A0a.A04 | apply A0a.A05 | refine A0a.far ?_ aq.out _) | exact ae.out))) : ag ≠ g)); replace ae := ak (A0a.below (A0a.k ae) hb); clear hb hbox hg) | ((with_reducible refine A0f (f := 57) rfl ?_); refine A03 (some 20) rfl rfl Tryd.func57 (by kernel_rfl) rfl #[.pointer (some ⟨g, 0, none⟩), .int .i64 1] rfl km ?_; (with_reducible refine (A0j.calls k g aO aP aQ 1 bF false bG bH bI w0 _ ?aA ?aG A3.out).mono ?_); (case aA => repeat (first | (with_reducible first | exact ae.out | apply A0a.alloc | apply A0a.drewN | apply A0a.drew | apply A0a.A04 | apply A0a.A05 | refine A0a.far ?_ aq.out _ | refine A0a.far ?_ ay.out _) | exact ae.out)); (case aG => repeat (first | (with_reducible first | exact HB.out | apply A0o | apply A0h | apply A0g | refine A0c ?_ (A0a.ge ae.out) | refine A0c ?_ aW.out | refine A0c ?_ aX.out) | exact HB.out)); rintro e gW ⟨rfl, hi, hb, hk⟩; refine ⟨_, rfl, ?_⟩; replace ac := ak (A0d.blk hk (g' := ad) (o := .cells #[.int .u64 ah, .int .i64 an, .int .i64 ao] 42 (0, 0)) (kb ac) a7.out (by simp)); replace aa := ak (A0d.blk hk (g' := ag) (o := .cells #[.int .u64 0, .int .i64 0, .int .i64 0] 42 (0, 0)) (kb aa) a8.out (by simp)); replace HK := ak (A0d.trans (kk HK) hk (.inl rfl)); replace HB := ak (hb); replace ae := ak (hi); (try clear hb); (try clear hk); (try clear hi); ))
  replace ac := ak (A0i ac.out); replace aa := ak (A0i aa.out); replace ae := ak (A0a.drew ae.out); replace HK := ak (A1u HK.out); replace HB := ak (A0g HB.out); refine A2h (n := 5) (S := fun w' => w'.cell? ⟨ad, 0, none⟩ = some (.int .u64 ah) ∧ w'.cell? ⟨ad, 1, none⟩ = some (.int .i64 an) ∧ w'.cell? ⟨ad, 2, none⟩ = some (.int .i64 ao)) (ds := []) (bl 5 0) (by kernel_rfl) rfl rfl kz (fun hHeld => ?_); generalize gW.drew = jO at ac aa ae HK HB hHeld ⊢; refine pu 1 (some 26) (bl 5 2) (h := ?_); refine pu 2 (some 4) (bl 5 6) (h := ?_); refine ta 0 (some 25) (bl 5 7) (h := ?_); refine one_ (i := 3) (N := none) (bl 5 15) rfl rfl (by kernel_rfl) (by decide) (fun K hK => ?_); have jg := (kc3 aa).1; have gX := A0b aa.out 0; have eL := ai.out; have eM := aj.out; have jh := (kc3 aa).2.1; have gY := A0b aa.out 1; have ji := (kc3 aa).2.2; have gZ := A0b aa.out 2; refine A20 (w1 := ?_) (by rfl) rfl ?_ ?_
  rotate_left
  ·go_simp
   rfl
  refine hK.out _ _ (ks hHeld) (fun hHeld => ?_); clear hK K; refine pu 4 (some 6) (bl 5 31) (h := ?_); refine A3b (by kernel_rfl) ?_
  try go_wp2
  refine bodyPost_ret (A1a (rs := [.tmp 4, .cell 5 42, .tmp 6]) rfl (by simp) (.tmp (.cell ag 42 #[.int .u64 ah, .int .i64 an, .int .i64 ao] (0, 0) _ rfl (kb aa) Tryd.underlying42 rfl (by kernel_rfl) (.tmp .nil)))) rfl ?_
  exact ⟨kF, (A0a.k ae), (A0a.kl HB), (kk HK)⟩
end Go.Proofs.YtiahbcaoikoogabDoor.All
