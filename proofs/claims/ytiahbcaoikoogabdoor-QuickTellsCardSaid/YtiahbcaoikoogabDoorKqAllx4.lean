-- copied by a program of the session
import Derived.Test.YtiahbcaoikoogabDoorKqAllx21
section
namespace Go.Proofs.YtiahbcaoikoogabDoor.All
open Go.RowKit Go.Proofs.YtiahbcaoikoogabDoorW.PrintWords Go.Proofs.YtiahbcaoikoogabDoorW.PrintLast Go.Proofs.YtiahbcaoikoogabDoorW.PrintMore
attribute [local go_sem] A2i A2j A2v A2w A14 A15 A2k A2l
set_option linter.unusedVariables false
set_option linter.unusedSimpArgs false
def A23.f (k : Nat) (ad : List Int) (ae : Int) (af : Int) : Option (Int × Int × Option Int × List Int × Int × Int) := (A0j.f k ad ae af 64).bind fun aa => (if aa.2.1 = true then ((A0j.f k aa.2.2.1 aa.2.2.2.1 aa.2.2.2.2 64).bind fun ac => (if ac.2.1 = true then (some (wrap64 (aa.1), ac.1, none, ac.2.2.1, ac.2.2.2.1, ac.2.2.2.2)) else (some (0, 0, some 2, ac.2.2.1, ac.2.2.2.1, ac.2.2.2.2)))) else (some (0, 0, some 2, aa.2.2.1, aa.2.2.2.1, aa.2.2.2.2)))
theorem A23.mono : ∀ a0 a1 a2 k, LeO (A23.f k a0 a1 a2) (A23.f (k + 1) a0 a1 a2) := by
 intro a0 a1 a2 k
 unfold A23.f
 repeat' first
   | (with_reducible exact A0j.mono _ _ _ _ _)
   | (with_reducible exact LeO.refl _)
   | (with_reducible exact LeO.none _)
   | (with_reducible refine LeO.ite ?_ ?_)
   | (with_reducible refine LeO.bind ?_ (fun _ => ?_))
   | exact A0j.mono _ _ _ _ _
   | exact LeO.none _
   | refine LeO.ite ?_ ?_
   | refine LeO.bind ?_ (fun _ => ?_)
set_option maxHeartbeats 8000000 in
set_option maxRecDepth 100000 in
theorem A23.calls (k : Nat) (g : Nat) (al : List Int) (am : Int) (an : Int) (r1 : Int) (r2 : Int) (r3 : Option Int) (r4 : List Int) (r5 : Int) (r6 : Int) (w0 w : World) (hI : A0a w0 w g al am an) (hB : Below w0.heap.size w0 w) (h : A23.f k al am an = some (r1, r2, r3, r4, r5, r6)) :
  Calls Tryd.prog 43 #[.pointer (some ⟨g, 0, none⟩)] w fun e w' => e = .returned (.tuple #[.agg #[.int .i64 r1, .int .u64 r2], errW r3]) ∧ A0a w0 w' g r4 r5 r6 ∧ Below w0.heap.size w0 w' ∧ A0c w w' g none := by
 have hu48 := Tryd.underlying48; have hu27 := Tryd.underlying27; have hu54 := Tryd.underlying54; have af := ak hI; have HK := ak (A0c.refl w g none); have HL := ak hB.size; clear hI; have HW0 := ak hB.size; have HB := ak hB; clear hB; have H : ((A0j.f k al am an 64).bind fun ai => (if ai.2.1 = true then ((A0j.f k ai.2.2.1 ai.2.2.2.1 ai.2.2.2.2 64).bind fun aj => (if aj.2.1 = true then (some (wrap64 (ai.1), aj.1, none, aj.2.2.1, aj.2.2.2.1, aj.2.2.2.2)) else (some (0, 0, some 2, aj.2.2.1, aj.2.2.2.1, aj.2.2.2.2)))) else (some (0, 0, some 2, ai.2.2.1, ai.2.2.2.1, ai.2.2.2.2)))) = some (r1, r2, r3, r4, r5, r6) := h; clear h; replace H := bkH H; obtain ⟨⟨au, aD, ap, aq, ar⟩, A2, H⟩ := H; (try dsimp only at H)
 by_cases c3 : aD = true
 ·subst c3
  rw [if_pos rfl] at H; replace H := bkH H; obtain ⟨⟨aw, aE, ax, ay, az⟩, A4, H⟩ := H; (try dsimp only at H)
  by_cases c5 : aE = true
  ·subst c5
   rw [if_pos rfl] at H; simp only [Option.some.injEq, Prod.mk.injEq] at H; obtain ⟨rfl, rfl, rfl, rfl, rfl, rfl⟩ := H
   go_enter Tryd.func43, Tryd.ntmps43
   go_wp2_with (first | ((with_reducible refine A0u (N := 2) rfl ?_); refine bxe 2 #[.int .i64 0, .int .u64 0] 48 (h := ?_); intro aa hg w6 hbox hb; replace HB := ak (A0y (A0a.kl HB) hb); have ac := ak (hbox); have av := ak ((by rw [hg]; exact (A0s (w := w) (g := g) (row := none) (kk HK)) : w.heap.size ≤ aa)); have ao := ak ((Nat.le_trans HW0.out (by rw [hg]; exact (A0s (w := w) (g := g) (row := none) (kk HK)) : w.heap.size ≤ aa) : w0.heap.size ≤ aa)); replace HK := ak (A0c.trans (kk HK) (A0c.of_below hb g none) (.inl rfl)); have ad := ak ((by rw [hg]; exact Nat.ne_of_lt (A0a.lt (show A0a w0 _ g al am an from by repeat (first | (with_reducible first | exact af.out | apply A0a.alloc | apply A0a.drewN | apply A0a.drew | apply A0a.A05 | apply A0a.A06) | exact af.out))) : g ≠ aa)); have ae := ak ((by rw [hg]; exact Nat.ne_of_gt (A0a.lt (show A0a w0 _ g al am an from by repeat (first | (with_reducible first | exact af.out | apply A0a.alloc | apply A0a.drewN | apply A0a.drew | apply A0a.A05 | apply A0a.A06) | exact af.out))) : aa ≠ g)); replace af := ak (A0a.below (A0a.k af) hb); clear hb hbox hg) | ((with_reducible refine A0i (f := 57) rfl ?_); refine A09 (some 9) rfl rfl Tryd.func57 (by kernel_rfl) rfl #[.pointer (some ⟨g, 0, none⟩), .int .i64 64] rfl km ?_; (with_reducible refine (A0j.calls k g al am an 64 au true ap aq ar w0 _ ?ag ?ah A2.out).mono ?_); (case ag => repeat (first | (with_reducible first | exact af.out | apply A0a.alloc | apply A0a.drewN | apply A0a.drew | apply A0a.A05 | apply A0a.A06 | refine A0a.far ?_ ad.out _) | exact af.out)); (case ah => repeat (first | (with_reducible first | exact HB.out | apply A0m | apply A0h | apply A0g | refine A0d ?_ (A0a.ge af.out) | refine A0d ?_ ao.out) | exact HB.out)); rintro e w7 ⟨rfl, hi, hb, hk⟩; refine ⟨_, rfl, ?_⟩; replace ac := ak (A0c.blk hk (g' := aa) (o := .cells #[.int .i64 0, .int .u64 0] 48 (0, 0)) (kb ac) ae.out (by simp)); replace HK := ak (A0c.trans (kk HK) hk (.inl rfl)); replace HB := ak (hb); replace af := ak (hi); (try clear hb); (try clear hk); (try clear hi); ) | ((with_reducible refine A0i (f := 57) rfl ?_); refine A09 (some 18) rfl rfl Tryd.func57 (by kernel_rfl) rfl #[.pointer (some ⟨g, 0, none⟩), .int .i64 64] rfl km ?_; (with_reducible refine (A0j.calls k g ap aq ar 64 aw true ax ay az w0 _ ?ag ?ah A4.out).mono ?_); (case ag => repeat (first | (with_reducible first | exact af.out | apply A0a.alloc | apply A0a.drewN | apply A0a.drew | apply A0a.A05 | apply A0a.A06 | refine A0a.far ?_ ad.out _) | exact af.out)); (case ah => repeat (first | (with_reducible first | exact HB.out | apply A0m | apply A0h | apply A0g | refine A0d ?_ (A0a.ge af.out) | refine A0d ?_ ao.out) | exact HB.out)); rintro e w8 ⟨rfl, hi, hb, hk⟩; refine ⟨_, rfl, ?_⟩; replace ac := ak (A0c.blk hk (g' := aa) (o := .cells #[.int .i64 0, .int .u64 0] 48 (0, 0)) (kb ac) ae.out (by simp)); replace HK := ak (A0c.trans (kk HK) hk (.inl rfl)); replace HB := ak (hb); replace af := ak (hi); (try clear hb); (try clear hk); (try clear hi); have aJ := ae.out; have aK := ad.out; obtain ⟨a1, a2⟩ := kc2 ac; obtain ⟨a3, a4⟩ := kf2 ac))
   refine bodyPost_ret (results_ct rfl _ _ aa 48 #[.int .i64 (wrap64 (au)), .int .u64 aw] (0, 0) _ rfl (kb ac) Tryd.underlying48 rfl (by kernel_rfl)) rfl ?_
   exact ⟨kF, (A0a.k af), (A0a.kl HB), (kk HK)⟩
  ·replace c5 := Bool.eq_false_iff.mpr c5; subst c5
   rw [if_neg (show ¬ (false = true) by decide)] at H; simp only [Option.some.injEq, Prod.mk.injEq] at H; obtain ⟨rfl, rfl, rfl, rfl, rfl, rfl⟩ := H
   go_enter Tryd.func43, Tryd.ntmps43
   go_wp2_with (first | ((with_reducible refine A0u (N := 2) rfl ?_); refine bxe 2 #[.int .i64 0, .int .u64 0] 48 (h := ?_); intro aa hg aL hbox hb; replace HB := ak (A0y (A0a.kl HB) hb); have ac := ak (hbox); have av := ak ((by rw [hg]; exact (A0s (w := w) (g := g) (row := none) (kk HK)) : w.heap.size ≤ aa)); have ao := ak ((Nat.le_trans HW0.out (by rw [hg]; exact (A0s (w := w) (g := g) (row := none) (kk HK)) : w.heap.size ≤ aa) : w0.heap.size ≤ aa)); replace HK := ak (A0c.trans (kk HK) (A0c.of_below hb g none) (.inl rfl)); have ad := ak ((by rw [hg]; exact Nat.ne_of_lt (A0a.lt (show A0a w0 _ g al am an from by repeat (first | (with_reducible first | exact af.out | apply A0a.alloc | apply A0a.drewN | apply A0a.drew | apply A0a.A05 | apply A0a.A06) | exact af.out))) : g ≠ aa)); have ae := ak ((by rw [hg]; exact Nat.ne_of_gt (A0a.lt (show A0a w0 _ g al am an from by repeat (first | (with_reducible first | exact af.out | apply A0a.alloc | apply A0a.drewN | apply A0a.drew | apply A0a.A05 | apply A0a.A06) | exact af.out))) : aa ≠ g)); replace af := ak (A0a.below (A0a.k af) hb); clear hb hbox hg) | ((with_reducible refine A0i (f := 57) rfl ?_); refine A09 (some 9) rfl rfl Tryd.func57 (by kernel_rfl) rfl #[.pointer (some ⟨g, 0, none⟩), .int .i64 64] rfl km ?_; (with_reducible refine (A0j.calls k g al am an 64 au true ap aq ar w0 _ ?ag ?ah A2.out).mono ?_); (case ag => repeat (first | (with_reducible first | exact af.out | apply A0a.alloc | apply A0a.drewN | apply A0a.drew | apply A0a.A05 | apply A0a.A06 | refine A0a.far ?_ ad.out _) | exact af.out)); (case ah => repeat (first | (with_reducible first | exact HB.out | apply A0m | apply A0h | apply A0g | refine A0d ?_ (A0a.ge af.out) | refine A0d ?_ ao.out) | exact HB.out)); rintro e aM ⟨rfl, hi, hb, hk⟩; refine ⟨_, rfl, ?_⟩; replace ac := ak (A0c.blk hk (g' := aa) (o := .cells #[.int .i64 0, .int .u64 0] 48 (0, 0)) (kb ac) ae.out (by simp)); replace HK := ak (A0c.trans (kk HK) hk (.inl rfl)); replace HB := ak (hb); replace af := ak (hi); (try clear hb); (try clear hk); (try clear hi); ) | ((with_reducible refine A0i (f := 57) rfl ?_); refine A09 (some 18) rfl rfl Tryd.func57 (by kernel_rfl) rfl #[.pointer (some ⟨g, 0, none⟩), .int .i64 64] rfl km ?_; (with_reducible refine (A0j.calls k g ap aq ar 64 aw false ax ay az w0 _ ?ag ?ah A4.out).mono ?_); (case ag => repeat (first | (with_reducible first | exact af.out | apply A0a.alloc | apply A0a.drewN | apply A0a.drew | apply A0a.A05 | apply A0a.A06 | refine A0a.far ?_ ad.out _) | exact af.out)); (case ah => repeat (first | (with_reducible first | exact HB.out | apply A0m | apply A0h | apply A0g | refine A0d ?_ (A0a.ge af.out) | refine A0d ?_ ao.out) | exact HB.out)); rintro e aN ⟨rfl, hi, hb, hk⟩; refine ⟨_, rfl, ?_⟩; replace ac := ak (A0c.blk hk (g' := aa) (o := .cells #[.int .i64 0, .int .u64 0] 48 (0, 0)) (kb ac) ae.out (by simp)); replace HK := ak (A0c.trans (kk HK) hk (.inl rfl)); replace HB := ak (hb); replace af := ak (hi); (try clear hb); (try clear hk); (try clear hi); have aF := ae.out; have aG := ad.out; obtain ⟨a5, a6⟩ := kc2 ac; obtain ⟨a7, a8⟩ := kf2 ac))
   refine bodyPost_ret (results_ct rfl _ _ aa 48 #[.int .i64 0, .int .u64 0] (0, 0) _ rfl (kb ac) Tryd.underlying48 rfl (by kernel_rfl)) rfl ?_
   exact ⟨kF, (A0a.k af), (A0a.kl HB), (kk HK)⟩
 ·replace c3 := Bool.eq_false_iff.mpr c3; subst c3
  rw [if_neg (show ¬ (false = true) by decide)] at H; simp only [Option.some.injEq, Prod.mk.injEq] at H; obtain ⟨rfl, rfl, rfl, rfl, rfl, rfl⟩ := H
  go_enter Tryd.func43, Tryd.ntmps43
  go_wp2_with (first | ((with_reducible refine A0u (N := 2) rfl ?_); refine bxe 2 #[.int .i64 0, .int .u64 0] 48 (h := ?_); intro aa hg aO hbox hb; replace HB := ak (A0y (A0a.kl HB) hb); have ac := ak (hbox); have av := ak ((by rw [hg]; exact (A0s (w := w) (g := g) (row := none) (kk HK)) : w.heap.size ≤ aa)); have ao := ak ((Nat.le_trans HW0.out (by rw [hg]; exact (A0s (w := w) (g := g) (row := none) (kk HK)) : w.heap.size ≤ aa) : w0.heap.size ≤ aa)); replace HK := ak (A0c.trans (kk HK) (A0c.of_below hb g none) (.inl rfl)); have ad := ak ((by rw [hg]; exact Nat.ne_of_lt (A0a.lt (show A0a w0 _ g al am an from by repeat (first | (with_reducible first | exact af.out | apply A0a.alloc | apply A0a.drewN | apply A0a.drew | apply A0a.A05 | apply A0a.A06) | exact af.out))) : g ≠ aa)); have ae := ak ((by rw [hg]; exact Nat.ne_of_gt (A0a.lt (show A0a w0 _ g al am an from by repeat (first | (with_reducible first | exact af.out | apply A0a.alloc | apply A0a.drewN | apply A0a.drew | apply A0a.A05 | apply A0a.A06) | exact af.out))) : aa ≠ g)); replace af := ak (A0a.below (A0a.k af) hb); clear hb hbox hg) | ((with_reducible refine A0i (f := 57) rfl ?_); refine A09 (some 9) rfl rfl Tryd.func57 (by kernel_rfl) rfl #[.pointer (some ⟨g, 0, none⟩), .int .i64 64] rfl km ?_; (with_reducible refine (A0j.calls k g al am an 64 au false ap aq ar w0 _ ?ag ?ah A2.out).mono ?_); (case ag => repeat (first | (with_reducible first | exact af.out | apply A0a.alloc | apply A0a.drewN | apply A0a.drew | apply A0a.A05 | apply A0a.A06 | refine A0a.far ?_ ad.out _) | exact af.out)); (case ah => repeat (first | (with_reducible first | exact HB.out | apply A0m | apply A0h | apply A0g | refine A0d ?_ (A0a.ge af.out) | refine A0d ?_ ao.out) | exact HB.out)); rintro e aP ⟨rfl, hi, hb, hk⟩; refine ⟨_, rfl, ?_⟩; replace ac := ak (A0c.blk hk (g' := aa) (o := .cells #[.int .i64 0, .int .u64 0] 48 (0, 0)) (kb ac) ae.out (by simp)); replace HK := ak (A0c.trans (kk HK) hk (.inl rfl)); replace HB := ak (hb); replace af := ak (hi); (try clear hb); (try clear hk); (try clear hi); have aH := ae.out; have aI := ad.out; obtain ⟨a9, aA⟩ := kc2 ac; obtain ⟨aB, aC⟩ := kf2 ac))
  refine bodyPost_ret (results_ct rfl _ _ aa 48 #[.int .i64 0, .int .u64 0] (0, 0) _ rfl (kb ac) Tryd.underlying48 rfl (by kernel_rfl)) rfl ?_
  exact ⟨kF, (A0a.k af), (A0a.kl HB), (kk HK)⟩
def A2p.f (k : Nat) (ac : List Int) (ad : Int) (ae : Int) : Option (Int × Int × Option Int × List Int × Int × Int) := (A0j.f k ac ad ae 12).bind fun aa => (if aa.2.1 = true then (if (wrap64 ((wrap64 (aa.1 / 64)) + (wrap64 ((wrap64 (Go.bits .and .u64 aa.1 63)) + 1)))) > 64 then (some (0, 0, some 3, aa.2.2.1, aa.2.2.2.1, aa.2.2.2.2)) else (some (wrap64 (aa.1 / 64), wrap64 ((wrap64 (Go.bits .and .u64 aa.1 63)) + 1), none, aa.2.2.1, aa.2.2.2.1, aa.2.2.2.2))) else (some (0, 0, some 2, aa.2.2.1, aa.2.2.2.1, aa.2.2.2.2)))
theorem A2p.mono : ∀ a0 a1 a2 k, LeO (A2p.f k a0 a1 a2) (A2p.f (k + 1) a0 a1 a2) := by
 intro a0 a1 a2 k
 unfold A2p.f
 repeat' first
   | (with_reducible exact A0j.mono _ _ _ _ _)
   | (with_reducible exact LeO.refl _)
   | (with_reducible exact LeO.none _)
   | (with_reducible refine LeO.ite ?_ ?_)
   | (with_reducible refine LeO.bind ?_ (fun _ => ?_))
   | exact A0j.mono _ _ _ _ _
   | exact LeO.none _
   | refine LeO.ite ?_ ?_
   | refine LeO.bind ?_ (fun _ => ?_)
set_option maxHeartbeats 8000000 in
set_option maxRecDepth 100000 in
theorem A2p.calls (k : Nat) (g : Nat) (ag : List Int) (ah : Int) (ai : Int) (r1 : Int) (r2 : Int) (r3 : Option Int) (r4 : List Int) (r5 : Int) (r6 : Int) (w0 w : World) (hI : A0a w0 w g ag ah ai) (hB : Below w0.heap.size w0 w) (h : A2p.f k ag ah ai = some (r1, r2, r3, r4, r5, r6)) :
  Calls Tryd.prog 60 #[.pointer (some ⟨g, 0, none⟩)] w fun e w' => e = .returned (.tuple #[.int .i64 r1, .int .i64 r2, errW r3]) ∧ A0a w0 w' g r4 r5 r6 ∧ Below w0.heap.size w0 w' ∧ A0c w w' g none := by
 have hu27 := Tryd.underlying27; have hu54 := Tryd.underlying54; have af := ak hI; have HK := ak (A0c.refl w g none); have HL := ak hB.size; clear hI; have HW0 := ak hB.size; have HB := ak hB; clear hB; have H : ((A0j.f k ag ah ai 12).bind fun aa => (if aa.2.1 = true then (if (wrap64 ((wrap64 (aa.1 / 64)) + (wrap64 ((wrap64 (Go.bits .and .u64 aa.1 63)) + 1)))) > 64 then (some (0, 0, some 3, aa.2.2.1, aa.2.2.2.1, aa.2.2.2.2)) else (some (wrap64 (aa.1 / 64), wrap64 ((wrap64 (Go.bits .and .u64 aa.1 63)) + 1), none, aa.2.2.1, aa.2.2.2.1, aa.2.2.2.2))) else (some (0, 0, some 2, aa.2.2.1, aa.2.2.2.1, aa.2.2.2.2)))) = some (r1, r2, r3, r4, r5, r6) := h; clear h; replace H := bkH H; obtain ⟨⟨ac, an, aj, al, am⟩, A2, H⟩ := H; (try dsimp only at H)
 by_cases c3 : an = true
 ·subst c3
  rw [if_pos rfl] at H
  by_cases c4 : (wrap64 ((wrap64 (ac / 64)) + (wrap64 ((wrap64 (Go.bits .and .u64 ac 63)) + 1)))) > 64
  ·rw [if_pos c4] at H; have ao : decide (64 < (wrap64 ((wrap64 (ac / 64)) + (wrap64 ((wrap64 (Go.bits .and .u64 ac 63)) + 1))))) = true := decide_eq_true c4; clear c4; simp only [Option.some.injEq, Prod.mk.injEq] at H; obtain ⟨rfl, rfl, rfl, rfl, rfl, rfl⟩ := H
   go_enter Tryd.func60, Tryd.ntmps60
   go_wp2_with (first | ((with_reducible refine A0i (f := 57) rfl ?_); refine A09 (some 11) rfl rfl Tryd.func57 (by kernel_rfl) rfl #[.pointer (some ⟨g, 0, none⟩), .int .i64 12] rfl km ?_; (with_reducible refine (A0j.calls k g ag ah ai 12 ac true aj al am w0 _ ?ad ?ae A2.out).mono ?_); (case ad => repeat (first | (with_reducible first | exact af.out | apply A0a.alloc | apply A0a.drewN | apply A0a.drew | apply A0a.A05 | apply A0a.A06) | exact af.out)); (case ae => repeat (first | (with_reducible first | exact HB.out | apply A0m | apply A0h | apply A0g | refine A0d ?_ (A0a.ge af.out)) | exact HB.out)); rintro e w5 ⟨rfl, hi, hb, hk⟩; refine ⟨_, rfl, ?_⟩; replace HK := ak (A0c.trans (kk HK) hk (.inl rfl)); replace HB := ak (hb); replace af := ak (hi); (try clear hb); (try clear hk); (try clear hi); ))
   go_ret3
   exact ⟨kF, (A0a.k af), (A0a.kl HB), (kk HK)⟩
  ·rw [if_neg c4] at H; have ao : decide (64 < (wrap64 ((wrap64 (ac / 64)) + (wrap64 ((wrap64 (Go.bits .and .u64 ac 63)) + 1))))) = false := decide_eq_false c4; clear c4; simp only [Option.some.injEq, Prod.mk.injEq] at H; obtain ⟨rfl, rfl, rfl, rfl, rfl, rfl⟩ := H
   go_enter Tryd.func60, Tryd.ntmps60
   go_wp2_with (first | ((with_reducible refine A0i (f := 57) rfl ?_); refine A09 (some 11) rfl rfl Tryd.func57 (by kernel_rfl) rfl #[.pointer (some ⟨g, 0, none⟩), .int .i64 12] rfl km ?_; (with_reducible refine (A0j.calls k g ag ah ai 12 ac true aj al am w0 _ ?ad ?ae A2.out).mono ?_); (case ad => repeat (first | (with_reducible first | exact af.out | apply A0a.alloc | apply A0a.drewN | apply A0a.drew | apply A0a.A05 | apply A0a.A06) | exact af.out)); (case ae => repeat (first | (with_reducible first | exact HB.out | apply A0m | apply A0h | apply A0g | refine A0d ?_ (A0a.ge af.out)) | exact HB.out)); rintro e w6 ⟨rfl, hi, hb, hk⟩; refine ⟨_, rfl, ?_⟩; replace HK := ak (A0c.trans (kk HK) hk (.inl rfl)); replace HB := ak (hb); replace af := ak (hi); (try clear hb); (try clear hk); (try clear hi); ))
   go_ret3
   exact ⟨kF, (A0a.k af), (A0a.kl HB), (kk HK)⟩
 ·replace c3 := Bool.eq_false_iff.mpr c3; subst c3
  rw [if_neg (show ¬ (false = true) by decide)] at H; simp only [Option.some.injEq, Prod.mk.injEq] at H; obtain ⟨rfl, rfl, rfl, rfl, rfl, rfl⟩ := H
  go_enter Tryd.func60, Tryd.ntmps60
  go_wp2_with (first | ((with_reducible refine A0i (f := 57) rfl ?_); refine A09 (some 11) rfl rfl Tryd.func57 (by kernel_rfl) rfl #[.pointer (some ⟨g, 0, none⟩), .int .i64 12] rfl km ?_; (with_reducible refine (A0j.calls k g ag ah ai 12 ac false aj al am w0 _ ?ad ?ae A2.out).mono ?_); (case ad => repeat (first | (with_reducible first | exact af.out | apply A0a.alloc | apply A0a.drewN | apply A0a.drew | apply A0a.A05 | apply A0a.A06) | exact af.out)); (case ae => repeat (first | (with_reducible first | exact HB.out | apply A0m | apply A0h | apply A0g | refine A0d ?_ (A0a.ge af.out)) | exact HB.out)); rintro e w7 ⟨rfl, hi, hb, hk⟩; refine ⟨_, rfl, ?_⟩; replace HK := ak (A0c.trans (kk HK) hk (.inl rfl)); replace HB := ak (hb); replace af := ak (hi); (try clear hb); (try clear hk); (try clear hi); ))
  go_ret3
  exact ⟨kF, (A0a.k af), (A0a.kl HB), (kk HK)⟩
end Go.Proofs.YtiahbcaoikoogabDoor.All
end
section
namespace Go.Proofs.YtiahbcaoikoogabDoor.All
open Go.RowKit Go.Proofs.YtiahbcaoikoogabDoorW.PrintWords Go.Proofs.YtiahbcaoikoogabDoorW.PrintLast Go.Proofs.YtiahbcaoikoogabDoorW.PrintMore
attribute [local go_sem] A2i A2j A2v A2w A14 A15 A2k A2l
set_option linter.unusedVariables false
set_option linter.unusedSimpArgs false
mutual
def A2f.j0 : Nat → List Int → Int → Int → Bool → Option (Int × Bool)
 | 0, _, _, _, _ => none
 | k + 1, x0, x1, x2, aa => if aa = true then (some (0, false)) else (A2f.l0 k x0 x1 x2 0 x1)
def A2f.l0 : Nat → List Int → Int → Int → Int → Int → Option (Int × Bool)
 | 0, _, _, _, _, _ => none
 | k + 1, x0, x1, x2, x8, x9 => if x9 < (wrap64 (x1 + x2)) then (if 0 ≤ (wrap64 (Int.tdiv x9 8)) then (if (wrap64 (Int.tdiv x9 8)) < (x0.length : Int) then (if 0 ≤ (wrap64 (7 - (Int.tmod x9 8))) then (A2f.l0 k x0 x1 x2 (Go.bits .or .u64 (IntKind.u64.wrap (x8 * 2)) (IntKind.u64.wrap (Go.bits .and .u8 (shr .u8 (rd x0 (wrap64 (Int.tdiv x9 8))) (wrap64 (7 - (Int.tmod x9 8)))) 1))) (wrap64 (x9 + 1))) else (none)) else (none)) else (none)) else (some (x8, true))
end
def A2f.f (k : Nat) (l0 : List Int) (a1 : Int) (a2 : Int) : Option (Int × Bool) := if a2 < 0 then (A2f.j0 k l0 a1 a2 true) else (if a2 > 64 then (A2f.j0 k l0 a1 a2 true) else (if a1 < 0 then (A2f.j0 k l0 a1 a2 true) else (if a1 > (wrap64 (8 * (l0.length : Int))) then (A2f.j0 k l0 a1 a2 true) else (A2f.j0 k l0 a1 a2 (decide (a2 > (wrap64 ((wrap64 (8 * (l0.length : Int))) - a1))))))))
end Go.Proofs.YtiahbcaoikoogabDoor.All
end
section
namespace Go.Proofs.YtiahbcaoikoogabDoor.All
open Go.RowKit Go.Proofs.YtiahbcaoikoogabDoorW.PrintWords Go.Proofs.YtiahbcaoikoogabDoorW.PrintLast Go.Proofs.YtiahbcaoikoogabDoorW.PrintMore
attribute [local go_sem] A2i A2j A2v A2w A14 A15 A2k A2l
set_option linter.unusedVariables false
set_option linter.unusedSimpArgs false
def A3d.f (a0 : Int) : Option (Int) := if a0 = 1 then (some 7) else (if a0 = 2 then (some 9) else (if a0 = 3 then (some 12) else (if a0 = 4 then (some 64) else (some 0))))
set_option maxHeartbeats 8000000 in
set_option maxRecDepth 100000 in
theorem A3d.calls (a0 : Int) (r : Int) (w : World) (h : A3d.f a0 = some r) :
  Calls Tryd.prog 49 #[.int .i64 a0] w fun e w' => e = .returned (.int .i64 r) ∧ A1y w w' := by
 have H : (if a0 = 1 then (some 7) else (if a0 = 2 then (some 9) else (if a0 = 3 then (some 12) else (if a0 = 4 then (some 64) else (some 0))))) = some r := h; clear h
 by_cases c2 : a0 = 1
 ·rw [if_pos c2] at H; obtain ⟨aa, ac⟩ := kqT c2; clear c2; obtain rfl := Option.some.inj H
  go_enter Tryd.func49, Tryd.ntmps49
  go_wp2
  go_ret
  exact ⟨by first | rfl | (simp; done) | (simp [*]; done), by repeat (first | exact A1y.refl _ | apply A1y.step)⟩
 ·rw [if_neg c2] at H; obtain ⟨aa, ac⟩ := kqF c2
  by_cases c3 : a0 = 2
  ·rw [if_pos c3] at H; obtain ⟨ad, ae⟩ := kqT c3; clear c3; obtain rfl := Option.some.inj H
   go_enter Tryd.func49, Tryd.ntmps49
   go_wp2
   go_ret
   exact ⟨by first | rfl | (simp; done) | (simp [*]; done), by repeat (first | exact A1y.refl _ | apply A1y.step)⟩
  ·rw [if_neg c3] at H; obtain ⟨ad, ae⟩ := kqF c3
   by_cases c4 : a0 = 3
   ·rw [if_pos c4] at H; obtain ⟨af, ag⟩ := kqT c4; clear c4; obtain rfl := Option.some.inj H
    go_enter Tryd.func49, Tryd.ntmps49
    go_wp2
    go_ret
    exact ⟨by first | rfl | (simp; done) | (simp [*]; done), by repeat (first | exact A1y.refl _ | apply A1y.step)⟩
   ·rw [if_neg c4] at H; obtain ⟨af, ag⟩ := kqF c4
    by_cases c5 : a0 = 4
    ·rw [if_pos c5] at H; obtain ⟨ah, ai⟩ := kqT c5; clear c5; obtain rfl := Option.some.inj H
     go_enter Tryd.func49, Tryd.ntmps49
     go_wp2
     go_ret
     exact ⟨by first | rfl | (simp; done) | (simp [*]; done), by repeat (first | exact A1y.refl _ | apply A1y.step)⟩
    ·rw [if_neg c5] at H; obtain ⟨ah, ai⟩ := kqF c5; obtain rfl := Option.some.inj H
     go_enter Tryd.func49, Tryd.ntmps49
     go_wp2
     go_ret
     exact ⟨by first | rfl | (simp; done) | (simp [*]; done), by repeat (first | exact A1y.refl _ | apply A1y.step)⟩
def A1v.l0 : Nat → Int → Int → Option (Int)
 | 0, _, _ => none
 | k + 1, x0, x3 => if x3 < 4 then ((A3d.f x3).bind fun aa => (if 0 ≤ (wrap64 (aa - 1)) then (if x0 ≥ (wrap64 (-(shl .i64 1 (wrap64 (aa - 1))))) then (if x0 < (shl .i64 1 (wrap64 (aa - 1))) then (some x3) else (A1v.l0 k x0 (wrap64 (x3 + 1)))) else (A1v.l0 k x0 (wrap64 (x3 + 1)))) else (none))) else (some 4)
def A1v.f (k : Nat) (a0 : Int) : Option (Int) := if a0 = 0 then (some 0) else (A1v.l0 k a0 1)
theorem A1v.A3k : ∀ k, (∀ y0 y1, LeO (A1v.l0 k y0 y1) (A1v.l0 (k + 1) y0 y1))
 | 0 => fun _ _ r h => by simp [A1v.l0] at h
 | k + 1 => by
  have ih0 := A1v.A3k k <;> intros <;> (first | unfold A1v.l0) <;> (
   repeat' first
   | (with_reducible exact ih0 _ _)
   | (with_reducible exact LeO.refl _)
   | (with_reducible exact LeO.none _)
   | (with_reducible refine LeO.ite ?_ ?_)
   | (with_reducible refine LeO.bind ?_ (fun _ => ?_))
   | exact ih0 _ _
   | exact LeO.none _
   | refine LeO.ite ?_ ?_
   | refine LeO.bind ?_ (fun _ => ?_))
theorem A1v.mono : ∀ a0 k, LeO (A1v.f k a0) (A1v.f (k + 1) a0) := by
 intro a0 k
 have ih0 := A1v.A3k k
 unfold A1v.f
 repeat' first
   | (with_reducible exact ih0 _ _)
   | (with_reducible exact LeO.refl _)
   | (with_reducible exact LeO.none _)
   | (with_reducible refine LeO.ite ?_ ?_)
   | (with_reducible refine LeO.bind ?_ (fun _ => ?_))
   | exact ih0 _ _
   | exact LeO.none _
   | refine LeO.ite ?_ ?_
   | refine LeO.bind ?_ (fun _ => ?_)
set_option maxHeartbeats 8000000 in
set_option maxRecDepth 100000 in
theorem A1v.calls (k : Nat) (a0 : Int) (r : Int) (w : World) (h : A1v.f k a0 = some r) :
  Calls Tryd.prog 48 #[.int .i64 a0] w fun e w' => e = .returned (.int .i64 r) ∧ A1y w w' := by
 have H : (if a0 = 0 then (some 0) else (A1v.l0 k a0 1)) = some r := h; clear h
 by_cases c2 : a0 = 0
 ·rw [if_pos c2] at H; obtain ⟨aj, al⟩ := kqT c2; clear c2; obtain rfl := Option.some.inj H
  go_enter Tryd.func48, Tryd.ntmps48
  go_wp2
  go_ret
  exact ⟨by first | rfl | (simp; done) | (simp [*]; done), by repeat (first | exact A1y.refl _ | apply A1y.step)⟩
 ·rw [if_neg c2] at H; obtain ⟨aj, al⟩ := kqF c2; have H' := ak H; clear H
  go_enter Tryd.func48, Tryd.ntmps48
  go_wp2
  go_loopg [3] k (fun kq v3 w' => ∃ (aa : Int), v3 = .int .i64 aa ∧ A0e (A1v.l0 kq a0 aa = some r) ∧ A0e (kq ≤ k) ∧ A1y w w')
  case atStart => exact ⟨(1), kE, H', ⟨Nat.le_refl _⟩, by repeat (first | exact A1y.refl _ | apply A1y.step)⟩
  case round =>
   clear H'; (try clear c2); (try clear aj); (try clear al); obtain ⟨aa, rfl, HA, am, ⟨m1, rfl⟩⟩ := hrel
   cases gk with
   | zero => exact absurd HA.out (by simp [A1v.l0])
   | succ k1 =>
    have H := HA.out; clear HA; simp only [A1v.l0] at H
    by_cases c3 : aa < 4
    ·rw [if_pos c3] at H; have an : decide (aa < 4) = true := decide_eq_true c3; clear c3; replace H := bkH H; obtain ⟨af, A4, H⟩ := H; obtain ⟨ac, ag⟩ : ∃ j_ : Int, (wrap64 (af - 1)) = j_ := ⟨_, rfl⟩
     replace H : (if 0 ≤ (ac) then (if a0 ≥ (wrap64 (-(shl .i64 1 (ac)))) then (if a0 < (shl .i64 1 (ac)) then (some aa) else (A1v.l0 k1 a0 (wrap64 (aa + 1)))) else (A1v.l0 k1 a0 (wrap64 (aa + 1)))) else (none)) = some r := by first | (rw [ag] at H; exact H) | (simp only [ag] at H ⊢; exact H)
     (try rw [ag] at A4); have aq : (IntKind.i64.wrap (af - 1)) = ac := (A3a _).trans ag
     by_cases c6 : 0 ≤ (ac)
     ·rw [if_pos c6] at H; have ax := eq_true c6; have ay := decide_eq_true c6; clear c6; obtain ⟨ae, ad⟩ : ∃ j_ : Int, (shl .i64 1 (ac)) = j_ := ⟨_, rfl⟩
      replace H : (if a0 ≥ (wrap64 (-(ae))) then (if a0 < (ae) then (some aa) else (A1v.l0 k1 a0 (wrap64 (aa + 1)))) else (A1v.l0 k1 a0 (wrap64 (aa + 1)))) = some r := by first | (rw [ad] at H; exact H) | (simp only [ad] at H ⊢; exact H)
      (try rw [ad] at A4); have ah : (IntKind.i64.wrap (1 * 2 ^ min (ac).toNat 64)) = ae := ad; have ai : (ac) ≤ 64 → (IntKind.i64.wrap (1 * 2 ^ (ac).toNat)) = ae := shl_small ad
      have ar : (IntKind.i64.wrap (2 ^ min (ac).toNat 64)) = ae := by have h_ := ah; rw [Int.one_mul] at h_; exact h_
      have au : (ac) ≤ 64 → (IntKind.i64.wrap (2 ^ (ac).toNat)) = ae := fun hle_ => by have h_ := ai hle_; rw [Int.one_mul] at h_; exact h_
      have av : (wrap64 (1 * 2 ^ min (ac).toNat 64)) = ae := (A3a _).symm.trans ah
      have aw : (ac) ≤ 64 → (wrap64 (1 * 2 ^ (ac).toNat)) = ae := fun h_ => (A3a _).symm.trans (ai h_)
      by_cases c8 : a0 ≥ (wrap64 (-(ae)))
      ·rw [if_pos c8] at H; have ao : decide ((wrap64 (-(ae))) ≤ a0) = true := decide_eq_true c8; clear c8
       by_cases c9 : a0 < (ae)
       ·rw [if_pos c9] at H; have ap := decide_eq_true c9; clear c9; obtain rfl := Option.some.inj H
        go_wp2_with (first | ((with_reducible refine A0i (f := 49) rfl ?_); refine A09 (some 12) rfl rfl Tryd.func49 (by kernel_rfl) rfl #[.int .i64 aa] rfl km ?_; (with_reducible refine (A3d.calls aa af _ A4.out).mono ?_); rintro e w' ⟨rfl, ⟨nd, rfl⟩⟩; refine ⟨_, rfl, ?_⟩))
        go_ret
        exact ⟨by first | rfl | (simp; done) | (simp only [← ag, ← ad] <;> (first | rfl | simp)) | (simp [*]; done), by repeat (first | exact A1y.refl _ | apply A1y.step)⟩
       ·rw [if_neg c9] at H; have ap := decide_eq_false c9; clear c9; have H' := ak H; clear H
        go_wp2_with (first | ((with_reducible refine A0i (f := 49) rfl ?_); refine A09 (some 12) rfl rfl Tryd.func49 (by kernel_rfl) rfl #[.int .i64 aa] rfl km ?_; (with_reducible refine (A3d.calls aa af _ A4.out).mono ?_); rintro e w' ⟨rfl, ⟨nd, rfl⟩⟩; refine ⟨_, rfl, ?_⟩))
        go_roundg k1
        case measure => have := am.out; omega
        case rel => exact ⟨(wrap64 (aa + 1)), kE, H', ⟨by have := am.out; omega⟩, by repeat (first | exact A1y.refl _ | apply A1y.step)⟩
      ·rw [if_neg c8] at H; have ao : decide ((wrap64 (-(ae))) ≤ a0) = false := decide_eq_false c8; clear c8; have H' := ak H; clear H
       go_wp2_with (first | ((with_reducible refine A0i (f := 49) rfl ?_); refine A09 (some 12) rfl rfl Tryd.func49 (by kernel_rfl) rfl #[.int .i64 aa] rfl km ?_; (with_reducible refine (A3d.calls aa af _ A4.out).mono ?_); rintro e w' ⟨rfl, ⟨nd, rfl⟩⟩; refine ⟨_, rfl, ?_⟩))
       go_roundg k1
       case measure => have := am.out; omega
       case rel => exact ⟨(wrap64 (aa + 1)), kE, H', ⟨by have := am.out; omega⟩, by repeat (first | exact A1y.refl _ | apply A1y.step)⟩
     ·rw [if_neg c6] at H
      exact absurd H (by simp)
    ·rw [if_neg c3] at H; have an : decide (aa < 4) = false := decide_eq_false c3; clear c3; obtain rfl := Option.some.inj H
     go_wp2
     go_ret
     exact ⟨by first | rfl | (simp; done) | (simp [*]; done), by repeat (first | exact A1y.refl _ | apply A1y.step)⟩
mutual
def A27.j2 : Nat → List Int → Int → Int → Int → Option (Int × Int × Option Int)
 | 0, _, _, _, _ => none
 | k + 1, x0, x1, x7, x8 => (A3d.f x7).bind fun aa => ((A2f.f k x0 (wrap64 (x1 + x8)) aa).bind fun ac => (if ac.2 = true then (if aa > 0 then (if 0 ≤ (wrap64 (64 - aa)) then ((A1v.f k (shr .i64 (wrap64 (shl .u64 ac.1 (wrap64 (64 - aa)))) (wrap64 (64 - aa)))).bind fun ad => (if ad = x7 then (some (shr .i64 (wrap64 (shl .u64 ac.1 (wrap64 (64 - aa)))) (wrap64 (64 - aa)), wrap64 (x8 + aa), none)) else (some (0, 0, some 3)))) else (none)) else ((A1v.f k (wrap64 (ac.1))).bind fun ae => (if ae = x7 then (some (wrap64 (ac.1), wrap64 (x8 + aa), none)) else (some (0, 0, some 3))))) else (some (0, 0, some 2))))
def A27.l0 : Nat → List Int → Int → Int → Int → Option (Int × Int × Option Int)
 | 0, _, _, _, _ => none
 | k + 1, x0, x1, x7, x8 => if x7 < 4 then ((A2f.f k x0 (wrap64 (x1 + x8)) 1).bind fun aa => (if x1 < 0 then (A27.j1 k x0 x1 x7 x8 aa.1 true) else (A27.j1 k x0 x1 x7 x8 aa.1 (!aa.2)))) else (A27.j2 k x0 x1 x7 x8)
def A27.j1 : Nat → List Int → Int → Int → Int → Int → Bool → Option (Int × Int × Option Int)
 | 0, _, _, _, _, _, _ => none
 | k + 1, x0, x1, x7, x8, x9, aa => if aa = true then (some (0, 0, some 2)) else (if x9 = 0 then (A27.j2 k x0 x1 x7 (wrap64 (x8 + 1))) else (A27.l0 k x0 x1 (wrap64 (x7 + 1)) (wrap64 (x8 + 1))))
end
def A27.f (k : Nat) (l0 : List Int) (a1 : Int) : Option (Int × Int × Option Int) := A27.l0 k l0 a1 0 0
end Go.Proofs.YtiahbcaoikoogabDoor.All
end
