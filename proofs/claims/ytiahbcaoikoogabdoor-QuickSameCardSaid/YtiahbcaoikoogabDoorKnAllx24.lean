-- copied by a program of the session
import Derived.Test.YtiahbcaoikoogabDoorKnAllx21
section
namespace Go.Proofs.YtiahbcaoikoogabDoor.All
open Go.RowKit Go.Proofs.YtiahbcaoikoogabDoorW.PrintWords Go.Proofs.YtiahbcaoikoogabDoorW.PrintLast Go.Proofs.YtiahbcaoikoogabDoorW.PrintMore
attribute [local go_sem] A2m A2n A25 A26 A2b A2c A2o A2p
set_option linter.unusedVariables false
set_option linter.unusedSimpArgs false
def A24.f (k : Nat) (ad : List Int) (ae : Int) (af : Int) : Option (Int × Int × Option Int × List Int × Int × Int) := (A0j.f k ad ae af 64).bind fun aa => (if aa.2.1 = true then ((A0j.f k aa.2.2.1 aa.2.2.2.1 aa.2.2.2.2 64).bind fun ac => (if ac.2.1 = true then (some (wrap64 (aa.1), ac.1, none, ac.2.2.1, ac.2.2.2.1, ac.2.2.2.2)) else (some (0, 0, some 2, ac.2.2.1, ac.2.2.2.1, ac.2.2.2.2)))) else (some (0, 0, some 2, aa.2.2.1, aa.2.2.2.1, aa.2.2.2.2)))
theorem A24.mono : ∀ a0 a1 a2 k, LeO (A24.f k a0 a1 a2) (A24.f (k + 1) a0 a1 a2) := by
 intro a0 a1 a2 k
 unfold A24.f
 repeat' first
   | (with_reducible exact A0j.mono _ _ _ _ _)
   | (with_reducible exact LeO.refl _)
   | (with_reducible exact LeO.none _)
   | (with_reducible refine LeO.ite ?_ ?_)
   | (with_reducible refine LeO.bind ?_ (fun _ => ?_))
   | exact A0j.mono _ _ _ _ _
   | exact LeO.none _
   | refine LeO.ite ?_ ?_
   | refine LeO.bind ?_ (fun _ => ?_)
set_option maxHeartbeats 8000000 in
set_option maxRecDepth 100000 in
theorem A24.calls (k : Nat) (g : Nat) (al : List Int) (am : Int) (an : Int) (r1 : Int) (r2 : Int) (r3 : Option Int) (r4 : List Int) (r5 : Int) (r6 : Int) (w0 w : World) (hI : A0a w0 w g al am an) (hB : Below w0.heap.size w0 w) (h : A24.f k al am an = some (r1, r2, r3, r4, r5, r6)) :
  Calls Tryd.prog 43 #[.pointer (some ⟨g, 0, none⟩)] w fun e w' => e = .returned (.tuple #[.agg #[.int .i64 r1, .int .u64 r2], errW r3]) ∧ A0a w0 w' g r4 r5 r6 ∧ Below w0.heap.size w0 w' ∧ A0d w w' g none := by
 have hu48 := Tryd.underlying48; have hu27 := Tryd.underlying27; have hu54 := Tryd.underlying54; have af := ak hI; have HK := ak (A0d.refl w g none); have HL := ak hB.size; clear hI; have HW0 := ak hB.size; have HB := ak hB; clear hB; have H : ((A0j.f k al am an 64).bind fun ai => (if ai.2.1 = true then ((A0j.f k ai.2.2.1 ai.2.2.2.1 ai.2.2.2.2 64).bind fun aj => (if aj.2.1 = true then (some (wrap64 (ai.1), aj.1, none, aj.2.2.1, aj.2.2.2.1, aj.2.2.2.2)) else (some (0, 0, some 2, aj.2.2.1, aj.2.2.2.1, aj.2.2.2.2)))) else (some (0, 0, some 2, ai.2.2.1, ai.2.2.2.1, ai.2.2.2.2)))) = some (r1, r2, r3, r4, r5, r6) := h; clear h; replace H := bkH H; obtain ⟨⟨au, aD, ap, aq, ar⟩, A2, H⟩ := H; (try dsimp only at H)
 by_cases c3 : aD = true
 ·subst c3
  rw [if_pos rfl] at H; replace H := bkH H; obtain ⟨⟨aw, aE, ax, ay, az⟩, A4, H⟩ := H; (try dsimp only at H)
  by_cases c5 : aE = true
  ·subst c5
   rw [if_pos rfl] at H; simp only [Option.some.injEq, Prod.mk.injEq] at H; obtain ⟨rfl, rfl, rfl, rfl, rfl, rfl⟩ := H
   go_enter Tryd.func43, Tryd.ntmps43
   go_wp2_with (first | ((with_reducible refine A0p (N := 2) rfl ?_); refine bxe 2 #[.int .i64 0, .int .u64 0] 48 (h := ?_); intro aa hg w6 hbox hb; replace HB := ak (A0t (A0a.kl HB) hb); have ac := ak (hbox); have av := ak ((by rw [hg]; exact (A0r (w := w) (g := g) (row := none) (kk HK)) : w.heap.size ≤ aa)); have ao := ak ((Nat.le_trans HW0.out (by rw [hg]; exact (A0r (w := w) (g := g) (row := none) (kk HK)) : w.heap.size ≤ aa) : w0.heap.size ≤ aa)); replace HK := ak (A0d.trans (kk HK) (A0d.of_below hb g none) (.inl rfl)); have ad := ak ((by rw [hg]; exact Nat.ne_of_lt (A0a.lt (show A0a w0 _ g al am an from by repeat (first | (with_reducible first | exact af.out | apply A0a.alloc | apply A0a.drewN | apply A0a.drew | apply A0a.A04 | apply A0a.A05) | exact af.out))) : g ≠ aa)); have ae := ak ((by rw [hg]; exact Nat.ne_of_gt (A0a.lt (show A0a w0 _ g al am an from by repeat (first | (with_reducible first | exact af.out | apply A0a.alloc | apply A0a.drewN | apply A0a.drew | apply A0a.A04 | apply A0a.A05) | exact af.out))) : aa ≠ g)); replace af := ak (A0a.below (A0a.k af) hb); clear hb hbox hg) | ((with_reducible refine A0f (f := 57) rfl ?_); refine A03 (some 9) rfl rfl Tryd.func57 (by kernel_rfl) rfl #[.pointer (some ⟨g, 0, none⟩), .int .i64 64] rfl km ?_; (with_reducible refine (A0j.calls k g al am an 64 au true ap aq ar w0 _ ?ag ?ah A2.out).mono ?_); (case ag => repeat (first | (with_reducible first | exact af.out | apply A0a.alloc | apply A0a.drewN | apply A0a.drew | apply A0a.A04 | apply A0a.A05 | refine A0a.far ?_ ad.out _) | exact af.out)); (case ah => repeat (first | (with_reducible first | exact HB.out | apply A0o | apply A0h | apply A0g | refine A0c ?_ (A0a.ge af.out) | refine A0c ?_ ao.out) | exact HB.out)); rintro e w7 ⟨rfl, hi, hb, hk⟩; refine ⟨_, rfl, ?_⟩; replace ac := ak (A0d.blk hk (g' := aa) (o := .cells #[.int .i64 0, .int .u64 0] 48 (0, 0)) (kb ac) ae.out (by simp)); replace HK := ak (A0d.trans (kk HK) hk (.inl rfl)); replace HB := ak (hb); replace af := ak (hi); (try clear hb); (try clear hk); (try clear hi); ) | ((with_reducible refine A0f (f := 57) rfl ?_); refine A03 (some 18) rfl rfl Tryd.func57 (by kernel_rfl) rfl #[.pointer (some ⟨g, 0, none⟩), .int .i64 64] rfl km ?_; (with_reducible refine (A0j.calls k g ap aq ar 64 aw true ax ay az w0 _ ?ag ?ah A4.out).mono ?_); (case ag => repeat (first | (with_reducible first | exact af.out | apply A0a.alloc | apply A0a.drewN | apply A0a.drew | apply A0a.A04 | apply A0a.A05 | refine A0a.far ?_ ad.out _) | exact af.out)); (case ah => repeat (first | (with_reducible first | exact HB.out | apply A0o | apply A0h | apply A0g | refine A0c ?_ (A0a.ge af.out) | refine A0c ?_ ao.out) | exact HB.out)); rintro e w8 ⟨rfl, hi, hb, hk⟩; refine ⟨_, rfl, ?_⟩; replace ac := ak (A0d.blk hk (g' := aa) (o := .cells #[.int .i64 0, .int .u64 0] 48 (0, 0)) (kb ac) ae.out (by simp)); replace HK := ak (A0d.trans (kk HK) hk (.inl rfl)); replace HB := ak (hb); replace af := ak (hi); (try clear hb); (try clear hk); (try clear hi); have aJ := ae.out; have aK := ad.out; obtain ⟨a1, a2⟩ := kc2 ac; obtain ⟨a3, a4⟩ := kf2 ac))
   refine bodyPost_ret (results_ct rfl _ _ aa 48 #[.int .i64 (wrap64 (au)), .int .u64 aw] (0, 0) _ rfl (kb ac) Tryd.underlying48 rfl (by kernel_rfl)) rfl ?_
   exact ⟨kF, (A0a.k af), (A0a.kl HB), (kk HK)⟩
  ·replace c5 := Bool.eq_false_iff.mpr c5; subst c5
   rw [if_neg (show ¬ (false = true) by decide)] at H; simp only [Option.some.injEq, Prod.mk.injEq] at H; obtain ⟨rfl, rfl, rfl, rfl, rfl, rfl⟩ := H
   go_enter Tryd.func43, Tryd.ntmps43
   go_wp2_with (first | ((with_reducible refine A0p (N := 2) rfl ?_); refine bxe 2 #[.int .i64 0, .int .u64 0] 48 (h := ?_); intro aa hg aL hbox hb; replace HB := ak (A0t (A0a.kl HB) hb); have ac := ak (hbox); have av := ak ((by rw [hg]; exact (A0r (w := w) (g := g) (row := none) (kk HK)) : w.heap.size ≤ aa)); have ao := ak ((Nat.le_trans HW0.out (by rw [hg]; exact (A0r (w := w) (g := g) (row := none) (kk HK)) : w.heap.size ≤ aa) : w0.heap.size ≤ aa)); replace HK := ak (A0d.trans (kk HK) (A0d.of_below hb g none) (.inl rfl)); have ad := ak ((by rw [hg]; exact Nat.ne_of_lt (A0a.lt (show A0a w0 _ g al am an from by repeat (first | (with_reducible first | exact af.out | apply A0a.alloc | apply A0a.drewN | apply A0a.drew | apply A0a.A04 | apply A0a.A05) | exact af.out))) : g ≠ aa)); have ae := ak ((by rw [hg]; exact Nat.ne_of_gt (A0a.lt (show A0a w0 _ g al am an from by repeat (first | (with_reducible first | exact af.out | apply A0a.alloc | apply A0a.drewN | apply A0a.drew | apply A0a.A04 | apply A0a.A05) | exact af.out))) : aa ≠ g)); replace af := ak (A0a.below (A0a.k af) hb); clear hb hbox hg) | ((with_reducible refine A0f (f := 57) rfl ?_); refine A03 (some 9) rfl rfl Tryd.func57 (by kernel_rfl) rfl #[.pointer (some ⟨g, 0, none⟩), .int .i64 64] rfl km ?_; (with_reducible refine (A0j.calls k g al am an 64 au true ap aq ar w0 _ ?ag ?ah A2.out).mono ?_); (case ag => repeat (first | (with_reducible first | exact af.out | apply A0a.alloc | apply A0a.drewN | apply A0a.drew | apply A0a.A04 | apply A0a.A05 | refine A0a.far ?_ ad.out _) | exact af.out)); (case ah => repeat (first | (with_reducible first | exact HB.out | apply A0o | apply A0h | apply A0g | refine A0c ?_ (A0a.ge af.out) | refine A0c ?_ ao.out) | exact HB.out)); rintro e aM ⟨rfl, hi, hb, hk⟩; refine ⟨_, rfl, ?_⟩; replace ac := ak (A0d.blk hk (g' := aa) (o := .cells #[.int .i64 0, .int .u64 0] 48 (0, 0)) (kb ac) ae.out (by simp)); replace HK := ak (A0d.trans (kk HK) hk (.inl rfl)); replace HB := ak (hb); replace af := ak (hi); (try clear hb); (try clear hk); (try clear hi); ) | ((with_reducible refine A0f (f := 57) rfl ?_); refine A03 (some 18) rfl rfl Tryd.func57 (by kernel_rfl) rfl #[.pointer (some ⟨g, 0, none⟩), .int .i64 64] rfl km ?_; (with_reducible refine (A0j.calls k g ap aq ar 64 aw false ax ay az w0 _ ?ag ?ah A4.out).mono ?_); (case ag => repeat (first | (with_reducible first | exact af.out | apply A0a.alloc | apply A0a.drewN | apply A0a.drew | apply A0a.A04 | apply A0a.A05 | refine A0a.far ?_ ad.out _) | exact af.out)); (case ah => repeat (first | (with_reducible first | exact HB.out | apply A0o | apply A0h | apply A0g | refine A0c ?_ (A0a.ge af.out) | refine A0c ?_ ao.out) | exact HB.out)); rintro e aN ⟨rfl, hi, hb, hk⟩; refine ⟨_, rfl, ?_⟩; replace ac := ak (A0d.blk hk (g' := aa) (o := .cells #[.int .i64 0, .int .u64 0] 48 (0, 0)) (kb ac) ae.out (by simp)); replace HK := ak (A0d.trans (kk HK) hk (.inl rfl)); replace HB := ak (hb); replace af := ak (hi); (try clear hb); (try clear hk); (try clear hi); have aF := ae.out; have aG := ad.out; obtain ⟨a5, a6⟩ := kc2 ac; obtain ⟨a7, a8⟩ := kf2 ac))
   refine bodyPost_ret (results_ct rfl _ _ aa 48 #[.int .i64 0, .int .u64 0] (0, 0) _ rfl (kb ac) Tryd.underlying48 rfl (by kernel_rfl)) rfl ?_
   exact ⟨kF, (A0a.k af), (A0a.kl HB), (kk HK)⟩
 ·replace c3 := Bool.eq_false_iff.mpr c3; subst c3
  rw [if_neg (show ¬ (false = true) by decide)] at H; simp only [Option.some.injEq, Prod.mk.injEq] at H; obtain ⟨rfl, rfl, rfl, rfl, rfl, rfl⟩ := H
  go_enter Tryd.func43, Tryd.ntmps43
  go_wp2_with (first | ((with_reducible refine A0p (N := 2) rfl ?_); refine bxe 2 #[.int .i64 0, .int .u64 0] 48 (h := ?_); intro aa hg aO hbox hb; replace HB := ak (A0t (A0a.kl HB) hb); have ac := ak (hbox); have av := ak ((by rw [hg]; exact (A0r (w := w) (g := g) (row := none) (kk HK)) : w.heap.size ≤ aa)); have ao := ak ((Nat.le_trans HW0.out (by rw [hg]; exact (A0r (w := w) (g := g) (row := none) (kk HK)) : w.heap.size ≤ aa) : w0.heap.size ≤ aa)); replace HK := ak (A0d.trans (kk HK) (A0d.of_below hb g none) (.inl rfl)); have ad := ak ((by rw [hg]; exact Nat.ne_of_lt (A0a.lt (show A0a w0 _ g al am an from by repeat (first | (with_reducible first | exact af.out | apply A0a.alloc | apply A0a.drewN | apply A0a.drew | apply A0a.A04 | apply A0a.A05) | exact af.out))) : g ≠ aa)); have ae := ak ((by rw [hg]; exact Nat.ne_of_gt (A0a.lt (show A0a w0 _ g al am an from by repeat (first | (with_reducible first | exact af.out | apply A0a.alloc | apply A0a.drewN | apply A0a.drew | apply A0a.A04 | apply A0a.A05) | exact af.out))) : aa ≠ g)); replace af := ak (A0a.below (A0a.k af) hb); clear hb hbox hg) | ((with_reducible refine A0f (f := 57) rfl ?_); refine A03 (some 9) rfl rfl Tryd.func57 (by kernel_rfl) rfl #[.pointer (some ⟨g, 0, none⟩), .int .i64 64] rfl km ?_; (with_reducible refine (A0j.calls k g al am an 64 au false ap aq ar w0 _ ?ag ?ah A2.out).mono ?_); (case ag => repeat (first | (with_reducible first | exact af.out | apply A0a.alloc | apply A0a.drewN | apply A0a.drew | apply A0a.A04 | apply A0a.A05 | refine A0a.far ?_ ad.out _) | exact af.out)); (case ah => repeat (first | (with_reducible first | exact HB.out | apply A0o | apply A0h | apply A0g | refine A0c ?_ (A0a.ge af.out) | refine A0c ?_ ao.out) | exact HB.out)); rintro e aP ⟨rfl, hi, hb, hk⟩; refine ⟨_, rfl, ?_⟩; replace ac := ak (A0d.blk hk (g' := aa) (o := .cells #[.int .i64 0, .int .u64 0] 48 (0, 0)) (kb ac) ae.out (by simp)); replace HK := ak (A0d.trans (kk HK) hk (.inl rfl)); replace HB := ak (hb); replace af := ak (hi); (try clear hb); (try clear hk); (try clear hi); have aH := ae.out; have aI := ad.out; obtain ⟨a9, aA⟩ := kc2 ac; obtain ⟨aB, aC⟩ := kf2 ac))
  refine bodyPost_ret (results_ct rfl _ _ aa 48 #[.int .i64 0, .int .u64 0] (0, 0) _ rfl (kb ac) Tryd.underlying48 rfl (by kernel_rfl)) rfl ?_
  exact ⟨kF, (A0a.k af), (A0a.kl HB), (kk HK)⟩
def A2i.f (k : Nat) (ac : List Int) (ad : Int) (ae : Int) : Option (Int × Int × Option Int × List Int × Int × Int) := (A0j.f k ac ad ae 12).bind fun aa => (if aa.2.1 = true then (if (wrap64 ((wrap64 (aa.1 / 64)) + (wrap64 ((wrap64 (Go.bits .and .u64 aa.1 63)) + 1)))) > 64 then (some (0, 0, some 3, aa.2.2.1, aa.2.2.2.1, aa.2.2.2.2)) else (some (wrap64 (aa.1 / 64), wrap64 ((wrap64 (Go.bits .and .u64 aa.1 63)) + 1), none, aa.2.2.1, aa.2.2.2.1, aa.2.2.2.2))) else (some (0, 0, some 2, aa.2.2.1, aa.2.2.2.1, aa.2.2.2.2)))
theorem A2i.mono : ∀ a0 a1 a2 k, LeO (A2i.f k a0 a1 a2) (A2i.f (k + 1) a0 a1 a2) := by
 intro a0 a1 a2 k
 unfold A2i.f
 repeat' first
   | (with_reducible exact A0j.mono _ _ _ _ _)
   | (with_reducible exact LeO.refl _)
   | (with_reducible exact LeO.none _)
   | (with_reducible refine LeO.ite ?_ ?_)
   | (with_reducible refine LeO.bind ?_ (fun _ => ?_))
   | exact A0j.mono _ _ _ _ _
   | exact LeO.none _
   | refine LeO.ite ?_ ?_
   | refine LeO.bind ?_ (fun _ => ?_)
set_option maxHeartbeats 8000000 in
set_option maxRecDepth 100000 in
theorem A2i.calls (k : Nat) (g : Nat) (ag : List Int) (ah : Int) (ai : Int) (r1 : Int) (r2 : Int) (r3 : Option Int) (r4 : List Int) (r5 : Int) (r6 : Int) (w0 w : World) (hI : A0a w0 w g ag ah ai) (hB : Below w0.heap.size w0 w) (h : A2i.f k ag ah ai = some (r1, r2, r3, r4, r5, r6)) :
  Calls Tryd.prog 60 #[.pointer (some ⟨g, 0, none⟩)] w fun e w' => e = .returned (.tuple #[.int .i64 r1, .int .i64 r2, errW r3]) ∧ A0a w0 w' g r4 r5 r6 ∧ Below w0.heap.size w0 w' ∧ A0d w w' g none := by
 have hu27 := Tryd.underlying27; have hu54 := Tryd.underlying54; have af := ak hI; have HK := ak (A0d.refl w g none); have HL := ak hB.size; clear hI; have HW0 := ak hB.size; have HB := ak hB; clear hB; have H : ((A0j.f k ag ah ai 12).bind fun aa => (if aa.2.1 = true then (if (wrap64 ((wrap64 (aa.1 / 64)) + (wrap64 ((wrap64 (Go.bits .and .u64 aa.1 63)) + 1)))) > 64 then (some (0, 0, some 3, aa.2.2.1, aa.2.2.2.1, aa.2.2.2.2)) else (some (wrap64 (aa.1 / 64), wrap64 ((wrap64 (Go.bits .and .u64 aa.1 63)) + 1), none, aa.2.2.1, aa.2.2.2.1, aa.2.2.2.2))) else (some (0, 0, some 2, aa.2.2.1, aa.2.2.2.1, aa.2.2.2.2)))) = some (r1, r2, r3, r4, r5, r6) := h; clear h; replace H := bkH H; obtain ⟨⟨ac, an, aj, al, am⟩, A2, H⟩ := H; (try dsimp only at H)
 by_cases c3 : an = true
 ·subst c3
  rw [if_pos rfl] at H
  by_cases c4 : (wrap64 ((wrap64 (ac / 64)) + (wrap64 ((wrap64 (Go.bits .and .u64 ac 63)) + 1)))) > 64
  ·rw [if_pos c4] at H; have ao : decide (64 < (wrap64 ((wrap64 (ac / 64)) + (wrap64 ((wrap64 (Go.bits .and .u64 ac 63)) + 1))))) = true := decide_eq_true c4; clear c4; simp only [Option.some.injEq, Prod.mk.injEq] at H; obtain ⟨rfl, rfl, rfl, rfl, rfl, rfl⟩ := H
   go_enter Tryd.func60, Tryd.ntmps60
   go_wp2_with (first | ((with_reducible refine A0f (f := 57) rfl ?_); refine A03 (some 11) rfl rfl Tryd.func57 (by kernel_rfl) rfl #[.pointer (some ⟨g, 0, none⟩), .int .i64 12] rfl km ?_; (with_reducible refine (A0j.calls k g ag ah ai 12 ac true aj al am w0 _ ?ad ?ae A2.out).mono ?_); (case ad => repeat (first | (with_reducible first | exact af.out | apply A0a.alloc | apply A0a.drewN | apply A0a.drew | apply A0a.A04 | apply A0a.A05) | exact af.out)); (case ae => repeat (first | (with_reducible first | exact HB.out | apply A0o | apply A0h | apply A0g | refine A0c ?_ (A0a.ge af.out)) | exact HB.out)); rintro e w5 ⟨rfl, hi, hb, hk⟩; refine ⟨_, rfl, ?_⟩; replace HK := ak (A0d.trans (kk HK) hk (.inl rfl)); replace HB := ak (hb); replace af := ak (hi); (try clear hb); (try clear hk); (try clear hi); ))
   go_ret3
   exact ⟨kF, (A0a.k af), (A0a.kl HB), (kk HK)⟩
  ·rw [if_neg c4] at H; have ao : decide (64 < (wrap64 ((wrap64 (ac / 64)) + (wrap64 ((wrap64 (Go.bits .and .u64 ac 63)) + 1))))) = false := decide_eq_false c4; clear c4; simp only [Option.some.injEq, Prod.mk.injEq] at H; obtain ⟨rfl, rfl, rfl, rfl, rfl, rfl⟩ := H
   go_enter Tryd.func60, Tryd.ntmps60
   go_wp2_with (first | ((with_reducible refine A0f (f := 57) rfl ?_); refine A03 (some 11) rfl rfl Tryd.func57 (by kernel_rfl) rfl #[.pointer (some ⟨g, 0, none⟩), .int .i64 12] rfl km ?_; (with_reducible refine (A0j.calls k g ag ah ai 12 ac true aj al am w0 _ ?ad ?ae A2.out).mono ?_); (case ad => repeat (first | (with_reducible first | exact af.out | apply A0a.alloc | apply A0a.drewN | apply A0a.drew | apply A0a.A04 | apply A0a.A05) | exact af.out)); (case ae => repeat (first | (with_reducible first | exact HB.out | apply A0o | apply A0h | apply A0g | refine A0c ?_ (A0a.ge af.out)) | exact HB.out)); rintro e w6 ⟨rfl, hi, hb, hk⟩; refine ⟨_, rfl, ?_⟩; replace HK := ak (A0d.trans (kk HK) hk (.inl rfl)); replace HB := ak (hb); replace af := ak (hi); (try clear hb); (try clear hk); (try clear hi); ))
   go_ret3
   exact ⟨kF, (A0a.k af), (A0a.kl HB), (kk HK)⟩
 ·replace c3 := Bool.eq_false_iff.mpr c3; subst c3
  rw [if_neg (show ¬ (false = true) by decide)] at H; simp only [Option.some.injEq, Prod.mk.injEq] at H; obtain ⟨rfl, rfl, rfl, rfl, rfl, rfl⟩ := H
  go_enter Tryd.func60, Tryd.ntmps60
  go_wp2_with (first | ((with_reducible refine A0f (f := 57) rfl ?_); refine A03 (some 11) rfl rfl Tryd.func57 (by kernel_rfl) rfl #[.pointer (some ⟨g, 0, none⟩), .int .i64 12] rfl km ?_; (with_reducible refine (A0j.calls k g ag ah ai 12 ac false aj al am w0 _ ?ad ?ae A2.out).mono ?_); (case ad => repeat (first | (with_reducible first | exact af.out | apply A0a.alloc | apply A0a.drewN | apply A0a.drew | apply A0a.A04 | apply A0a.A05) | exact af.out)); (case ae => repeat (first | (with_reducible first | exact HB.out | apply A0o | apply A0h | apply A0g | refine A0c ?_ (A0a.ge af.out)) | exact HB.out)); rintro e w7 ⟨rfl, hi, hb, hk⟩; refine ⟨_, rfl, ?_⟩; replace HK := ak (A0d.trans (kk HK) hk (.inl rfl)); replace HB := ak (hb); replace af := ak (hi); (try clear hb); (try clear hk); (try clear hi); ))
  go_ret3
  exact ⟨kF, (A0a.k af), (A0a.kl HB), (kk HK)⟩
def A0z.j0 : Nat → Int → Bool → List Int → Int → Int → Option (Bool × List Int × Int × Int)
 | 0, _, _, _, _, _ => none
 | k + 1, x1, ai, ad, ae, aa => if ai = true then (some (false, ad, ae, aa)) else (if x1 > aa then ((A1r.f ad ae aa aa).bind fun ac => (if 0 ≤ (wrap64 (Int.tdiv (wrap64 (x1 - aa)) 8)) then (if (wrap64 (Int.tdiv (wrap64 (x1 - aa)) 8)) ≤ (ac.1.length : Int) then ((A0v.f k (ac.1.drop ((wrap64 (Int.tdiv (wrap64 (x1 - aa)) 8)) : Int).toNat) ac.2.1 ac.2.2).bind fun af => ((A1r.f af.1 af.2.1 af.2.2 (Int.tmod (wrap64 (x1 - aa)) 8)).bind fun ag => (some (true, ag.1, ag.2.1, ag.2.2)))) else (none)) else (none))) else ((A1r.f ad ae aa x1).bind fun ah => (some (true, ah.1, ah.2.1, ah.2.2))))
def A0z.f (k : Nat) (ac : List Int) (ad : Int) (ae : Int) (a1 : Int) : Option (Bool × List Int × Int × Int) := if a1 < 0 then (A0z.j0 k a1 true ac ad ae) else ((A16.f ac ad ae).bind fun aa => (A0z.j0 k a1 (decide (a1 > aa.1)) aa.2.1 aa.2.2.1 aa.2.2.2))
theorem A0z.A3f : ∀ k, (∀ y0 y1 y2 y3 y4, LeO (A0z.j0 k y0 y1 y2 y3 y4) (A0z.j0 (k + 1) y0 y1 y2 y3 y4))
 | 0 => fun _ _ _ _ _ r h => by simp [A0z.j0] at h
 | k + 1 => by
  have ih0 := A0z.A3f k <;> intros <;> (first | unfold A0z.j0) <;> (
   repeat' first
   | (with_reducible exact ih0 _ _ _ _ _)
   | (with_reducible exact A0v.mono _ _ _ _)
   | (with_reducible exact LeO.refl _)
   | (with_reducible exact LeO.none _)
   | (with_reducible refine LeO.ite ?_ ?_)
   | (with_reducible refine LeO.bind ?_ (fun _ => ?_))
   | exact ih0 _ _ _ _ _
   | exact A0v.mono _ _ _ _
   | exact LeO.none _
   | refine LeO.ite ?_ ?_
   | refine LeO.bind ?_ (fun _ => ?_))
theorem A0z.mono : ∀ a0 a1 a2 a3 k, LeO (A0z.f k a0 a1 a2 a3) (A0z.f (k + 1) a0 a1 a2 a3) := by
 intro a0 a1 a2 a3 k
 have ih0 := A0z.A3f k
 unfold A0z.f
 repeat' first
   | (with_reducible exact ih0 _ _ _ _ _)
   | (with_reducible exact A0v.mono _ _ _ _)
   | (with_reducible exact LeO.refl _)
   | (with_reducible exact LeO.none _)
   | (with_reducible refine LeO.ite ?_ ?_)
   | (with_reducible refine LeO.bind ?_ (fun _ => ?_))
   | exact ih0 _ _ _ _ _
   | exact A0v.mono _ _ _ _
   | exact LeO.none _
   | refine LeO.ite ?_ ?_
   | refine LeO.bind ?_ (fun _ => ?_)
set_option maxHeartbeats 8000000 in
set_option maxRecDepth 100000 in
theorem A0z.calls (k : Nat) (g : Nat) (an : List Int) (ao : Int) (ap : Int) (a1 : Int) (r1 : Bool) (r2 : List Int) (r3 : Int) (r4 : Int) (w0 w : World) (hI : A0a w0 w g an ao ap) (hB : Below w0.heap.size w0 w) (h : A0z.f k an ao ap a1 = some (r1, r2, r3, r4)) :
  Calls Tryd.prog 59 #[.pointer (some ⟨g, 0, none⟩), .int .i64 a1] w fun e w' => e = .returned (.bool r1) ∧ A0a w0 w' g r2 r3 r4 ∧ Below w0.heap.size w0 w' ∧ A0d w w' g none := by
 have ac := ak hI; have HK := ak (A0d.refl w g none); have HL := ak hB.size; clear hI; have HW0 := ak hB.size; have HB := ak hB; clear hB; have H : (if a1 < 0 then (A0z.j0 k a1 true an ao ap) else ((A16.f an ao ap).bind fun al => (A0z.j0 k a1 (decide (a1 > al.1)) al.2.1 al.2.2.1 al.2.2.2))) = some (r1, r2, r3, r4) := h; clear h; have aW := ak H; clear H
 go_enter Tryd.func59, Tryd.ntmps59
 go_upto_region 1 with (fail)
 go_cut [12] (fun bn wc => ∃ (kq : Nat) (am : Bool) (ad : List Int) (ae : Int) (aa : Int), bn = .bool am ∧ A0e (A0z.j0 kq a1 am ad ae aa = some (r1, r2, r3, r4)) ∧ A0e (kq ≤ k) ∧ A0e (A0a w0 wc g ad ae aa) ∧ A0e (A0d w wc g none) ∧ A0e (Below w0.heap.size w0 wc))
 case first =>
  have H := aW.out; clear aW
  by_cases c4 : a1 < 0
  ·rw [if_pos c4] at H; have aq : decide (a1 < 0) = true := decide_eq_true c4; clear c4
   (first | rw [aq] | (simp only [A2w, A3k]; rw [aq]) | skip)
   have H' := ak H; clear H
   go_wp2
   go_meet
   case rel => exact ⟨_, (true), (an), (ao), (ap), kE, H', ⟨by first | omega | exact Nat.le_refl _⟩, ⟨(A0a.k ac)⟩, ⟨(kk HK)⟩, ⟨(A0a.kl HB)⟩⟩
  ·rw [if_neg c4] at H; have aq : decide (a1 < 0) = false := decide_eq_false c4; clear c4
   (first | rw [aq] | (simp only [A2w, A3k]; rw [aq]) | skip)
   replace H := bkH H; obtain ⟨⟨az, a2, a3, a4⟩, A5, H⟩ := H; (try dsimp only at H); have H' := ak H; clear H
   go_wp2_with (first | (go_at_call 20; (with_reducible refine (A16.calls g an ao ap az a2 a3 a4 w0 _ ?af ?ag A5.out).mono ?_); (case af => repeat (first | (with_reducible first | exact ac.out | apply A0a.alloc | apply A0a.drewN | apply A0a.drew | apply A0a.A04 | apply A0a.A05) | exact ac.out)); (case ag => repeat (first | (with_reducible first | exact HB.out | apply A0o | apply A0h | apply A0g | refine A0c ?_ (A0a.ge ac.out)) | exact HB.out)); rintro e w6 ⟨rfl, hi, hb, hk⟩; replace HK := ak (A0d.trans (kk HK) hk (.inl rfl)); replace HB := ak (hb); replace ac := ak (hi); (try clear hb); (try clear hk); (try clear hi); ))
   go_meet
   case rel => exact ⟨_, (decide (a1 > az)), (a2), (a3), (a4), kE, H', ⟨by first | omega | exact Nat.le_refl _⟩, ⟨(A0a.k ac)⟩, ⟨(kk HK)⟩, ⟨(A0a.kl HB)⟩⟩
 case rest =>
  clear aW; obtain ⟨kq, am, ad, ae, aa, rfl, HA, bt, ac, HK, HB⟩ := hcut
  cases kq with
  | zero => exact absurd HA.out (by simp [A0z.j0])
  | succ bh =>
   have H := HA.out; clear HA; simp only [A0z.j0] at H
   by_cases c7 : am = true
   ·subst c7
    rw [if_pos rfl] at H; simp only [Option.some.injEq, Prod.mk.injEq] at H; obtain ⟨rfl, rfl, rfl, rfl⟩ := H
    go_wp2
    go_ret
    exact ⟨kF, (A0a.k ac), (A0a.kl HB), (kk HK)⟩
   ·replace c7 := Bool.eq_false_iff.mpr c7; subst c7
    rw [if_neg (show ¬ (false = true) by decide)] at H
    by_cases c8 : a1 > aa
    ·rw [if_pos c8] at H; have aX : decide (aa < a1) = true := decide_eq_true c8; clear c8; replace H := bkH H; obtain ⟨⟨ai, ax, ay⟩, A9, H⟩ := H; (try dsimp only at H); obtain ⟨ah, aj⟩ : ∃ j_ : Int, (wrap64 (Int.tdiv (wrap64 (a1 - aa)) 8)) = j_ := ⟨_, rfl⟩
     replace H : (if 0 ≤ (ah) then (if (ah) ≤ (ai.length : Int) then ((A0v.f bh (ai.drop ((ah) : Int).toNat) ax ay).bind fun ar => ((A1r.f ar.1 ar.2.1 ar.2.2 (Int.tmod (wrap64 (a1 - aa)) 8)).bind fun au => (some (true, au.1, au.2.1, au.2.2)))) else (none)) else (none)) = some (r1, r2, r3, r4) := by first | (rw [aj] at H; exact H) | (simp only [aj] at H ⊢; exact H)
     (try rw [aj] at A9); have aY : (IntKind.i64.wrap (Int.tdiv (wrap64 (a1 - aa)) 8)) = ah := (A2w _).trans aj
     by_cases a5 : 0 ≤ (ah)
     ·rw [if_pos a5] at H; have bi := eq_true a5; have bj := decide_eq_true a5; clear a5
      by_cases a6 : (ah) ≤ (ai.length : Int)
      ·rw [if_pos a6] at H; have bk := eq_true a6; have bm := decide_eq_true a6; clear a6; replace H := bkH H; obtain ⟨⟨a7, a8, a9⟩, bo, H⟩ := H; (try dsimp only at H); replace H := bkH H; obtain ⟨⟨aZ, ba, bb⟩, bp, H⟩ := H; (try dsimp only at H); simp only [Option.some.injEq, Prod.mk.injEq] at H; obtain ⟨rfl, rfl, rfl, rfl⟩ := H; obtain ⟨ASz15_0, cSz15_0, HGz15, hgz15, HSz15_0, HLSz15_0⟩ := ac.out; have aE := cellS71_0 HGz15; have aF := cellS71_1 HGz15; have aG := cellS71_2 HGz15; have aH := A0b HGz15 0; have aI := A0b HGz15 1; have aJ := A0b HGz15 2; clear HGz15 hgz15
       go_wp2_with (first | ((with_reducible refine A0f (f := 67) rfl ?_); refine A03 (some 30) rfl rfl Tryd.func67 (by kernel_rfl) rfl #[.pointer (some ⟨g, 0, none⟩), .int .i64 aa] rfl km ?_; (with_reducible refine (A1r.calls g ad ae aa aa ai ax ay w0 _ ?af ?ag A9.out).mono ?_); (case af => repeat (first | (with_reducible first | exact ac.out | apply A0a.alloc | apply A0a.drewN | apply A0a.drew | apply A0a.A04 | apply A0a.A05) | exact ac.out)); (case ag => repeat (first | (with_reducible first | exact HB.out | apply A0o | apply A0h | apply A0g | refine A0c ?_ (A0a.ge ac.out)) | exact HB.out)); rintro e bu ⟨rfl, hi, hb, hk⟩; refine ⟨_, rfl, ?_⟩; replace HK := ak (A0d.trans (kk HK) hk (.inl rfl)); replace HB := ak (hb); replace ac := ak (hi); (try clear hb); (try clear hk); (try clear hi); obtain ⟨ASz17_0, cSz17_0, HGz17, hgz17, HSz17_0, HLSz17_0⟩ := ac.out; have aK := cellS71_0 HGz17; have aL := cellS71_1 HGz17; have aM := cellS71_2 HGz17; have aN := A0b HGz17 0; have aO := A0b HGz17 1; have aP := A0b HGz17 2; clear HGz17 hgz17; obtain ⟨bq, av, _, aw, _⟩ := info_parts info5; obtain ⟨br, bc, aA, aB⟩ := print_drop_of (P := Tryd.prog) (Value.int .u8) 0 23 5 .i64 Tryd.underlying23 av aw ASz17_0 cSz17_0 ai (ah) kD kD HLSz17_0; have aC := ak (show Kd.C (Kd.int .u8) w0 br (ai.drop ((ah) : Int).toNat).length (ai.drop ((ah) : Int).toNat) from Kd.C_of_reads (h1 := fun _ => rfl) (aA _ (Kd.reads_of_C HSz17_0))); have aD := ak (show (ai.drop ((ah) : Int).toNat).length ≤ (cSz17_0 - (ah).toNat) from aB); clear aA aB av aw) | ((with_reducible refine A0f (f := 39) rfl ?_); refine A03 (some 44) rfl rfl Tryd.func39 (by kernel_rfl) rfl #[.pointer (some ⟨g, 0, none⟩)] rfl km ?_; (with_reducible refine (A0v.calls bh g (ai.drop ((ah) : Int).toNat) ax ay a7 a8 a9 w0 _ ?af ?ag bo.out).mono ?_); (case af => repeat (first | (with_reducible first | exact ac.out | apply A0a.alloc | apply A0a.drewN | apply A0a.drew | apply A0a.A04 | apply A0a.A05 | apply A0a.set_0 (hr_ := aC.out) (hl_ := aD.out) | exact List.length_drop.symm | (simp only [List.length_drop, List.length_take]; done)) | exact ac.out)); (case ag => repeat (first | (with_reducible first | exact HB.out | apply A0o | apply A0h | apply A0g | refine A0c ?_ (A0a.ge ac.out)) | exact HB.out)); rintro e bv ⟨rfl, hi, hb, hk⟩; refine ⟨_, rfl, ?_⟩; replace HK := ak (A0d.trans (kk HK) hk (.inl rfl)); replace HB := ak (hb); replace ac := ak (hi); (try clear hb); (try clear hk); (try clear hi); ) | ((with_reducible refine A0f (f := 67) rfl ?_); refine A03 (some 47) rfl rfl Tryd.func67 (by kernel_rfl) rfl #[.pointer (some ⟨g, 0, none⟩), .int .i64 (Int.tmod (wrap64 (a1 - aa)) 8)] rfl km ?_; (with_reducible refine (A1r.calls g a7 a8 a9 (Int.tmod (wrap64 (a1 - aa)) 8) aZ ba bb w0 _ ?af ?ag bp.out).mono ?_); (case af => repeat (first | (with_reducible first | exact ac.out | apply A0a.alloc | apply A0a.drewN | apply A0a.drew | apply A0a.A04 | apply A0a.A05) | exact ac.out)); (case ag => repeat (first | (with_reducible first | exact HB.out | apply A0o | apply A0h | apply A0g | refine A0c ?_ (A0a.ge ac.out)) | exact HB.out)); rintro e bw ⟨rfl, hi, hb, hk⟩; refine ⟨_, rfl, ?_⟩; replace HK := ak (A0d.trans (kk HK) hk (.inl rfl)); replace HB := ak (hb); replace ac := ak (hi); (try clear hb); (try clear hk); (try clear hi); ))
       go_ret
       exact ⟨by first | rfl | (simp [A0l, A0m] <;> rfl) | (simp only [← aj]; first | rfl | (simp [A0l, A0m] <;> rfl)) | (simp [*, A0l, A0m] <;> rfl), (A0a.k ac), (A0a.kl HB), (kk HK)⟩
      ·rw [if_neg a6] at H
       exact absurd H (by simp)
     ·rw [if_neg a5] at H
      exact absurd H (by simp)
    ·rw [if_neg c8] at H; have aX : decide (aa < a1) = false := decide_eq_false c8; clear c8; replace H := bkH H; obtain ⟨⟨be, bf, bg⟩, bs, H⟩ := H; (try dsimp only at H); simp only [Option.some.injEq, Prod.mk.injEq] at H; obtain ⟨rfl, rfl, rfl, rfl⟩ := H; obtain ⟨ASz22_0, cSz22_0, HGz22, hgz22, HSz22_0, HLSz22_0⟩ := ac.out; have aQ := cellS71_0 HGz22; have aR := cellS71_1 HGz22; have aS := cellS71_2 HGz22; have aT := A0b HGz22 0; have aU := A0b HGz22 1; have aV := A0b HGz22 2; clear HGz22 hgz22
     go_wp2_with (first | ((with_reducible refine A0f (f := 67) rfl ?_); refine A03 (some 47) rfl rfl Tryd.func67 (by kernel_rfl) rfl #[.pointer (some ⟨g, 0, none⟩), .int .i64 a1] rfl km ?_; (with_reducible refine (A1r.calls g ad ae aa a1 be bf bg w0 _ ?af ?ag bs.out).mono ?_); (case af => repeat (first | (with_reducible first | exact ac.out | apply A0a.alloc | apply A0a.drewN | apply A0a.drew | apply A0a.A04 | apply A0a.A05) | exact ac.out)); (case ag => repeat (first | (with_reducible first | exact HB.out | apply A0o | apply A0h | apply A0g | refine A0c ?_ (A0a.ge ac.out)) | exact HB.out)); rintro e bx ⟨rfl, hi, hb, hk⟩; refine ⟨_, rfl, ?_⟩; replace HK := ak (A0d.trans (kk HK) hk (.inl rfl)); replace HB := ak (hb); replace ac := ak (hi); (try clear hb); (try clear hk); (try clear hi); ))
     go_ret
     exact ⟨kF, (A0a.k ac), (A0a.kl HB), (kk HK)⟩
end Go.Proofs.YtiahbcaoikoogabDoor.All
end
