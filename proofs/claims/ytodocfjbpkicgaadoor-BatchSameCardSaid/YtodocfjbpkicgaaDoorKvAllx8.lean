-- copied by a program of the session
import Derived.Test.YtodocfjbpkicgaaDoorKvAllx4
section
namespace Go.Proofs.YtodocfjbpkicgaaDoor.All
open Go.RowKit Go.Proofs.YtodocfjbpkicgaaDoorW.PrintWords Go.Proofs.YtodocfjbpkicgaaDoorW.PrintLast Go.Proofs.YtodocfjbpkicgaaDoorW.PrintMore
attribute [local go_sem] A17 A18 A2o A2p A1y A1z A19 A2a
set_option linter.unusedVariables false
set_option linter.unusedSimpArgs false
def A14.f (k : Nat) (ad : List Int) (ae : Int) (af : Int) : Option (Int × Int × Option Int × List Int × Int × Int) := (A0j.f k ad ae af 64).bind fun aa => (if aa.2.1 = true then ((A0j.f k aa.2.2.1 aa.2.2.2.1 aa.2.2.2.2 64).bind fun ac => (if ac.2.1 = true then (some (wrap64 (aa.1), ac.1, none, ac.2.2.1, ac.2.2.2.1, ac.2.2.2.2)) else (some (0, 0, some 2, ac.2.2.1, ac.2.2.2.1, ac.2.2.2.2)))) else (some (0, 0, some 2, aa.2.2.1, aa.2.2.2.1, aa.2.2.2.2)))
theorem A14.mono : ∀ a0 a1 a2 k, LeO (A14.f k a0 a1 a2) (A14.f (k + 1) a0 a1 a2) := by
 intro a0 a1 a2 k
 unfold A14.f
 repeat' first
   | (with_reducible exact A0j.mono _ _ _ _ _)
   | (with_reducible exact LeO.refl _)
   | (with_reducible exact LeO.none _)
   | (with_reducible refine LeO.ite ?_ ?_)
   | (with_reducible refine LeO.bind ?_ (fun _ => ?_))
   | exact A0j.mono _ _ _ _ _
   | exact LeO.none _
   | refine LeO.ite ?_ ?_
   | refine LeO.bind ?_ (fun _ => ?_)
set_option maxHeartbeats 8000000 in
set_option maxRecDepth 100000 in
theorem A14.calls (k : Nat) (g : Nat) (aj : List Int) (al : Int) (am : Int) (r1 : Int) (r2 : Int) (r3 : Option Int) (r4 : List Int) (r5 : Int) (r6 : Int) (w0 w : World) (hI : A0b w0 w g aj al am) (hB : Below w0.heap.size w0 w) (h : A14.f k aj al am = some (r1, r2, r3, r4, r5, r6)) :
  Calls Tryd.prog 74 #[.pointer (some ⟨g, 0, none⟩)] w fun e w' => e = .returned (.tuple #[.agg #[.int .i64 r1, .int .u64 r2], errW r3]) ∧ A0b w0 w' g r4 r5 r6 ∧ Below w0.heap.size w0 w' ∧ A0f w w' g none := by
 have hu42 := Tryd.underlying42; have hu38 := Tryd.underlying38; have hu94 := Tryd.underlying94; have an := ak hI; have HK := ak (A0f.refl w g none); have HL := ak hB.size; clear hI; have HW0 := ak hB.size; have HB := ak hB; clear hB; have H : ((A0j.f k aj al am 64).bind fun ah => (if ah.2.1 = true then ((A0j.f k ah.2.2.1 ah.2.2.2.1 ah.2.2.2.2 64).bind fun ai => (if ai.2.1 = true then (some (wrap64 (ah.1), ai.1, none, ai.2.2.1, ai.2.2.2.1, ai.2.2.2.2)) else (some (0, 0, some 2, ai.2.2.1, ai.2.2.2.1, ai.2.2.2.2)))) else (some (0, 0, some 2, ah.2.2.1, ah.2.2.2.1, ah.2.2.2.2)))) = some (r1, r2, r3, r4, r5, r6) := h; clear h; replace H := bkH H; obtain ⟨⟨ar, aD, ao, ap, aq⟩, A2, H⟩ := H; (try dsimp only at H)
 by_cases c3 : aD = true
 ·subst c3
  rw [if_pos rfl] at H; replace H := bkH H; obtain ⟨⟨aw, aE, ax, ay, az⟩, A4, H⟩ := H; (try dsimp only at H)
  by_cases c5 : aE = true
  ·subst c5
   rw [if_pos rfl] at H; simp only [Option.some.injEq, Prod.mk.injEq] at H; obtain ⟨rfl, rfl, rfl, rfl, rfl, rfl⟩ := H
   go_enter Tryd.func74, Tryd.ntmps74
   go_wp2_with (first | ((with_reducible refine A0s (N := 2) rfl ?_); refine bxe 2 #[.int .i64 0, .int .u64 0] 42 (h := ?_); intro aa hg w6 hbox hb; replace HB := ak (A0n (A0b.kl HB) hb); have ac := ak (hbox); have au := ak ((by rw [hg]; exact (A0z (w := w) (g := g) (row := none) (kk HK)) : w.heap.size ≤ aa)); have av := ak ((Nat.le_trans HW0.out (by rw [hg]; exact (A0z (w := w) (g := g) (row := none) (kk HK)) : w.heap.size ≤ aa) : w0.heap.size ≤ aa)); replace HK := ak (A0f.trans (kk HK) (A0f.of_below hb g none) (.inl rfl)); have ae := ak ((by rw [hg]; exact Nat.ne_of_lt (A0b.lt (show A0b w0 _ g aj al am from A0b.k an)) : g ≠ aa)); have ad := ak ((by rw [hg]; exact Nat.ne_of_gt (A0b.lt (show A0b w0 _ g aj al am from A0b.k an)) : aa ≠ g)); replace an := ak (A0b.below (A0b.k an) hb); clear hb hbox hg) | ((with_reducible refine A0m (f := 98) rfl ?_); refine A07 (some 9) rfl rfl Tryd.func98 (by kernel_rfl) rfl #[.pointer (some ⟨g, 0, none⟩), .int .i64 64] rfl km ?_; (with_reducible refine (A0j.calls k g aj al am 64 ar true ao ap aq w0 _ ?af ?ag A2.out).mono ?_); (case af => exact A0b.k an); (case ag => exact A0b.kl HB); rintro e w7 ⟨rfl, hi, hb, hk⟩; refine ⟨_, rfl, ?_⟩; replace ac := ak (A0f.blk hk (g' := aa) (o := .cells #[.int .i64 0, .int .u64 0] 42 (0, 0)) (kb ac) ad.out (by simp)); replace HK := ak (A0f.trans (kk HK) hk (.inl rfl)); replace HB := ak (hb); replace an := ak (hi); ) | ((with_reducible refine A0m (f := 98) rfl ?_); refine A07 (some 18) rfl rfl Tryd.func98 (by kernel_rfl) rfl #[.pointer (some ⟨g, 0, none⟩), .int .i64 64] rfl km ?_; (with_reducible refine (A0j.calls k g ao ap aq 64 aw true ax ay az w0 _ ?af ?ag A4.out).mono ?_); (case af => exact A0b.k an); (case ag => exact A0b.kl HB); rintro e w8 ⟨rfl, hi, hb, hk⟩; refine ⟨_, rfl, ?_⟩; replace ac := ak (A0f.blk hk (g' := aa) (o := .cells #[.int .i64 0, .int .u64 0] 42 (0, 0)) (kb ac) ad.out (by simp)); replace HK := ak (A0f.trans (kk HK) hk (.inl rfl)); replace HB := ak (hb); replace an := ak (hi); have aJ := ad.out; have aK := ae.out; obtain ⟨a1, a2⟩ := kc2 ac; obtain ⟨a3, a4⟩ := kf2 ac))
   refine bodyPost_ret (results_ct rfl _ _ aa 42 #[.int .i64 (wrap64 (ar)), .int .u64 aw] (0, 0) _ rfl (kb ac) Tryd.underlying42 rfl (by kernel_rfl)) rfl ?_
   exact ⟨kF, (A0b.k an), (A0b.kl HB), (kk HK)⟩
  ·replace c5 := Bool.eq_false_iff.mpr c5; subst c5
   rw [if_neg (show ¬ (false = true) by decide)] at H; simp only [Option.some.injEq, Prod.mk.injEq] at H; obtain ⟨rfl, rfl, rfl, rfl, rfl, rfl⟩ := H
   go_enter Tryd.func74, Tryd.ntmps74
   go_wp2_with (first | ((with_reducible refine A0s (N := 2) rfl ?_); refine bxe 2 #[.int .i64 0, .int .u64 0] 42 (h := ?_); intro aa hg aL hbox hb; replace HB := ak (A0n (A0b.kl HB) hb); have ac := ak (hbox); have au := ak ((by rw [hg]; exact (A0z (w := w) (g := g) (row := none) (kk HK)) : w.heap.size ≤ aa)); have av := ak ((Nat.le_trans HW0.out (by rw [hg]; exact (A0z (w := w) (g := g) (row := none) (kk HK)) : w.heap.size ≤ aa) : w0.heap.size ≤ aa)); replace HK := ak (A0f.trans (kk HK) (A0f.of_below hb g none) (.inl rfl)); have ae := ak ((by rw [hg]; exact Nat.ne_of_lt (A0b.lt (show A0b w0 _ g aj al am from A0b.k an)) : g ≠ aa)); have ad := ak ((by rw [hg]; exact Nat.ne_of_gt (A0b.lt (show A0b w0 _ g aj al am from A0b.k an)) : aa ≠ g)); replace an := ak (A0b.below (A0b.k an) hb); clear hb hbox hg) | ((with_reducible refine A0m (f := 98) rfl ?_); refine A07 (some 9) rfl rfl Tryd.func98 (by kernel_rfl) rfl #[.pointer (some ⟨g, 0, none⟩), .int .i64 64] rfl km ?_; (with_reducible refine (A0j.calls k g aj al am 64 ar true ao ap aq w0 _ ?af ?ag A2.out).mono ?_); (case af => exact A0b.k an); (case ag => exact A0b.kl HB); rintro e aM ⟨rfl, hi, hb, hk⟩; refine ⟨_, rfl, ?_⟩; replace ac := ak (A0f.blk hk (g' := aa) (o := .cells #[.int .i64 0, .int .u64 0] 42 (0, 0)) (kb ac) ad.out (by simp)); replace HK := ak (A0f.trans (kk HK) hk (.inl rfl)); replace HB := ak (hb); replace an := ak (hi); ) | ((with_reducible refine A0m (f := 98) rfl ?_); refine A07 (some 18) rfl rfl Tryd.func98 (by kernel_rfl) rfl #[.pointer (some ⟨g, 0, none⟩), .int .i64 64] rfl km ?_; (with_reducible refine (A0j.calls k g ao ap aq 64 aw false ax ay az w0 _ ?af ?ag A4.out).mono ?_); (case af => exact A0b.k an); (case ag => exact A0b.kl HB); rintro e aN ⟨rfl, hi, hb, hk⟩; refine ⟨_, rfl, ?_⟩; replace ac := ak (A0f.blk hk (g' := aa) (o := .cells #[.int .i64 0, .int .u64 0] 42 (0, 0)) (kb ac) ad.out (by simp)); replace HK := ak (A0f.trans (kk HK) hk (.inl rfl)); replace HB := ak (hb); replace an := ak (hi); have aF := ad.out; have aG := ae.out; obtain ⟨a5, a6⟩ := kc2 ac; obtain ⟨a7, a8⟩ := kf2 ac))
   refine bodyPost_ret (results_ct rfl _ _ aa 42 #[.int .i64 0, .int .u64 0] (0, 0) _ rfl (kb ac) Tryd.underlying42 rfl (by kernel_rfl)) rfl ?_
   exact ⟨kF, (A0b.k an), (A0b.kl HB), (kk HK)⟩
 ·replace c3 := Bool.eq_false_iff.mpr c3; subst c3
  rw [if_neg (show ¬ (false = true) by decide)] at H; simp only [Option.some.injEq, Prod.mk.injEq] at H; obtain ⟨rfl, rfl, rfl, rfl, rfl, rfl⟩ := H
  go_enter Tryd.func74, Tryd.ntmps74
  go_wp2_with (first | ((with_reducible refine A0s (N := 2) rfl ?_); refine bxe 2 #[.int .i64 0, .int .u64 0] 42 (h := ?_); intro aa hg aO hbox hb; replace HB := ak (A0n (A0b.kl HB) hb); have ac := ak (hbox); have au := ak ((by rw [hg]; exact (A0z (w := w) (g := g) (row := none) (kk HK)) : w.heap.size ≤ aa)); have av := ak ((Nat.le_trans HW0.out (by rw [hg]; exact (A0z (w := w) (g := g) (row := none) (kk HK)) : w.heap.size ≤ aa) : w0.heap.size ≤ aa)); replace HK := ak (A0f.trans (kk HK) (A0f.of_below hb g none) (.inl rfl)); have ae := ak ((by rw [hg]; exact Nat.ne_of_lt (A0b.lt (show A0b w0 _ g aj al am from A0b.k an)) : g ≠ aa)); have ad := ak ((by rw [hg]; exact Nat.ne_of_gt (A0b.lt (show A0b w0 _ g aj al am from A0b.k an)) : aa ≠ g)); replace an := ak (A0b.below (A0b.k an) hb); clear hb hbox hg) | ((with_reducible refine A0m (f := 98) rfl ?_); refine A07 (some 9) rfl rfl Tryd.func98 (by kernel_rfl) rfl #[.pointer (some ⟨g, 0, none⟩), .int .i64 64] rfl km ?_; (with_reducible refine (A0j.calls k g aj al am 64 ar false ao ap aq w0 _ ?af ?ag A2.out).mono ?_); (case af => exact A0b.k an); (case ag => exact A0b.kl HB); rintro e aP ⟨rfl, hi, hb, hk⟩; refine ⟨_, rfl, ?_⟩; replace ac := ak (A0f.blk hk (g' := aa) (o := .cells #[.int .i64 0, .int .u64 0] 42 (0, 0)) (kb ac) ad.out (by simp)); replace HK := ak (A0f.trans (kk HK) hk (.inl rfl)); replace HB := ak (hb); replace an := ak (hi); have aH := ad.out; have aI := ae.out; obtain ⟨a9, aA⟩ := kc2 ac; obtain ⟨aB, aC⟩ := kf2 ac))
  refine bodyPost_ret (results_ct rfl _ _ aa 42 #[.int .i64 0, .int .u64 0] (0, 0) _ rfl (kb ac) Tryd.underlying42 rfl (by kernel_rfl)) rfl ?_
  exact ⟨kF, (A0b.k an), (A0b.kl HB), (kk HK)⟩
def A1x.f (k : Nat) (ac : List Int) (ad : Int) (ae : Int) : Option (Int × Int × Option Int × List Int × Int × Int) := (A0j.f k ac ad ae 12).bind fun aa => (if aa.2.1 = true then (if (wrap64 ((wrap64 (aa.1 / 64)) + (wrap64 ((wrap64 (Go.bits .and .u64 aa.1 63)) + 1)))) > 64 then (some (0, 0, some 3, aa.2.2.1, aa.2.2.2.1, aa.2.2.2.2)) else (some (wrap64 (aa.1 / 64), wrap64 ((wrap64 (Go.bits .and .u64 aa.1 63)) + 1), none, aa.2.2.1, aa.2.2.2.1, aa.2.2.2.2))) else (some (0, 0, some 2, aa.2.2.1, aa.2.2.2.1, aa.2.2.2.2)))
theorem A1x.mono : ∀ a0 a1 a2 k, LeO (A1x.f k a0 a1 a2) (A1x.f (k + 1) a0 a1 a2) := by
 intro a0 a1 a2 k
 unfold A1x.f
 repeat' first
   | (with_reducible exact A0j.mono _ _ _ _ _)
   | (with_reducible exact LeO.refl _)
   | (with_reducible exact LeO.none _)
   | (with_reducible refine LeO.ite ?_ ?_)
   | (with_reducible refine LeO.bind ?_ (fun _ => ?_))
   | exact A0j.mono _ _ _ _ _
   | exact LeO.none _
   | refine LeO.ite ?_ ?_
   | refine LeO.bind ?_ (fun _ => ?_)
set_option maxHeartbeats 8000000 in
set_option maxRecDepth 100000 in
theorem A1x.calls (k : Nat) (g : Nat) (af : List Int) (ag : Int) (ah : Int) (r1 : Int) (r2 : Int) (r3 : Option Int) (r4 : List Int) (r5 : Int) (r6 : Int) (w0 w : World) (hI : A0b w0 w g af ag ah) (hB : Below w0.heap.size w0 w) (h : A1x.f k af ag ah = some (r1, r2, r3, r4, r5, r6)) :
  Calls Tryd.prog 103 #[.pointer (some ⟨g, 0, none⟩)] w fun e w' => e = .returned (.tuple #[.int .i64 r1, .int .i64 r2, errW r3]) ∧ A0b w0 w' g r4 r5 r6 ∧ Below w0.heap.size w0 w' ∧ A0f w w' g none := by
 have hu38 := Tryd.underlying38; have hu94 := Tryd.underlying94; have ai := ak hI; have HK := ak (A0f.refl w g none); have HL := ak hB.size; clear hI; have HW0 := ak hB.size; have HB := ak hB; clear hB; have H : ((A0j.f k af ag ah 12).bind fun aa => (if aa.2.1 = true then (if (wrap64 ((wrap64 (aa.1 / 64)) + (wrap64 ((wrap64 (Go.bits .and .u64 aa.1 63)) + 1)))) > 64 then (some (0, 0, some 3, aa.2.2.1, aa.2.2.2.1, aa.2.2.2.2)) else (some (wrap64 (aa.1 / 64), wrap64 ((wrap64 (Go.bits .and .u64 aa.1 63)) + 1), none, aa.2.2.1, aa.2.2.2.1, aa.2.2.2.2))) else (some (0, 0, some 2, aa.2.2.1, aa.2.2.2.1, aa.2.2.2.2)))) = some (r1, r2, r3, r4, r5, r6) := h; clear h; replace H := bkH H; obtain ⟨⟨ac, an, aj, al, am⟩, A2, H⟩ := H; (try dsimp only at H)
 by_cases c3 : an = true
 ·subst c3
  rw [if_pos rfl] at H
  by_cases c4 : (wrap64 ((wrap64 (ac / 64)) + (wrap64 ((wrap64 (Go.bits .and .u64 ac 63)) + 1)))) > 64
  ·rw [if_pos c4] at H; have ao : decide (64 < (wrap64 ((wrap64 (ac / 64)) + (wrap64 ((wrap64 (Go.bits .and .u64 ac 63)) + 1))))) = true := decide_eq_true c4; clear c4; simp only [Option.some.injEq, Prod.mk.injEq] at H; obtain ⟨rfl, rfl, rfl, rfl, rfl, rfl⟩ := H
   go_enter Tryd.func103, Tryd.ntmps103
   go_wp2_with (first | ((with_reducible refine A0m (f := 98) rfl ?_); refine A07 (some 11) rfl rfl Tryd.func98 (by kernel_rfl) rfl #[.pointer (some ⟨g, 0, none⟩), .int .i64 12] rfl km ?_; (with_reducible refine (A0j.calls k g af ag ah 12 ac true aj al am w0 _ ?ad ?ae A2.out).mono ?_); (case ad => exact A0b.k ai); (case ae => exact A0b.kl HB); rintro e w5 ⟨rfl, hi, hb, hk⟩; refine ⟨_, rfl, ?_⟩; replace HK := ak (A0f.trans (kk HK) hk (.inl rfl)); replace HB := ak (hb); replace ai := ak (hi); ))
   go_ret3
   exact ⟨kF, (A0b.k ai), (A0b.kl HB), (kk HK)⟩
  ·rw [if_neg c4] at H; have ao : decide (64 < (wrap64 ((wrap64 (ac / 64)) + (wrap64 ((wrap64 (Go.bits .and .u64 ac 63)) + 1))))) = false := decide_eq_false c4; clear c4; simp only [Option.some.injEq, Prod.mk.injEq] at H; obtain ⟨rfl, rfl, rfl, rfl, rfl, rfl⟩ := H
   go_enter Tryd.func103, Tryd.ntmps103
   go_wp2_with (first | ((with_reducible refine A0m (f := 98) rfl ?_); refine A07 (some 11) rfl rfl Tryd.func98 (by kernel_rfl) rfl #[.pointer (some ⟨g, 0, none⟩), .int .i64 12] rfl km ?_; (with_reducible refine (A0j.calls k g af ag ah 12 ac true aj al am w0 _ ?ad ?ae A2.out).mono ?_); (case ad => exact A0b.k ai); (case ae => exact A0b.kl HB); rintro e w6 ⟨rfl, hi, hb, hk⟩; refine ⟨_, rfl, ?_⟩; replace HK := ak (A0f.trans (kk HK) hk (.inl rfl)); replace HB := ak (hb); replace ai := ak (hi); ))
   go_ret3
   exact ⟨kF, (A0b.k ai), (A0b.kl HB), (kk HK)⟩
 ·replace c3 := Bool.eq_false_iff.mpr c3; subst c3
  rw [if_neg (show ¬ (false = true) by decide)] at H; simp only [Option.some.injEq, Prod.mk.injEq] at H; obtain ⟨rfl, rfl, rfl, rfl, rfl, rfl⟩ := H
  go_enter Tryd.func103, Tryd.ntmps103
  go_wp2_with (first | ((with_reducible refine A0m (f := 98) rfl ?_); refine A07 (some 11) rfl rfl Tryd.func98 (by kernel_rfl) rfl #[.pointer (some ⟨g, 0, none⟩), .int .i64 12] rfl km ?_; (with_reducible refine (A0j.calls k g af ag ah 12 ac false aj al am w0 _ ?ad ?ae A2.out).mono ?_); (case ad => exact A0b.k ai); (case ae => exact A0b.kl HB); rintro e w7 ⟨rfl, hi, hb, hk⟩; refine ⟨_, rfl, ?_⟩; replace HK := ak (A0f.trans (kk HK) hk (.inl rfl)); replace HB := ak (hb); replace ai := ak (hi); ))
  go_ret3
  exact ⟨kF, (A0b.k ai), (A0b.kl HB), (kk HK)⟩
def A0x.j0 : Nat → Int → Bool → List Int → Int → Int → Option (Bool × List Int × Int × Int)
 | 0, _, _, _, _, _ => none
 | k + 1, x1, ai, ad, ae, aa => if ai = true then (some (false, ad, ae, aa)) else (if x1 > aa then ((A1n.f ad ae aa aa).bind fun ac => (if 0 ≤ (wrap64 (Int.tdiv (wrap64 (x1 - aa)) 8)) then (if (wrap64 (Int.tdiv (wrap64 (x1 - aa)) 8)) ≤ (ac.1.length : Int) then ((A0u.f k (ac.1.drop ((wrap64 (Int.tdiv (wrap64 (x1 - aa)) 8)) : Int).toNat) ac.2.1 ac.2.2).bind fun af => ((A1n.f af.1 af.2.1 af.2.2 (Int.tmod (wrap64 (x1 - aa)) 8)).bind fun ag => (some (true, ag.1, ag.2.1, ag.2.2)))) else (none)) else (none))) else ((A1n.f ad ae aa x1).bind fun ah => (some (true, ah.1, ah.2.1, ah.2.2))))
def A0x.f (k : Nat) (ac : List Int) (ad : Int) (ae : Int) (a1 : Int) : Option (Bool × List Int × Int × Int) := if a1 < 0 then (A0x.j0 k a1 true ac ad ae) else ((A1e.f ac ad ae).bind fun aa => (A0x.j0 k a1 (decide (a1 > aa.1)) aa.2.1 aa.2.2.1 aa.2.2.2))
theorem A0x.A2w : ∀ k, (∀ y0 y1 y2 y3 y4, LeO (A0x.j0 k y0 y1 y2 y3 y4) (A0x.j0 (k + 1) y0 y1 y2 y3 y4))
 | 0 => fun _ _ _ _ _ r h => by simp [A0x.j0] at h
 | k + 1 => by
  have ih0 := A0x.A2w k <;> intros <;> (first | unfold A0x.j0) <;> (
   repeat' first
   | (with_reducible exact ih0 _ _ _ _ _)
   | (with_reducible exact A0u.mono _ _ _ _)
   | (with_reducible exact LeO.refl _)
   | (with_reducible exact LeO.none _)
   | (with_reducible refine LeO.ite ?_ ?_)
   | (with_reducible refine LeO.bind ?_ (fun _ => ?_))
   | exact ih0 _ _ _ _ _
   | exact A0u.mono _ _ _ _
   | exact LeO.none _
   | refine LeO.ite ?_ ?_
   | refine LeO.bind ?_ (fun _ => ?_))
theorem A0x.mono : ∀ a0 a1 a2 a3 k, LeO (A0x.f k a0 a1 a2 a3) (A0x.f (k + 1) a0 a1 a2 a3) := by
 intro a0 a1 a2 a3 k
 have ih0 := A0x.A2w k
 unfold A0x.f
 repeat' first
   | (with_reducible exact ih0 _ _ _ _ _)
   | (with_reducible exact A0u.mono _ _ _ _)
   | (with_reducible exact LeO.refl _)
   | (with_reducible exact LeO.none _)
   | (with_reducible refine LeO.ite ?_ ?_)
   | (with_reducible refine LeO.bind ?_ (fun _ => ?_))
   | exact ih0 _ _ _ _ _
   | exact A0u.mono _ _ _ _
   | exact LeO.none _
   | refine LeO.ite ?_ ?_
   | refine LeO.bind ?_ (fun _ => ?_)
set_option maxHeartbeats 8000000 in
set_option maxRecDepth 100000 in
theorem A0x.calls (k : Nat) (g : Nat) (an : List Int) (ao : Int) (ap : Int) (a1 : Int) (r1 : Bool) (r2 : List Int) (r3 : Int) (r4 : Int) (w0 w : World) (hI : A0b w0 w g an ao ap) (hB : Below w0.heap.size w0 w) (h : A0x.f k an ao ap a1 = some (r1, r2, r3, r4)) :
  Calls Tryd.prog 101 #[.pointer (some ⟨g, 0, none⟩), .int .i64 a1] w fun e w' => e = .returned (.bool r1) ∧ A0b w0 w' g r2 r3 r4 ∧ Below w0.heap.size w0 w' ∧ A0f w w' g none := by
 have ah := ak hI; have HK := ak (A0f.refl w g none); have HL := ak hB.size; clear hI; have HW0 := ak hB.size; have HB := ak hB; clear hB; have H : (if a1 < 0 then (A0x.j0 k a1 true an ao ap) else ((A1e.f an ao ap).bind fun al => (A0x.j0 k a1 (decide (a1 > al.1)) al.2.1 al.2.2.1 al.2.2.2))) = some (r1, r2, r3, r4) := h; clear h; have aW := ak H; clear H
 go_enter Tryd.func101, Tryd.ntmps101
 go_upto_region 1 with (fail)
 go_cut [12] (fun bn wc => ∃ (kq : Nat) (am : Bool) (ac : List Int) (ad : Int) (aa : Int), bn = .bool am ∧ A0g (A0x.j0 kq a1 am ac ad aa = some (r1, r2, r3, r4)) ∧ A0g (kq ≤ k) ∧ A0g (A0b w0 wc g ac ad aa) ∧ A0g (A0f w wc g none) ∧ A0g (Below w0.heap.size w0 wc))
 case first =>
  have H := aW.out; clear aW
  by_cases c4 : a1 < 0
  ·rw [if_pos c4] at H; have aq : decide (a1 < 0) = true := decide_eq_true c4; clear c4
   (first | rw [aq] | (simp only [A2b, A25]; rw [aq]) | skip)
   have H' := ak H; clear H
   go_wp2
   go_meet
   case rel => exact ⟨_, (true), (an), (ao), (ap), kE, H', ⟨by first | omega | exact Nat.le_refl _⟩, ⟨(A0b.k ah)⟩, ⟨(kk HK)⟩, ⟨(A0b.kl HB)⟩⟩
  ·rw [if_neg c4] at H; have aq : decide (a1 < 0) = false := decide_eq_false c4; clear c4
   (first | rw [aq] | (simp only [A2b, A25]; rw [aq]) | skip)
   replace H := bkH H; obtain ⟨⟨az, a2, a3, a4⟩, A5, H⟩ := H; (try dsimp only at H); have H' := ak H; clear H
   go_wp2_with (first | (go_at_call 19; (with_reducible refine (A1e.calls g an ao ap az a2 a3 a4 w0 _ ?ae ?af A5.out).mono ?_); (case ae => exact A0b.k ah); (case af => exact A0b.kl HB); rintro e w6 ⟨rfl, hi, hb, hk⟩; replace HK := ak (A0f.trans (kk HK) hk (.inl rfl)); replace HB := ak (hb); replace ah := ak (hi); ))
   go_meet
   case rel => exact ⟨_, (decide (a1 > az)), (a2), (a3), (a4), kE, H', ⟨by first | omega | exact Nat.le_refl _⟩, ⟨(A0b.k ah)⟩, ⟨(kk HK)⟩, ⟨(A0b.kl HB)⟩⟩
 case rest =>
  clear aW; obtain ⟨kq, am, ac, ad, aa, rfl, HA, bt, ah, HK, HB⟩ := hcut
  cases kq with
  | zero => exact absurd HA.out (by simp [A0x.j0])
  | succ bh =>
   have H := HA.out; clear HA; simp only [A0x.j0] at H
   by_cases c7 : am = true
   ·subst c7
    rw [if_pos rfl] at H; simp only [Option.some.injEq, Prod.mk.injEq] at H; obtain ⟨rfl, rfl, rfl, rfl⟩ := H
    go_wp2
    go_ret
    exact ⟨kF, (A0b.k ah), (A0b.kl HB), (kk HK)⟩
   ·replace c7 := Bool.eq_false_iff.mpr c7; subst c7
    rw [if_neg (show ¬ (false = true) by decide)] at H
    by_cases c8 : a1 > aa
    ·rw [if_pos c8] at H; have aX : decide (aa < a1) = true := decide_eq_true c8; clear c8; replace H := bkH H; obtain ⟨⟨ai, ax, ay⟩, A9, H⟩ := H; (try dsimp only at H); obtain ⟨ag, aj⟩ : ∃ j_ : Int, (wrap64 (Int.tdiv (wrap64 (a1 - aa)) 8)) = j_ := ⟨_, rfl⟩
     replace H : (if 0 ≤ (ag) then (if (ag) ≤ (ai.length : Int) then ((A0u.f bh (ai.drop ((ag) : Int).toNat) ax ay).bind fun ar => ((A1n.f ar.1 ar.2.1 ar.2.2 (Int.tmod (wrap64 (a1 - aa)) 8)).bind fun au => (some (true, au.1, au.2.1, au.2.2)))) else (none)) else (none)) = some (r1, r2, r3, r4) := by first | (rw [aj] at H; exact H) | (simp only [aj] at H ⊢; exact H)
     (try rw [aj] at A9); have aY : (IntKind.i64.wrap (Int.tdiv (wrap64 (a1 - aa)) 8)) = ag := (A2b _).trans aj
     by_cases a5 : 0 ≤ (ag)
     ·rw [if_pos a5] at H; have bi := eq_true a5; have bj := decide_eq_true a5; clear a5
      by_cases a6 : (ag) ≤ (ai.length : Int)
      ·rw [if_pos a6] at H; have bk := eq_true a6; have bm := decide_eq_true a6; clear a6; replace H := bkH H; obtain ⟨⟨a7, a8, a9⟩, bo, H⟩ := H; (try dsimp only at H); replace H := bkH H; obtain ⟨⟨aZ, ba, bb⟩, bp, H⟩ := H; (try dsimp only at H); simp only [Option.some.injEq, Prod.mk.injEq] at H; obtain ⟨rfl, rfl, rfl, rfl⟩ := H; obtain ⟨ASz15_0, cSz15_0, HGz15, hgz15, HSz15_0, HLSz15_0⟩ := ah.out; have aE := cellS93_0 HGz15; have aF := cellS93_1 HGz15; have aG := cellS93_2 HGz15; have aH := A0c HGz15 0; have aI := A0c HGz15 1; have aJ := A0c HGz15 2; clear HGz15 hgz15
       go_wp2_with (first | ((with_reducible refine A0m (f := 116) rfl ?_); refine A07 (some 30) rfl rfl Tryd.func116 (by kernel_rfl) rfl #[.pointer (some ⟨g, 0, none⟩), .int .i64 aa] rfl km ?_; (with_reducible refine (A1n.calls g ac ad aa aa ai ax ay w0 _ ?ae ?af A9.out).mono ?_); (case ae => exact A0b.k ah); (case af => exact A0b.kl HB); rintro e bu ⟨rfl, hi, hb, hk⟩; refine ⟨_, rfl, ?_⟩; replace HK := ak (A0f.trans (kk HK) hk (.inl rfl)); replace HB := ak (hb); replace ah := ak (hi); obtain ⟨ASz17_0, cSz17_0, HGz17, hgz17, HSz17_0, HLSz17_0⟩ := ah.out; have aK := cellS93_0 HGz17; have aL := cellS93_1 HGz17; have aM := cellS93_2 HGz17; have aN := A0c HGz17 0; have aO := A0c HGz17 1; have aP := A0c HGz17 2; clear HGz17 hgz17; obtain ⟨bq, av, _, aw, _⟩ := info_parts info5; obtain ⟨br, bc, aA, aB⟩ := print_drop_of (P := Tryd.prog) (Value.int .u8) 0 22 5 .i64 Tryd.underlying22 av aw ASz17_0 cSz17_0 ai (ag) kD kD HLSz17_0; have aC := ak (show Kd.C (Kd.int .u8) w0 br (ai.drop ((ag) : Int).toNat).length (ai.drop ((ag) : Int).toNat) from Kd.C_of_reads (h1 := fun _ => rfl) (aA _ (Kd.reads_of_C HSz17_0))); have aD := ak (show (ai.drop ((ag) : Int).toNat).length ≤ (cSz17_0 - (ag).toNat) from aB); clear aA aB av aw) | ((with_reducible refine A0m (f := 117) rfl ?_); refine A07 (some 44) rfl rfl Tryd.func117 (by kernel_rfl) rfl #[.pointer (some ⟨g, 0, none⟩)] rfl km ?_; (with_reducible refine (A0u.calls bh g (ai.drop ((ag) : Int).toNat) ax ay a7 a8 a9 w0 _ ?ae ?af bo.out).mono ?_); (case ae => repeat (first | (with_reducible first | exact ah.out | apply A0b.alloc | apply A0b.drewN | apply A0b.drew | apply A0b.set_1 | apply A0b.set_2 | apply A0b.set_0 (hr_ := aC.out) (hl_ := aD.out) | exact List.length_drop.symm | (simp only [List.length_drop, List.length_take]; done)) | exact ah.out)); (case af => exact A0b.kl HB); rintro e bv ⟨rfl, hi, hb, hk⟩; refine ⟨_, rfl, ?_⟩; replace HK := ak (A0f.trans (kk HK) hk (.inl rfl)); replace HB := ak (hb); replace ah := ak (hi); ) | ((with_reducible refine A0m (f := 116) rfl ?_); refine A07 (some 47) rfl rfl Tryd.func116 (by kernel_rfl) rfl #[.pointer (some ⟨g, 0, none⟩), .int .i64 (Int.tmod (wrap64 (a1 - aa)) 8)] rfl km ?_; (with_reducible refine (A1n.calls g a7 a8 a9 (Int.tmod (wrap64 (a1 - aa)) 8) aZ ba bb w0 _ ?ae ?af bp.out).mono ?_); (case ae => exact A0b.k ah); (case af => exact A0b.kl HB); rintro e bw ⟨rfl, hi, hb, hk⟩; refine ⟨_, rfl, ?_⟩; replace HK := ak (A0f.trans (kk HK) hk (.inl rfl)); replace HB := ak (hb); replace ah := ak (hi); ))
       go_ret
       exact ⟨by first | rfl | (simp [A0k, A0l] <;> rfl) | (simp only [← aj]; first | rfl | (simp [A0k, A0l] <;> rfl)) | (simp [*, A0k, A0l] <;> rfl), (A0b.k ah), (A0b.kl HB), (kk HK)⟩
      ·rw [if_neg a6] at H
       exact absurd H (by simp)
     ·rw [if_neg a5] at H
      exact absurd H (by simp)
    ·rw [if_neg c8] at H; have aX : decide (aa < a1) = false := decide_eq_false c8; clear c8; replace H := bkH H; obtain ⟨⟨be, bf, bg⟩, bs, H⟩ := H; (try dsimp only at H); simp only [Option.some.injEq, Prod.mk.injEq] at H; obtain ⟨rfl, rfl, rfl, rfl⟩ := H; obtain ⟨ASz22_0, cSz22_0, HGz22, hgz22, HSz22_0, HLSz22_0⟩ := ah.out; have aQ := cellS93_0 HGz22; have aR := cellS93_1 HGz22; have aS := cellS93_2 HGz22; have aT := A0c HGz22 0; have aU := A0c HGz22 1; have aV := A0c HGz22 2; clear HGz22 hgz22
     go_wp2_with (first | ((with_reducible refine A0m (f := 116) rfl ?_); refine A07 (some 47) rfl rfl Tryd.func116 (by kernel_rfl) rfl #[.pointer (some ⟨g, 0, none⟩), .int .i64 a1] rfl km ?_; (with_reducible refine (A1n.calls g ac ad aa a1 be bf bg w0 _ ?ae ?af bs.out).mono ?_); (case ae => exact A0b.k ah); (case af => exact A0b.kl HB); rintro e bx ⟨rfl, hi, hb, hk⟩; refine ⟨_, rfl, ?_⟩; replace HK := ak (A0f.trans (kk HK) hk (.inl rfl)); replace HB := ak (hb); replace ah := ak (hi); ))
     go_ret
     exact ⟨kF, (A0b.k ah), (A0b.kl HB), (kk HK)⟩
end Go.Proofs.YtodocfjbpkicgaaDoor.All
end
