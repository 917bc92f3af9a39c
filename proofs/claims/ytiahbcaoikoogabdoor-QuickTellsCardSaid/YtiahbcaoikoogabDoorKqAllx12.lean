-- copied by a program of the session
import Derived.Test.YtiahbcaoikoogabDoorKqAllx39
section
namespace Go.Proofs.YtiahbcaoikoogabDoor.All
open Go.RowKit Go.Proofs.YtiahbcaoikoogabDoorW.PrintWords Go.Proofs.YtiahbcaoikoogabDoorW.PrintLast Go.Proofs.YtiahbcaoikoogabDoorW.PrintMore
attribute [local go_sem] A2i A2j A2v A2w A14 A15 A2k A2l
set_option linter.unusedVariables false
set_option linter.unusedSimpArgs false
def A1z.f (k : Nat) (a0 : Int) (l1 : List Int) (a2 : Int) : Option (Bool) := (A2t.f k).bind fun ad => (if (l1.length : Int) > 600 then (some ad) else ((A0x.f k a0 l1 a2).bind fun aa => ((A0w.f k a0 l1 a2).bind fun ac => (if ad = true then ((A04.f k aa.1 ac.1).bind fun ae => (if ae = 1 then ((A2d.f aa.2).bind fun af => (some (af == ac.2))) else (none))) else (none)))))
set_option maxHeartbeats 8000000 in
set_option maxRecDepth 100000 in
theorem A1z.calls (k : Nat) (a0 : Int) (A1 : Option Addr) (c1 : Nat) (l1 : List Int) (a2 : Int) (r : Bool) (w : World) (hT : TabOk w) (hr1 : Kd.C (Kd.int .u8) w A1 l1.length l1) (hc1 : l1.length ≤ c1) (h : A1z.f k a0 l1 a2 = some r) :
  Calls Tryd.prog 4 #[.int .i64 a0, .slice A1 l1.length c1, .int .i64 a2] w fun e w' => e = .returned (.bool r) ∧ Below w.heap.size w w' := by
 have HT := ak hT; clear hT; have ay := ak hr1; have az := ak hc1; clear hr1 hc1; have HB := ak (Below.refl w.heap.size w); have H : ((A2t.f k).bind fun ae => (if (l1.length : Int) > 600 then (some ae) else ((A0x.f k a0 l1 a2).bind fun ai => ((A0w.f k a0 l1 a2).bind fun aj => (if ae = true then ((A04.f k ai.1 aj.1).bind fun ah => (if ah = 1 then ((A2d.f ai.2).bind fun al => (some (al == aj.2))) else (none))) else (none)))))) = some r := h; clear h; replace H := bkH H; obtain ⟨ae, A4, H⟩ := H
 by_cases c5 : (l1.length : Int) > 600
 ·rw [if_pos c5] at H; have ar : decide (600 < (l1.length : Int)) = true := decide_eq_true c5; have au : decide (600 < l1.length) = true := decide_eq_true (by omega); clear c5; obtain rfl := Option.some.inj H
  go_enter Tryd.func4, Tryd.ntmps4
  go_wp2_with (first | ((with_reducible refine A0i (f := 13) rfl ?_); refine A09 (some 12) rfl rfl Tryd.func13 (by kernel_rfl) rfl #[] rfl km ?_; (with_reducible refine (A2t.calls k  ae _ ?aa A4.out).mono ?_); (case aa => exact TabOk.below HT.out (kl HB) (Nat.le_refl _)); rintro e w6 ⟨rfl, hb⟩; refine ⟨_, rfl, ?_⟩; replace HB := kH HB hb; (try clear hb); ))
  go_ret
  exact ⟨kF, (kl HB)⟩
 ·rw [if_neg c5] at H; have ar : decide (600 < (l1.length : Int)) = false := decide_eq_false c5; have au : decide (600 < l1.length) = false := decide_eq_false (by omega); clear c5; replace H := bkH H; obtain ⟨⟨am, an⟩, A7, H⟩ := H; (try dsimp only at H); replace H := bkH H; obtain ⟨⟨ao, av⟩, A8, H⟩ := H; (try dsimp only at H)
  by_cases c9 : ae = true
  ·subst c9
   rw [if_pos rfl] at H; replace H := bkH H; obtain ⟨ah, a4, H⟩ := H
   by_cases aq : ah = 1
   ·rw [if_pos aq] at H; obtain ⟨a1, a3⟩ := kqT aq; clear aq; replace H := bkH H; obtain ⟨al, a5, H⟩ := H; obtain rfl := Option.some.inj H
    go_enter Tryd.func4, Tryd.ntmps4
    go_wp2_with (first | ((with_reducible refine A0i (f := 13) rfl ?_); refine A09 (some 12) rfl rfl Tryd.func13 (by kernel_rfl) rfl #[] rfl km ?_; (with_reducible refine (A2t.calls k  true _ ?aa A4.out).mono ?_); (case aa => exact TabOk.below HT.out (kl HB) (Nat.le_refl _)); rintro e aC ⟨rfl, hb⟩; refine ⟨_, rfl, ?_⟩; replace HB := kH HB hb; (try clear hb); ) | ((with_reducible refine A0i (f := 14) rfl ?_); refine A09 (some 21) rfl rfl Tryd.func14 (by kernel_rfl) rfl #[.int .i64 a0, .slice A1 l1.length c1, .int .i64 a2] rfl km ?_; (with_reducible refine (A0x.calls k a0 _ _ l1 a2 am an _ ?aa ?ad ?af A7.out).mono ?_); (case aa => exact TabOk.below HT.out (kl HB) (Nat.le_refl _)); (case ad => repeat (first | exact (Kd.A2g ay.out HB.out) | (with_reducible refine Kd.A1u ?_ _) | (with_reducible refine Kd.A1s ?_ _) | (with_reducible refine Kd.A19 ?_))); (case af => exact az.out); rintro e aD ⟨a6, rfl, ho0, hb⟩; refine ⟨_, rfl, ?_⟩; have ac := ak (Kd.A17 ho0 (A02 (kl HB))); replace HB := kH HB hb; (try clear hb); (try clear ho0); (try simp only [A0o, A0p])) | ((with_reducible refine A0i (f := 15) rfl ?_); refine A09 (some 28) rfl rfl Tryd.func15 (by kernel_rfl) rfl #[.int .i64 a0, .slice A1 l1.length c1, .int .i64 a2] rfl km ?_; (with_reducible refine (A0w.calls k a0 _ _ l1 a2 ao av _ ?aa ?ad A8.out).mono ?_); (case aa => repeat (first | exact (Kd.A2g ay.out HB.out) | (with_reducible refine Kd.A1u ?_ _) | (with_reducible refine Kd.A1s ?_ _) | (with_reducible refine Kd.A19 ?_))); (case ad => exact az.out); rintro e aE ⟨a7, rfl, ho0, hb⟩; refine ⟨_, rfl, ?_⟩; have ag := ak (Kd.A17 (Kd.A3l ho0 (Kd.R_lt (kr ac))) (A02 (kl HB))); replace ac := ak (Kd.A2q (kr ac) (Kd.A3j ho0) hb); replace HB := kH HB hb; (try clear hb); (try clear ho0); obtain ⟨a8, a9, aw⟩ := Kd.A12 ac.out; subst aw; obtain ⟨aA, aB, ax⟩ := Kd.A12 ag.out; subst ax) | (go_at_call 11; (with_reducible refine (A04.calls k _ _ am _ _ ao ah _ ?aa ?ad ?af ?ap a4.out).mono ?_); (case aa => repeat (first | exact (Kd.A1i ac.out).2.2 | (with_reducible refine Kd.A1u ?_ _) | (with_reducible refine Kd.A1s ?_ _) | (with_reducible refine Kd.A19 ?_))); (case ad => exact (Kd.A1i ac.out).2.1); (case af => repeat (first | exact (Kd.A1i ag.out).2.2 | (with_reducible refine Kd.A1u ?_ _) | (with_reducible refine Kd.A1s ?_ _) | (with_reducible refine Kd.A19 ?_))); (case ap => exact (Kd.A1i ag.out).2.1); rintro e w' ⟨rfl, ⟨nd, rfl⟩⟩; have CA12 := fun W => A2d.calls an al W a5.out; try simp only [A0o, A0p] at CA12) | (go_at_call 12; (with_reducible refine (CA12 _).mono ?_); rintro e w' ⟨rfl, ⟨nd, rfl⟩⟩))
    go_ret
    exact ⟨kF, (kl HB)⟩
   ·rw [if_neg aq] at H
    exact absurd H (by simp)
  ·replace c9 := Bool.eq_false_iff.mpr c9; subst c9
   rw [if_neg (show ¬ (false = true) by decide)] at H
   exact absurd H (by simp)
def A1z.Pure : Prop := ∀ (a0 : Int) (l1 : List Int) (a2 : Int), (Lit.int .i64 a0).wf = true → l1.length ≤ maxLen → l1.length * 1 ≤ 140737488351232 → (∀ x ∈ l1, (Lit.int .u8 x).wf = true) → (Lit.int .i64 a2).wf = true → ∃ k, A1z.f k a0 l1 a2 = some true
theorem A1z.walk (P : A1z.Pure) (a0 : Int) (a1 : Option Addr) (len1 cap1 : Nat) (z1 : List Int) (a2 : Int) (w : World) (hT : TabOk w) (w0 : (Lit.int .i64 a0).wf = true) (w1 : (a1 = none ∧ len1 = 0 ∧ cap1 = 0 ∧ z1 = []) ∨ ∃ x, a1 = some x ∧ len1 ≤ cap1 ∧ cap1 ≤ maxLen ∧ z1.length = cap1 ∧ (∀ i, i < z1.length → w.cell? (x.add i) = some (.int .u8 (z1.getD i 0))) ∧ ∀ n ∈ z1, (Lit.int .u8 n).wf = true) (y1 : len1 * 1 ≤ 140737488351232) (w2 : (Lit.int .i64 a2).wf = true) :
  Calls Tryd.prog 4 #[.int .i64 a0, .slice a1 len1 cap1, .int .i64 a2] w fun e w' => e = .returned (.bool true) ∧ Below w.heap.size w w' := by
 obtain ⟨l1, rfl, hr1, aa, ac, hc1⟩ := A21.ofRowC w1
 obtain ⟨k, h⟩ := P a0 l1 a2 w0 aa y1 ac w2
 refine (A1z.calls k a0 _ _ l1 a2 true w hT (Kd.A2z (d := (0 : Int)) (h1 := fun _ => rfl) hr1) hc1 h).mono ?_
 rintro e w' ⟨rfl, hd⟩
 exact ⟨rfl, hd⟩
def xor_Get_1.f (a0 : Int) : Option (Int × Int × Int × Int × Int × Option Int) := some (0, 0, 0, 0, 0, some a0)
def A2c (w0 W : World) (g : Nat) (f0 : List Int) (f1 : Int) (f2 : Bool) : Prop := ∃ A0 c0, W.heap[g]? = some (.cells #[.slice A0 f0.length c0, .int .i64 f1, .bool f2] 121 (0, 0)) ∧ w0.heap.size ≤ g ∧ Kd.C (Kd.int .u8) w0 A0 f0.length f0 ∧ f0.length ≤ c0
theorem A2c.grown {w0 W : World} {g : Nat} {f0 : List Int} {f1 : Int} {f2 : Bool} {W1 : World} {row : Option Nat} (h : A2c w0 W g f0 f1 f2) (hw : W.grownBy W1 row) (hne : some g ≠ row) : A2c w0 W1 g f0 f1 f2 := by
 obtain ⟨A0, c0, hb, hg, hr0, hl0⟩ := h
 exact ⟨A0, c0, A1x hb hw hne, hg, hr0, hl0⟩
theorem A2c.kept {w0 W : World} {g : Nat} {f0 : List Int} {f1 : Int} {f2 : Bool} {W1 : World} {S : Nat → Prop} (h : A2c w0 W g f0 f1 f2) (hk : Kept W W1 S) (hne : ¬ S g) : A2c w0 W1 g f0 f1 f2 := by
 obtain ⟨A0, c0, hb, hg, hr0, hl0⟩ := h
 exact ⟨A0, c0, blk_kept hb hk hne, hg, hr0, hl0⟩
theorem A2c.below {w0 W : World} {g : Nat} {f0 : List Int} {f1 : Int} {f2 : Bool} {W1 : World} (h : A2c w0 W g f0 f1 f2) (hw : Below W.heap.size W W1) : A2c w0 W1 g f0 f1 f2 := h.grown (grown_of_below hw none) (by simp)
theorem A2c.alloc {w0 W : World} {g : Nat} {f0 : List Int} {f1 : Int} {f2 : Bool} (h : A2c w0 W g f0 f1 f2) (o : Obj) : A2c w0 (W.alloc o) g f0 f1 f2 := h.below (A0m (Below.refl _ _) o)
theorem A2c.drewN {w0 W : World} {g : Nat} {f0 : List Int} {f1 : Int} {f2 : Bool} (h : A2c w0 W g f0 f1 f2) (m : Nat) : A2c w0 (W.drewN m) g f0 f1 f2 := h
theorem A2c.drew {w0 W : World} {g : Nat} {f0 : List Int} {f1 : Int} {f2 : Bool} (h : A2c w0 W g f0 f1 f2) : A2c w0 W.drew g f0 f1 f2 := h
theorem A2c.at_ {w0 W : World} {g : Nat} {f0 : List Int} {f1 : Int} {f2 : Bool} {w' : World} {m : Nat} (hq : W.drewN m = w') (h : A2c w0 W g f0 f1 f2) : A2c w0 w' g f0 f1 f2 := by subst hq; exact A2c.drewN h m
theorem A2c.apart {w0 W : World} {g : Nat} {f0 : List Int} {f1 : Int} {f2 : Bool} {α : Type} {d : Kd α} {e : Nat} {base : Nat} {ok : Nat → Prop} {v : Value} {xs : List α} (h : A2c w0 W g f0 f1 f2) (ho : d.R e W base ok v xs) (ht : ∀ q, q ∈ e :: d.E → q ≠ 121) : d.R e W base (fun k => ok k ∧ k ≠ g) v xs := by
 obtain ⟨A0, c0, hb, hg, hr0, hl0⟩ := h
 exact Kd.A1r ho hb ht
theorem A2c.own_ne {w0 W : World} {g : Nat} {f0 : List Int} {f1 : Int} {f2 : Bool} {α : Type} {d : Kd α} {e : Nat} {base : Nat} {ok : Nat → Prop} {v : Value} {xs : List α} (h : A2c w0 W g f0 f1 f2) (ho : d.R e W base ok v xs) (ht : e ≠ 121) : some g ≠ v.ownBlock := by
 obtain ⟨A0, c0, hb, hg, hr0, hl0⟩ := h
 exact Kd.R_ne ho hb ht
theorem A2c.lt {w0 W : World} {g : Nat} {f0 : List Int} {f1 : Int} {f2 : Bool} (h : A2c w0 W g f0 f1 f2) : g < W.heap.size := by
 obtain ⟨A0, c0, hb, hg, hr0, hl0⟩ := h
 exact A13 hb
theorem A2c.ge {w0 W : World} {g : Nat} {f0 : List Int} {f1 : Int} {f2 : Bool} (h : A2c w0 W g f0 f1 f2) : w0.heap.size ≤ g := by
 obtain ⟨A0, c0, hb, hg, hr0, hl0⟩ := h
 exact hg
theorem A2c.ne_blk {w0 W : World} {g : Nat} {f0 : List Int} {f1 : Int} {f2 : Bool} {a : Nat} {cs : Array Value} {t : TypeId} {fr : Nat × Nat} (h : A2c w0 W g f0 f1 f2) (hb2 : W.heap[a]? = some (.cells cs t fr)) (ht : t ≠ 121) : g ≠ a := by
 obtain ⟨A0, c0, hb, hg, hr0, hl0⟩ := h
 rintro rfl
 rw [hb] at hb2
 injection hb2 with hb2
 injection hb2 with _ ht2
 exact ht ht2.symm
theorem A2c.far {w0 W : World} {g : Nat} {f0 : List Int} {f1 : Int} {f2 : Bool} {p : Addr} (h : A2c w0 W g f0 f1 f2) (hne : g ≠ p.block) (u : Value) : A2c w0 (W.setCell p u) g f0 f1 f2 := by
 obtain ⟨A0, c0, hb, hg, hr0, hl0⟩ := h
 exact ⟨A0, c0, blk_far hb hne u, hg, hr0, hl0⟩
theorem A2c.set_0 {w0 W : World} {g : Nat} {f0 : List Int} {f1 : Int} {f2 : Bool} (h : A2c w0 W g f0 f1 f2) {A_ : Option Addr} {n_ c_ : Nat} {x : List Int} (hr_ : Kd.C (Kd.int .u8) w0 A_ x.length x) (hl_ : x.length ≤ c_) (hn_ : n_ = x.length) : A2c w0 (W.setCell ⟨g, 0, none⟩ (.slice A_ n_ c_)) g x f1 f2 := by
 subst hn_
 obtain ⟨A0, c0, hb, hg, hr0, hl0⟩ := h
 exact ⟨A_, c_, by simpa using blk_set hb 0 (.slice A_ x.length c_), hg, hr_, hl_⟩
theorem A2c.A05 {w0 W : World} {g : Nat} {f0 : List Int} {f1 : Int} {f2 : Bool} (h : A2c w0 W g f0 f1 f2) (x : Int) : A2c w0 (W.setCell ⟨g, 1, none⟩ (.int .i64 x)) g f0 x f2 := by
 obtain ⟨A0, c0, hb, hg, hr0, hl0⟩ := h
 exact ⟨A0, c0, by simpa using blk_set hb 1 (.int .i64 x), hg, hr0, hl0⟩
theorem A2c.A06 {w0 W : World} {g : Nat} {f0 : List Int} {f1 : Int} {f2 : Bool} (h : A2c w0 W g f0 f1 f2) (x : Bool) : A2c w0 (W.setCell ⟨g, 2, none⟩ (.bool x)) g f0 f1 x := by
 obtain ⟨A0, c0, hb, hg, hr0, hl0⟩ := h
 exact ⟨A0, c0, by simpa using blk_set hb 2 (.bool x), hg, hr0, hl0⟩
theorem A2c.farA {w0 W : World} {g g' j : Nat} {u : Value} {f0 : List Int} {f1 : Int} {f2 : Bool} (h : A2c w0 W g f0 f1 f2) (hne : A0e (g ≠ g')) : A2c w0 (W.setCell ⟨g', j, none⟩ u) g f0 f1 f2 := h.far (by exact hne.out) u
theorem A2c.k {w0 W W' : World} {g : Nat} {f0 f0' : List Int} {f1 f1' : Int} {f2 f2' : Bool} (h : A0e (A2c w0 W g f0 f1 f2)) (hh : A2c w0 W g f0 f1 f2 → A2c w0 W' g f0' f1' f2' := by (intro h0_; repeat (first | (with_reducible first | exact h0_ | apply A2c.alloc | apply A2c.drewN | apply A2c.drew | apply A2c.A05 | apply A2c.A06 | refine A2c.farA ?_ (by assumption)) | exact h0_))) : A2c w0 W' g f0' f1' f2' := hh h.out
theorem A2c.kl {w W W' : World} (h : A0e (Below w.heap.size w W)) (hh : Below w.heap.size w W → Below w.heap.size w W' := by (intro h0_; repeat (first | (with_reducible first | exact h0_ | apply A0m | apply A0h | apply A0g | refine A0d ?_ (A2c.ge (A0e.out (by assumption))) | refine A0d ?_ (A0e.out (by assumption))) | exact h0_))) : Below w.heap.size w W' := hh h.out
def A3b.f (k : Nat) (ac : List Int) (ad : Int) (ae : Bool) (a1 : Int) : Option (Int × List Int × Int × Bool) := (A2f.f k ac ad a1).bind fun aa => (if ae = true then (some (aa.1, ac, wrap64 (ad + a1), aa.2)) else (some (aa.1, ac, wrap64 (ad + a1), false)))
end Go.Proofs.YtiahbcaoikoogabDoor.All
end
section
namespace Go.Proofs.YtiahbcaoikoogabDoor.All
open Go.RowKit Go.Proofs.YtiahbcaoikoogabDoorW.PrintWords Go.Proofs.YtiahbcaoikoogabDoorW.PrintLast Go.Proofs.YtiahbcaoikoogabDoorW.PrintMore
attribute [local go_sem] A2i A2j A2v A2w A14 A15 A2k A2l
set_option linter.unusedVariables false
set_option linter.unusedSimpArgs false
mutual
def A20.j0 : Nat → List Int → Int → Bool → Int → Int → Int → Option (Int × Int × Int × Int × Int × Option Int)
 | 0, _, _, _, _, _, _ => none
 | k + 1, x1, x2, am, ai, ac, ad => if am = true then ((xor_Get_1.f 2).bind fun af => (some (af.1, af.2.1, af.2.2.1, af.2.2.2.1, af.2.2.2.2.1, af.2.2.2.2.2))) else ((A3b.f k x1 x2 true 1).bind fun ae => (if ae.1 = 1 then ((A3b.f k ae.2.1 ae.2.2.1 ae.2.2.2 1).bind fun aa => (if aa.2.2.2 = true then (if aa.1 = 1 then ((A3b.f k aa.2.1 aa.2.2.1 aa.2.2.2 6).bind fun al => ((A3b.f k al.2.1 al.2.2.1 al.2.2.2 6).bind fun aj => (if aj.2.2.2 = true then (A20.j1 k x1 x2 (wrap64 (al.1)) (wrap64 ((wrap64 (aj.1)) + 1)) (aa.1 == 1) ai ac ad aj.2.1 aj.2.2.1 aj.2.2.2) else ((xor_Get_1.f 2).bind fun ag => (some (ag.1, ag.2.1, ag.2.2.1, ag.2.2.2.1, ag.2.2.2.2.1, ag.2.2.2.2.2)))))) else (A20.j1 k x1 x2 ac ad (aa.1 == 1) ai ac ad aa.2.1 aa.2.2.1 aa.2.2.2)) else ((xor_Get_1.f 2).bind fun ah => (some (ah.1, ah.2.1, ah.2.2.1, ah.2.2.2.1, ah.2.2.2.2.1, ah.2.2.2.2.2))))) else (A20.j3 k x1 x2 0 ai ac ad ae.2.1 ae.2.2.1 ae.2.2.2)))
def A20.j3 : Nat → List Int → Int → Int → Int → Int → Int → List Int → Int → Bool → Option (Int × Int × Int × Int × Int × Option Int)
 | 0, _, _, _, _, _, _, _, _, _ => none
 | k + 1, x1, x2, ao, af, ag, ah, an, ai, aj => if aj = true then ((A1l.f k af ag ah (Go.bits .xor .u64 af ao)).bind fun aa => ((A2f.f k x1 x2 (mn aa.2.1 64)).bind fun al => ((A2f.f k aa.1 0 (mn aa.2.1 64)).bind fun am => (if aa.2.1 = (wrap64 (ai - x2)) then (if al.1 = am.1 then (some (Go.bits .xor .u64 af ao, aa.2.2.1, aa.2.2.2.1, aa.2.2.2.2, aa.2.1, none)) else ((xor_Get_1.f 3).bind fun ac => (some (ac.1, ac.2.1, ac.2.2.1, ac.2.2.2.1, ac.2.2.2.2.1, ac.2.2.2.2.2)))) else ((xor_Get_1.f 3).bind fun ad => (some (ad.1, ad.2.1, ad.2.2.1, ad.2.2.2.1, ad.2.2.2.2.1, ad.2.2.2.2.2))))))) else ((xor_Get_1.f 2).bind fun ae => (some (ae.1, ae.2.1, ae.2.2.1, ae.2.2.2.1, ae.2.2.2.2.1, ae.2.2.2.2.2)))
def A20.j1 : Nat → List Int → Int → Int → Int → Bool → Int → Int → Int → List Int → Int → Bool → Option (Int × Int × Int × Int × Int × Option Int)
 | 0, _, _, _, _, _, _, _, _, _, _, _ => none
 | k + 1, x1, x2, ai, ah, aj, aa, ac, ad, ae, af, ag => if ah = 0 then (A20.j2 k x1 x2 ai ah true aa ac ad ae af ag) else (A20.j2 k x1 x2 ai ah (decide ((wrap64 (ai + ah)) > 64)) aa ac ad ae af ag)
def A20.j2 : Nat → List Int → Int → Int → Int → Bool → Int → Int → Int → List Int → Int → Bool → Option (Int × Int × Int × Int × Int × Option Int)
 | 0, _, _, _, _, _, _, _, _, _, _, _ => none
 | k + 1, x1, x2, al, aj, am, ad, ae, af, ag, ah, ai => if am = true then ((xor_Get_1.f 3).bind fun aa => (some (aa.1, aa.2.1, aa.2.2.1, aa.2.2.2.1, aa.2.2.2.2.1, aa.2.2.2.2.2))) else ((A3b.f k ag ah ai aj).bind fun ac => (if 0 ≤ (wrap64 ((wrap64 (64 - al)) - aj)) then (A20.j3 k x1 x2 (shl .u64 ac.1 (wrap64 ((wrap64 (64 - al)) - aj))) ad ae af ac.2.1 ac.2.2.1 ac.2.2.2) else (none)))
end
def A20.f (k : Nat) (aa : Int) (a0_1 : Int) (ac : Int) (l1 : List Int) (a2 : Int) : Option (Int × Int × Int × Int × Int × Option Int) := if a2 < 0 then (A20.j0 k l1 a2 true aa a0_1 ac) else (A20.j0 k l1 a2 (decide (a2 > (wrap64 (8 * (l1.length : Int))))) aa a0_1 ac)
end Go.Proofs.YtiahbcaoikoogabDoor.All
end
section
namespace Go.Proofs.YtiahbcaoikoogabDoor.All
open Go.RowKit Go.Proofs.YtiahbcaoikoogabDoorW.PrintWords Go.Proofs.YtiahbcaoikoogabDoorW.PrintLast Go.Proofs.YtiahbcaoikoogabDoorW.PrintMore
attribute [local go_sem] A2i A2j A2v A2w A14 A15 A2k A2l
set_option linter.unusedVariables false
set_option linter.unusedSimpArgs false
def kinds_known.f (a0 : Int) : Option (Bool) := if a0 = 1 then (some true) else (some (a0 == 2))
def kinds_first.f (k : Nat) (l0 : List Int) (a1 : Int) : Option (Int × Int × Int × Option Int) := (A2f.f k l0 a1 64).bind fun aa => (if aa.2 = true then ((A2f.f k l0 (wrap64 (a1 + 64)) 64).bind fun ac => (if ac.2 = true then (some (wrap64 (aa.1), ac.1, 128, none)) else (some (0, 0, 0, some 2)))) else (some (0, 0, 0, some 2)))
def kinds_next.f (k : Nat) (a0 : Int) (am : Int) (ae : Int) (af : Int) (ag : Int) (ah : Int) (ai : Int) (aj : Int) (al : Int) (l2 : List Int) (a3 : Int) : Option (Int × Int × Int × Int × Int × Int × Option Int) := (A27.f k l2 a3).bind fun aa => (if aa.2.2.isNone = true then (if a0 = 2 then ((A27.f k l2 (wrap64 (a3 + aa.2.1))).bind fun ad => (some (wrap64 ((wrap64 (ae + af)) + aa.1), IntKind.u64.wrap ((IntKind.u64.wrap (ag + ah)) + (IntKind.u64.wrap (ad.1))), 0, 0, 0, wrap64 (aa.2.1 + ad.2.1), ad.2.2))) else ((A20.f k ai aj al l2 (wrap64 (a3 + aa.2.1))).bind fun ac => (some (wrap64 ((wrap64 (ae + af)) + aa.1), ac.1, ac.2.1, ac.2.2.1, ac.2.2.2.1, wrap64 (aa.2.1 + ac.2.2.2.2.1), ac.2.2.2.2.2)))) else (some (0, 0, 0, 0, 0, 0, some (aa.2.2.getD 0))))
def A3m.j0 : Nat → Int → Int → Option Int → Int → Int → Int → Int → Int → Int → Int → Int → Int → Int → Int → Int → Int → Option (Int × Int × Int × Int × Int × Int × Int × Int × Int × Int × Int × Option Int)
 | 0, _, _, _, _, _, _, _, _, _, _, _, _, _, _, _, _ => none
 | k + 1, x0, ar, au, af, ag, ah, ai, aj, al, am, an, aa, ae, ao, ap, aq => if au.isNone = true then (if af > 0 then (if aa ≤ ag then (some (0, 0, 0, 0, 0, 0, 0, 0, 0, 0, 0, some 4)) else ((A0t.f k x0 af ag ah ai aj al am an aa ae ao ap aq).bind fun ac => (some (aa, ae, ac.1, ac.2.1, ac.2.2.1, ac.2.2.2.1, ac.2.2.2.2.1, ac.2.2.2.2.2.1, ac.2.2.2.2.2.2.1, ac.2.2.2.2.2.2.2, ar, none)))) else ((A0t.f k x0 af ag ah ai aj al am an aa ae ao ap aq).bind fun ad => (some (aa, ae, ad.1, ad.2.1, ad.2.2.1, ad.2.2.2.1, ad.2.2.2.2.1, ad.2.2.2.2.2.1, ad.2.2.2.2.2.2.1, ad.2.2.2.2.2.2.2, ar, none)))) else (some (0, 0, 0, 0, 0, 0, 0, 0, 0, 0, 0, some (au.getD 0)))
def A3m.f (k : Nat) (a0 : Int) (ad : Int) (ae : Int) (af : Int) (ag : Int) (ah : Int) (ai : Int) (aj : Int) (al : Int) (l2 : List Int) (a3 : Int) : Option (Int × Int × Int × Int × Int × Int × Int × Int × Int × Int × Int × Option Int) := (kinds_known.f a0).bind fun am => (if am = true then (if ad = 0 then ((kinds_first.f k l2 a3).bind fun ac => (A3m.j0 k a0 ac.2.2.1 ac.2.2.2 ad ae af ag ah ai aj al ac.1 ac.2.1 0 0 0)) else ((kinds_next.f k a0 ad ae af ag ah ai aj al l2 a3).bind fun aa => (A3m.j0 k a0 aa.2.2.2.2.2.1 aa.2.2.2.2.2.2 ad ae af ag ah ai aj al aa.1 aa.2.1 aa.2.2.1 aa.2.2.2.1 aa.2.2.2.2.1))) else (some (0, 0, 0, 0, 0, 0, 0, 0, 0, 0, 0, some 6)))
end Go.Proofs.YtiahbcaoikoogabDoor.All
end
