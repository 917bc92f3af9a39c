-- copied by a program of the session
import Derived.Test.YtiahbcaoikoogabDoorKnAllx3
import Derived.Test.YtiahbcaoikoogabDoorKnAllx1
section
namespace Go.Proofs.YtiahbcaoikoogabDoor.All
open Go.RowKit Go.Proofs.YtiahbcaoikoogabDoorW.PrintWords Go.Proofs.YtiahbcaoikoogabDoorW.PrintLast Go.Proofs.YtiahbcaoikoogabDoorW.PrintMore
attribute [local go_sem] A2m A2n A25 A26 A2b A2c A2o A2p
set_option linter.unusedVariables false
set_option linter.unusedSimpArgs false
def A23.f (a0 : Int) : Option (Int × Int × Int × Int × Int × Option Int) := some (0, 0, 0, 0, 0, some a0)
set_option maxHeartbeats 8000000 in
set_option maxRecDepth 100000 in
theorem A23.calls (a0 : Int) (r1 : Int) (r2 : Int) (r3 : Int) (r4 : Int) (r5 : Int) (r6 : Option Int) (w : World) (h : A23.f a0 = some (r1, r2, r3, r4, r5, r6)) :
  Calls Tryd.prog 61 #[.int .i64 a0] w fun e w' => e = .returned (.tuple #[.int .u64 r1, .agg #[.int .u64 r2, .int .i64 r3, .int .i64 r4], .int .i64 r5, errW r6]) ∧ Below w.heap.size w w' := by
 have hu42 := Tryd.underlying42; have hu27 := Tryd.underlying27; have hu54 := Tryd.underlying54; have HB := ak (Below.refl w.heap.size w); have H : (some (0, 0, 0, 0, 0, some a0)) = some (r1, r2, r3, r4, r5, r6) := h; clear h; simp only [Option.some.injEq, Prod.mk.injEq] at H; obtain ⟨rfl, rfl, rfl, rfl, rfl, rfl⟩ := H
 go_enter Tryd.func61, Tryd.ntmps61
 go_wp2_with (first | ((with_reducible refine A0p (N := 3) rfl ?_); refine bxe 3 #[.int .u64 0, .int .i64 0, .int .i64 0] 42 (h := ?_); intro ac hg w2 hbox hb; have aa := ak (hbox); have aj := kG hg HB; have al := kG hg HB; replace HB := kH HB hb; clear hb hbox hg; obtain ⟨ad, ae, af⟩ := kc3 aa; obtain ⟨ag, ah, ai⟩ := kf3 aa))
 refine bodyPost_ret (A1a (rs := [.tmp 2, .cell 3 42, .tmp 4, .tmp 5]) rfl (by simp) (.tmp (.cell ac 42 #[.int .u64 0, .int .i64 0, .int .i64 0] (0, 0) _ rfl (kb aa) Tryd.underlying42 rfl (by kernel_rfl) (.tmp (.tmp .nil))))) rfl ?_
 exact ⟨kF, (kl HB)⟩
def A0n (w0 W : World) (g : Nat) (f0 : List Int) (f1 : Int) (f2 : Bool) : Prop := ∃ A0 c0, W.heap[g]? = some (.cells #[.slice A0 f0.length c0, .int .i64 f1, .bool f2] 121 (0, 0)) ∧ w0.heap.size ≤ g ∧ Kd.C (Kd.int .u8) w0 A0 f0.length f0 ∧ f0.length ≤ c0
theorem A0n.grown {w0 W : World} {g : Nat} {f0 : List Int} {f1 : Int} {f2 : Bool} {W1 : World} {row : Option Nat} (h : A0n w0 W g f0 f1 f2) (hw : W.grownBy W1 row) (hne : some g ≠ row) : A0n w0 W1 g f0 f1 f2 := by
 obtain ⟨A0, c0, hb, hg, hr0, hl0⟩ := h
 exact ⟨A0, c0, A28 hb hw hne, hg, hr0, hl0⟩
theorem A0n.kept {w0 W : World} {g : Nat} {f0 : List Int} {f1 : Int} {f2 : Bool} {W1 : World} {S : Nat → Prop} (h : A0n w0 W g f0 f1 f2) (hk : Kept W W1 S) (hne : ¬ S g) : A0n w0 W1 g f0 f1 f2 := by
 obtain ⟨A0, c0, hb, hg, hr0, hl0⟩ := h
 exact ⟨A0, c0, blk_kept hb hk hne, hg, hr0, hl0⟩
theorem A0n.below {w0 W : World} {g : Nat} {f0 : List Int} {f1 : Int} {f2 : Bool} {W1 : World} (h : A0n w0 W g f0 f1 f2) (hw : Below W.heap.size W W1) : A0n w0 W1 g f0 f1 f2 := h.grown (grown_of_below hw none) (by simp)
theorem A0n.alloc {w0 W : World} {g : Nat} {f0 : List Int} {f1 : Int} {f2 : Bool} (h : A0n w0 W g f0 f1 f2) (o : Obj) : A0n w0 (W.alloc o) g f0 f1 f2 := h.below (A0o (Below.refl _ _) o)
theorem A0n.drewN {w0 W : World} {g : Nat} {f0 : List Int} {f1 : Int} {f2 : Bool} (h : A0n w0 W g f0 f1 f2) (m : Nat) : A0n w0 (W.drewN m) g f0 f1 f2 := h
theorem A0n.drew {w0 W : World} {g : Nat} {f0 : List Int} {f1 : Int} {f2 : Bool} (h : A0n w0 W g f0 f1 f2) : A0n w0 W.drew g f0 f1 f2 := h
theorem A0n.at_ {w0 W : World} {g : Nat} {f0 : List Int} {f1 : Int} {f2 : Bool} {w' : World} {m : Nat} (hq : W.drewN m = w') (h : A0n w0 W g f0 f1 f2) : A0n w0 w' g f0 f1 f2 := by subst hq; exact A0n.drewN h m
theorem A0n.apart {w0 W : World} {g : Nat} {f0 : List Int} {f1 : Int} {f2 : Bool} {α : Type} {d : Kd α} {e : Nat} {base : Nat} {ok : Nat → Prop} {v : Value} {xs : List α} (h : A0n w0 W g f0 f1 f2) (ho : d.R e W base ok v xs) (ht : ∀ q, q ∈ e :: d.E → q ≠ 121) : d.R e W base (fun k => ok k ∧ k ≠ g) v xs := by
 obtain ⟨A0, c0, hb, hg, hr0, hl0⟩ := h
 exact Kd.A00 ho hb ht
theorem A0n.own_ne {w0 W : World} {g : Nat} {f0 : List Int} {f1 : Int} {f2 : Bool} {α : Type} {d : Kd α} {e : Nat} {base : Nat} {ok : Nat → Prop} {v : Value} {xs : List α} (h : A0n w0 W g f0 f1 f2) (ho : d.R e W base ok v xs) (ht : e ≠ 121) : some g ≠ v.ownBlock := by
 obtain ⟨A0, c0, hb, hg, hr0, hl0⟩ := h
 exact Kd.R_ne ho hb ht
theorem A0n.lt {w0 W : World} {g : Nat} {f0 : List Int} {f1 : Int} {f2 : Bool} (h : A0n w0 W g f0 f1 f2) : g < W.heap.size := by
 obtain ⟨A0, c0, hb, hg, hr0, hl0⟩ := h
 exact A19 hb
theorem A0n.ge {w0 W : World} {g : Nat} {f0 : List Int} {f1 : Int} {f2 : Bool} (h : A0n w0 W g f0 f1 f2) : w0.heap.size ≤ g := by
 obtain ⟨A0, c0, hb, hg, hr0, hl0⟩ := h
 exact hg
theorem A0n.ne_blk {w0 W : World} {g : Nat} {f0 : List Int} {f1 : Int} {f2 : Bool} {a : Nat} {cs : Array Value} {t : TypeId} {fr : Nat × Nat} (h : A0n w0 W g f0 f1 f2) (hb2 : W.heap[a]? = some (.cells cs t fr)) (ht : t ≠ 121) : g ≠ a := by
 obtain ⟨A0, c0, hb, hg, hr0, hl0⟩ := h
 rintro rfl
 rw [hb] at hb2
 injection hb2 with hb2
 injection hb2 with _ ht2
 exact ht ht2.symm
theorem A0n.far {w0 W : World} {g : Nat} {f0 : List Int} {f1 : Int} {f2 : Bool} {p : Addr} (h : A0n w0 W g f0 f1 f2) (hne : g ≠ p.block) (u : Value) : A0n w0 (W.setCell p u) g f0 f1 f2 := by
 obtain ⟨A0, c0, hb, hg, hr0, hl0⟩ := h
 exact ⟨A0, c0, blk_far hb hne u, hg, hr0, hl0⟩
theorem A3h {W : World} {g : Nat} {A0 : Option Addr} {c0 : Nat} {f0 : List Int} {f1 : Int} {f2 : Bool} (h : W.heap[g]? = some (.cells #[.slice A0 f0.length c0, .int .i64 f1, .bool f2] 121 (0, 0))) : W.cell? ⟨g, 0, none⟩ = some (.slice A0 f0.length c0) := (A2l h 0).trans rfl
theorem A0n.set_0 {w0 W : World} {g : Nat} {f0 : List Int} {f1 : Int} {f2 : Bool} (h : A0n w0 W g f0 f1 f2) {A_ : Option Addr} {n_ c_ : Nat} {x : List Int} (hr_ : Kd.C (Kd.int .u8) w0 A_ x.length x) (hl_ : x.length ≤ c_) (hn_ : n_ = x.length) : A0n w0 (W.setCell ⟨g, 0, none⟩ (.slice A_ n_ c_)) g x f1 f2 := by
 subst hn_
 obtain ⟨A0, c0, hb, hg, hr0, hl0⟩ := h
 exact ⟨A_, c_, by simpa using blk_set hb 0 (.slice A_ x.length c_), hg, hr_, hl_⟩
theorem A3i {W : World} {g : Nat} {A0 : Option Addr} {c0 : Nat} {f0 : List Int} {f1 : Int} {f2 : Bool} (h : W.heap[g]? = some (.cells #[.slice A0 f0.length c0, .int .i64 f1, .bool f2] 121 (0, 0))) : W.cell? ⟨g, 1, none⟩ = some (.int .i64 f1) := (A2l h 1).trans rfl
theorem A0n.A04 {w0 W : World} {g : Nat} {f0 : List Int} {f1 : Int} {f2 : Bool} (h : A0n w0 W g f0 f1 f2) (x : Int) : A0n w0 (W.setCell ⟨g, 1, none⟩ (.int .i64 x)) g f0 x f2 := by
 obtain ⟨A0, c0, hb, hg, hr0, hl0⟩ := h
 exact ⟨A0, c0, by simpa using blk_set hb 1 (.int .i64 x), hg, hr0, hl0⟩
theorem A3j {W : World} {g : Nat} {A0 : Option Addr} {c0 : Nat} {f0 : List Int} {f1 : Int} {f2 : Bool} (h : W.heap[g]? = some (.cells #[.slice A0 f0.length c0, .int .i64 f1, .bool f2] 121 (0, 0))) : W.cell? ⟨g, 2, none⟩ = some (.bool f2) := (A2l h 2).trans rfl
theorem A0n.A05 {w0 W : World} {g : Nat} {f0 : List Int} {f1 : Int} {f2 : Bool} (h : A0n w0 W g f0 f1 f2) (x : Bool) : A0n w0 (W.setCell ⟨g, 2, none⟩ (.bool x)) g f0 f1 x := by
 obtain ⟨A0, c0, hb, hg, hr0, hl0⟩ := h
 exact ⟨A0, c0, by simpa using blk_set hb 2 (.bool x), hg, hr0, hl0⟩
theorem A0n.farA {w0 W : World} {g g' j : Nat} {u : Value} {f0 : List Int} {f1 : Int} {f2 : Bool} (h : A0n w0 W g f0 f1 f2) (hne : A0e (g ≠ g')) : A0n w0 (W.setCell ⟨g', j, none⟩ u) g f0 f1 f2 := h.far (by exact hne.out) u
theorem A0n.k {w0 W W' : World} {g : Nat} {f0 f0' : List Int} {f1 f1' : Int} {f2 f2' : Bool} (h : A0e (A0n w0 W g f0 f1 f2)) (hh : A0n w0 W g f0 f1 f2 → A0n w0 W' g f0' f1' f2' := by (intro h0_; repeat (first | (with_reducible first | exact h0_ | apply A0n.alloc | apply A0n.drewN | apply A0n.drew | apply A0n.A04 | apply A0n.A05 | refine A0n.farA ?_ (by assumption)) | exact h0_))) : A0n w0 W' g f0' f1' f2' := hh h.out
theorem A0n.kl {w W W' : World} (h : A0e (Below w.heap.size w W)) (hh : Below w.heap.size w W → Below w.heap.size w W' := by (intro h0_; repeat (first | (with_reducible first | exact h0_ | apply A0o | apply A0h | apply A0g | refine A0c ?_ (A0n.ge (A0e.out (by assumption))) | refine A0c ?_ (A0e.out (by assumption))) | exact h0_))) : Below w.heap.size w W' := hh h.out
def A13.f (k : Nat) (ac : List Int) (ad : Int) (ae : Bool) (a1 : Int) : Option (Int × List Int × Int × Bool) := (A06.f k ac ad a1).bind fun aa => (if ae = true then (some (aa.1, ac, wrap64 (ad + a1), aa.2)) else (some (aa.1, ac, wrap64 (ad + a1), false)))
set_option maxHeartbeats 8000000 in
set_option maxRecDepth 100000 in
theorem A13.calls (k : Nat) (g : Nat) (ad : List Int) (ae : Int) (ai : Bool) (a1 : Int) (r1 : Int) (r2 : List Int) (r3 : Int) (r4 : Bool) (w0 w : World) (hI : A0n w0 w g ad ae ai) (hB : Below w0.heap.size w0 w) (h : A13.f k ad ae ai a1 = some (r1, r2, r3, r4)) :
  Calls Tryd.prog 62 #[.pointer (some ⟨g, 0, none⟩), .int .i64 a1] w fun e w' => e = .returned (.int .u64 r1) ∧ A0n w0 w' g r2 r3 r4 ∧ Below w0.heap.size w0 w' ∧ A0d w w' g none := by
 have aj := ak hI; have HK := ak (A0d.refl w g none); have HL := ak hB.size; clear hI; have HW0 := ak hB.size; have HB := ak hB; clear hB; have H : ((A06.f k ad ae a1).bind fun ah => (if ai = true then (some (ah.1, ad, wrap64 (ae + a1), ah.2)) else (some (ah.1, ad, wrap64 (ae + a1), false)))) = some (r1, r2, r3, r4) := h; clear h; replace H := bkH H; obtain ⟨⟨af, ag⟩, A3, H⟩ := H; (try dsimp only at H)
 by_cases c4 : ai = true
 ·subst c4
  rw [if_pos rfl] at H; simp only [Option.some.injEq, Prod.mk.injEq] at H; obtain ⟨rfl, rfl, rfl, rfl⟩ := H; obtain ⟨ASz5_0, cSz5_0, HGz5, hgz5, HSz5_0, HLSz5_0⟩ := aj.out; have al := A3h HGz5; have am := A3i HGz5; have an := A3j HGz5; have ao := A0b HGz5 0; have ap := A0b HGz5 1; have aq := A0b HGz5 2; clear HGz5 hgz5
  go_enter Tryd.func62, Tryd.ntmps62
  go_wp2_with (first | (go_at_call 24; (with_reducible refine (A06.calls k _ _ ad ae a1 af ag _ ?aa ?ac A3.out).mono ?_); (case aa => exact Kd.A2g HSz5_0 (A0n.kl HB)); (case ac => exact HLSz5_0); rintro e w' ⟨rfl, ⟨nd, rfl⟩⟩; (try first | exact ⟨rfl, _, World.drewN_drewN _ _ _⟩ | exact ⟨rfl, _, Eq.trans (World.drewN_drewN _ _ _) (congrArg (World.drewN _) (Nat.add_assoc _ _ _))⟩)))
  repeat (go_quiet (first | (go_at_call 24; (with_reducible refine (A06.calls k _ _ ad ae a1 af ag _ ?aa ?ac A3.out).mono ?_); (case aa => exact Kd.A2g HSz5_0 (A0n.kl HB)); (case ac => exact HLSz5_0); rintro e w' ⟨rfl, ⟨nd, rfl⟩⟩; (try first | exact ⟨rfl, _, World.drewN_drewN _ _ _⟩ | exact ⟨rfl, _, Eq.trans (World.drewN_drewN _ _ _) (congrArg (World.drewN _) (Nat.add_assoc _ _ _))⟩))); try go_wp2_with (first | (go_at_call 24; (with_reducible refine (A06.calls k _ _ ad ae a1 af ag _ ?aa ?ac A3.out).mono ?_); (case aa => exact Kd.A2g HSz5_0 (A0n.kl HB)); (case ac => exact HLSz5_0); rintro e w' ⟨rfl, ⟨nd, rfl⟩⟩; (try first | exact ⟨rfl, _, World.drewN_drewN _ _ _⟩ | exact ⟨rfl, _, Eq.trans (World.drewN_drewN _ _ _) (congrArg (World.drewN _) (Nat.add_assoc _ _ _))⟩))))
  go_ret
  exact ⟨kF, (A0n.k aj), (A0n.kl HB), (kk HK)⟩
 ·replace c4 := Bool.eq_false_iff.mpr c4; subst c4
  rw [if_neg (show ¬ (false = true) by decide)] at H; simp only [Option.some.injEq, Prod.mk.injEq] at H; obtain ⟨rfl, rfl, rfl, rfl⟩ := H; obtain ⟨ASz6_0, cSz6_0, HGz6, hgz6, HSz6_0, HLSz6_0⟩ := aj.out; have ar := A3h HGz6; have au := A3i HGz6; have av := A3j HGz6; have aw := A0b HGz6 0; have ax := A0b HGz6 1; have ay := A0b HGz6 2; clear HGz6 hgz6
  go_enter Tryd.func62, Tryd.ntmps62
  go_wp2_with (first | (go_at_call 24; (with_reducible refine (A06.calls k _ _ ad ae a1 af ag _ ?aa ?ac A3.out).mono ?_); (case aa => exact Kd.A2g HSz6_0 (A0n.kl HB)); (case ac => exact HLSz6_0); rintro e w' ⟨rfl, ⟨nd, rfl⟩⟩; (try first | exact ⟨rfl, _, World.drewN_drewN _ _ _⟩ | exact ⟨rfl, _, Eq.trans (World.drewN_drewN _ _ _) (congrArg (World.drewN _) (Nat.add_assoc _ _ _))⟩)))
  repeat (go_quiet (first | (go_at_call 24; (with_reducible refine (A06.calls k _ _ ad ae a1 af ag _ ?aa ?ac A3.out).mono ?_); (case aa => exact Kd.A2g HSz6_0 (A0n.kl HB)); (case ac => exact HLSz6_0); rintro e w' ⟨rfl, ⟨nd, rfl⟩⟩; (try first | exact ⟨rfl, _, World.drewN_drewN _ _ _⟩ | exact ⟨rfl, _, Eq.trans (World.drewN_drewN _ _ _) (congrArg (World.drewN _) (Nat.add_assoc _ _ _))⟩))); try go_wp2_with (first | (go_at_call 24; (with_reducible refine (A06.calls k _ _ ad ae a1 af ag _ ?aa ?ac A3.out).mono ?_); (case aa => exact Kd.A2g HSz6_0 (A0n.kl HB)); (case ac => exact HLSz6_0); rintro e w' ⟨rfl, ⟨nd, rfl⟩⟩; (try first | exact ⟨rfl, _, World.drewN_drewN _ _ _⟩ | exact ⟨rfl, _, Eq.trans (World.drewN_drewN _ _ _) (congrArg (World.drewN _) (Nat.add_assoc _ _ _))⟩))))
  go_ret
  exact ⟨kF, (A0n.k aj), (A0n.kl HB), (kk HK)⟩
end Go.Proofs.YtiahbcaoikoogabDoor.All
end
section
namespace Go.Proofs.YtiahbcaoikoogabDoor.All
open Go.RowKit Go.Proofs.YtiahbcaoikoogabDoorW.PrintWords Go.Proofs.YtiahbcaoikoogabDoorW.PrintLast Go.Proofs.YtiahbcaoikoogabDoorW.PrintMore
attribute [local go_sem] A2m A2n A25 A26 A2b A2c A2o A2p
set_option linter.unusedVariables false
set_option linter.unusedSimpArgs false
attribute [local go_sem high] eqA48
def A0w.l0 : Nat → List (S48) → List (S48) → Int → Option (Int)
 | 0, _, _, _ => none
 | k + 1, x0, x1, x5 => if x5 < (x0.length : Int) then (if 0 ≤ x5 then (if x5 < (x1.length : Int) then (if (!(((A1f x0 x5).f0) == ((A1f x1 x5).f0)) || (!(((A1f x0 x5).f1) == ((A1f x1 x5).f1)))) = true then (some 0) else (A0w.l0 k x0 x1 (wrap64 (x5 + 1)))) else (none)) else (none)) else (some 1)
def A0w.f (k : Nat) (l0 : List (S48)) (l1 : List (S48)) : Option (Int) := if (l0.length : Int) = (l1.length : Int) then (A0w.l0 k l0 l1 0) else (some 0)
theorem A0w.A3f : ∀ k, (∀ y0 y1 y2, LeO (A0w.l0 k y0 y1 y2) (A0w.l0 (k + 1) y0 y1 y2))
 | 0 => fun _ _ _ r h => by simp [A0w.l0] at h
 | k + 1 => by
  have ih0 := A0w.A3f k <;> intros <;> (first | unfold A0w.l0) <;> (
   repeat' first
   | (with_reducible exact ih0 _ _ _)
   | (with_reducible exact LeO.refl _)
   | (with_reducible exact LeO.none _)
   | (with_reducible refine LeO.ite ?_ ?_)
   | (with_reducible refine LeO.bind ?_ (fun _ => ?_))
   | exact ih0 _ _ _
   | exact LeO.none _
   | refine LeO.ite ?_ ?_
   | refine LeO.bind ?_ (fun _ => ?_))
theorem A0w.mono : ∀ a0 a1 k, LeO (A0w.f k a0 a1) (A0w.f (k + 1) a0 a1) := by
 intro a0 a1 k
 have ih0 := A0w.A3f k
 unfold A0w.f
 repeat' first
   | (with_reducible exact ih0 _ _ _)
   | (with_reducible exact LeO.refl _)
   | (with_reducible exact LeO.none _)
   | (with_reducible refine LeO.ite ?_ ?_)
   | (with_reducible refine LeO.bind ?_ (fun _ => ?_))
   | exact ih0 _ _ _
   | exact LeO.none _
   | refine LeO.ite ?_ ?_
   | refine LeO.bind ?_ (fun _ => ?_)
set_option maxHeartbeats 8000000 in
set_option maxRecDepth 100000 in
theorem A0w.calls (k : Nat) (A0 : Option Addr) (c0 : Nat) (l0 : List (S48)) (A1 : Option Addr) (c1 : Nat) (l1 : List (S48)) (r : Int) (w : World) (hr0 : Kd.C k48 w A0 l0.length l0) (hc0 : l0.length ≤ c0) (hr1 : Kd.C k48 w A1 l1.length l1) (hc1 : l1.length ≤ c1) (h : A0w.f k l0 l1 = some r) :
  Calls Tryd.prog 11 #[.slice A0 l0.length c0, .slice A1 l1.length c1] w fun e w' => e = .returned (.int .i64 r) ∧ A1i w w' := by
 have hu48 := Tryd.underlying48; have ax := ak hr0; have a3 := ak hc0; clear hr0 hc0; have ay := ak hr1; have a4 := ak hc1; clear hr1 hc1; have H : (if (l0.length : Int) = (l1.length : Int) then (A0w.l0 k l0 l1 0) else (some 0)) = some r := h; clear h
 by_cases c3 : (l0.length : Int) = (l1.length : Int)
 ·rw [if_pos c3] at H; obtain ⟨ao, ap⟩ := kqT c3
  have aq : (l0.length == l1.length) = true := by first | simpa using c3 | (simp at c3 ⊢; omega)
  clear c3; have H' := ak H; clear H
  go_enter Tryd.func11, Tryd.ntmps11
  go_wp2
  repeat ((first | go_quiet (fail) | go_region); try go_wp2)
  go_loopg [5] k (fun kq v5 w' => ∃ (x5_1 : Int), v5 = .int .i64 x5_1 ∧ A0e (A0w.l0 kq l0 l1 x5_1 = some r) ∧ A0e (kq ≤ k) ∧ A1i w w')
  case atStart => exact ⟨(0), kE, H', ⟨Nat.le_refl _⟩, by repeat (first | exact A1i.refl _ | apply A1i.step)⟩
  case round =>
   clear H'; (try clear c1); (try clear c3); (try clear ao); (try clear ap); (try clear aq); obtain ⟨x5_1, rfl, HA, az, ⟨m1, rfl⟩⟩ := hrel
   cases gk with
   | zero => exact absurd HA.out (by simp [A0w.l0])
   | succ k1 =>
    have H := HA.out; clear HA; simp only [A0w.l0] at H
    by_cases c4 : x5_1 < (l0.length : Int)
    ·rw [if_pos c4] at H; have av : decide (x5_1 < (l0.length : Int)) = true := decide_eq_true c4; clear c4
     by_cases c5 : 0 ≤ x5_1
     ·rw [if_pos c5] at H; have a1 := decide_eq_true c5; clear c5
      by_cases c6 : x5_1 < (l1.length : Int)
      ·rw [if_pos c6] at H; have a2 := decide_eq_true c6; clear c6
       by_cases c7 : (!(((A1f l0 x5_1).f0) == ((A1f l1 x5_1).f0)) || (!(((A1f l0 x5_1).f1) == ((A1f l1 x5_1).f1)))) = true
       ·rw [if_pos c7] at H; have aw : (!(((A1f l0 x5_1).f0) == ((A1f l1 x5_1).f0)) || (!(((A1f l0 x5_1).f1) == ((A1f l1 x5_1).f1)))) = true := c7; clear c7; obtain rfl := Option.some.inj H; have af : 0 ≤ (x5_1 : Int) := kD; have ad : x5_1 < (l0.length : Int) := kD; obtain ⟨ar, am, ah, ai⟩ := at_T48 ax.out x5_1 af ad
        cases am
        replace af := eq_true af
        (try (have aa := ad; simp only [List.length_drop, List.length_take] at aa; replace aa := eq_true aa)); replace ad := eq_true ad
        have ag : 0 ≤ (x5_1 : Int) := kD; have ae : x5_1 < (l1.length : Int) := kD; obtain ⟨au, an, aj, al⟩ := at_T48 ay.out x5_1 ag ae
        cases an
        replace ag := eq_true ag
        (try (have ac := ae; simp only [List.length_drop, List.length_take] at ac; replace ac := eq_true ac)); replace ae := eq_true ae
        go_wp2
        repeat ((first | go_quiet (fail) | go_region); try go_wp2)
        go_ret
        exact ⟨by first | rfl | (simp; done) | (simp [*]; done), by repeat (first | exact A1i.refl _ | apply A1i.step)⟩
       ·rw [if_neg c7] at H
        have aw : (!(((A1f l0 x5_1).f0) == ((A1f l1 x5_1).f0)) || (!(((A1f l0 x5_1).f1) == ((A1f l1 x5_1).f1)))) = false := by simpa using c7
        clear c7; have H' := ak H; clear H; have af : 0 ≤ (x5_1 : Int) := kD; have ad : x5_1 < (l0.length : Int) := kD; obtain ⟨ar, am, ah, ai⟩ := at_T48 ax.out x5_1 af ad
        cases am
        replace af := eq_true af
        (try (have aa := ad; simp only [List.length_drop, List.length_take] at aa; replace aa := eq_true aa)); replace ad := eq_true ad
        have ag : 0 ≤ (x5_1 : Int) := kD; have ae : x5_1 < (l1.length : Int) := kD; obtain ⟨au, an, aj, al⟩ := at_T48 ay.out x5_1 ag ae
        cases an
        replace ag := eq_true ag
        (try (have ac := ae; simp only [List.length_drop, List.length_take] at ac; replace ac := eq_true ac)); replace ae := eq_true ae
        go_wp2
        repeat ((first | go_quiet (fail) | go_region); try go_wp2)
        go_roundg k1
        case measure => have := az.out; omega
        case rel => exact ⟨(wrap64 (x5_1 + 1)), kE, H', ⟨by have := az.out; omega⟩, by repeat (first | exact A1i.refl _ | apply A1i.step)⟩
      ·rw [if_neg c6] at H
       exact absurd H (by simp)
     ·rw [if_neg c5] at H
      exact absurd H (by simp)
    ·rw [if_neg c4] at H; have av : decide (x5_1 < (l0.length : Int)) = false := decide_eq_false c4; clear c4; obtain rfl := Option.some.inj H
     go_wp2
     repeat ((first | go_quiet (fail) | go_region); try go_wp2)
     go_ret
     exact ⟨by first | rfl | (simp; done) | (simp [*]; done), by repeat (first | exact A1i.refl _ | apply A1i.step)⟩
 ·rw [if_neg c3] at H; obtain ⟨ao, ap⟩ := kqF c3
  have aq : (l0.length == l1.length) = false := by first | simpa using c3 | (simp at c3 ⊢; omega)
  obtain rfl := Option.some.inj H
  go_enter Tryd.func11, Tryd.ntmps11
  go_wp2
  repeat ((first | go_quiet (fail) | go_region); try go_wp2)
  go_ret
  exact ⟨by first | rfl | (simp; done) | (simp [*]; done), by repeat (first | exact A1i.refl _ | apply A1i.step)⟩
end Go.Proofs.YtiahbcaoikoogabDoor.All
end
