-- written by a program of the session out of the translation; Lean checks it
import Derived.Test.YtiahbcaoikoogaaAllx0
namespace Go.Proofs.Ytiahbcaoikoogaa.All
open Go.RowKit Go.Proofs.YtiahbcaoikoogaaW.PrintWords Go.Proofs.YtiahbcaoikoogaaW.PrintLast Go.Proofs.YtiahbcaoikoogaaW.PrintMore
attribute [local go_sem] max2_int min2_int max_two min_two max_three min_three max_four min_four   -- for this text's walks alone
set_option linter.unusedVariables false
set_option linter.unusedSimpArgs false

/-- A state of type 49 at block g of W; what its slices lead to came in by w0. -/
def IsS49 (w0 W : World) (g : Nat) (f0 : List (S75)) (f1 : Int) (f2 : Int) (f3 : Bool) : Prop := ∃ A0 c0, W.heap[g]? = some (.cells #[.slice A0 f0.length c0, .int .i64 f1, .int .i64 f2, .bool f3] 49 (0, 0)) ∧ w0.heap.size ≤ g ∧ Kd.C k75 w0 A0 f0.length f0
theorem IsS49.grown {w0 W : World} {g : Nat} {f0 : List (S75)} {f1 : Int} {f2 : Int} {f3 : Bool} {W1 : World} {row : Option Nat} (h : IsS49 w0 W g f0 f1 f2 f3) (hw : W.grownBy W1 row) (hne : some g ≠ row) : IsS49 w0 W1 g f0 f1 f2 f3 := by
 obtain ⟨A0, c0, hb, hg, hr0⟩ := h
 exact ⟨A0, c0, blk_grown hb hw hne, hg, hr0⟩
theorem IsS49.own_neN {w0 W : World} {g : Nat} {f0 : List (S75)} {f1 : Int} {f2 : Int} {f3 : Bool} {α : Type} {d : Kd α} {e : Nat} {base : Nat} {ok : Nat → Prop} {v : Value} {xs : List α} (h : IsS49 w0 W g f0 f1 f2 f3) (ho : Kd.N d e W base ok v xs) (ht : e ≠ 49) : some g ≠ v.ownBlock := by
 obtain ⟨A0, c0, hb, hg, hr0⟩ := h
 exact Kd.N_ne ho hb ht
theorem IsS49.fresh {w0 W : World} {g : Nat} {f0 : List (S75)} {f1 : Int} {f2 : Int} {f3 : Bool} (h : IsS49 w0 W g f0 f1 f2 f3) : ∀ k, W.heap.size ≤ k → k ≠ g := by
 obtain ⟨A0, c0, hb, hg, hr0⟩ := h
 exact Kd.freshB hb
theorem IsS49.kept {w0 W : World} {g : Nat} {f0 : List (S75)} {f1 : Int} {f2 : Int} {f3 : Bool} {W1 : World} {S : Nat → Prop} (h : IsS49 w0 W g f0 f1 f2 f3) (hk : Kept W W1 S) (hne : ¬ S g) : IsS49 w0 W1 g f0 f1 f2 f3 := by
 obtain ⟨A0, c0, hb, hg, hr0⟩ := h
 exact ⟨A0, c0, blk_kept hb hk hne, hg, hr0⟩
theorem IsS49.below {w0 W : World} {g : Nat} {f0 : List (S75)} {f1 : Int} {f2 : Int} {f3 : Bool} {W1 : World} (h : IsS49 w0 W g f0 f1 f2 f3) (hw : Below W.heap.size W W1) : IsS49 w0 W1 g f0 f1 f2 f3 := h.grown (grown_of_below hw none) (by simp)
theorem IsS49.alloc {w0 W : World} {g : Nat} {f0 : List (S75)} {f1 : Int} {f2 : Int} {f3 : Bool} (h : IsS49 w0 W g f0 f1 f2 f3) (o : Obj) : IsS49 w0 (W.alloc o) g f0 f1 f2 f3 := h.below (below_alloc (Below.refl _ _) o)
theorem IsS49.drewN {w0 W : World} {g : Nat} {f0 : List (S75)} {f1 : Int} {f2 : Int} {f3 : Bool} (h : IsS49 w0 W g f0 f1 f2 f3) (m : Nat) : IsS49 w0 (W.drewN m) g f0 f1 f2 f3 := h
theorem IsS49.drew {w0 W : World} {g : Nat} {f0 : List (S75)} {f1 : Int} {f2 : Int} {f3 : Bool} (h : IsS49 w0 W g f0 f1 f2 f3) : IsS49 w0 W.drew g f0 f1 f2 f3 := h
theorem IsS49.at_ {w0 W : World} {g : Nat} {f0 : List (S75)} {f1 : Int} {f2 : Int} {f3 : Bool} {w' : World} {m : Nat} (hq : W.drewN m = w') (h : IsS49 w0 W g f0 f1 f2 f3) : IsS49 w0 w' g f0 f1 f2 f3 := by subst hq; exact IsS49.drewN h m
theorem IsS49.apart {w0 W : World} {g : Nat} {f0 : List (S75)} {f1 : Int} {f2 : Int} {f3 : Bool} {α : Type} {d : Kd α} {e : Nat} {base : Nat} {ok : Nat → Prop} {v : Value} {xs : List α} (h : IsS49 w0 W g f0 f1 f2 f3) (ho : d.R e W base ok v xs) (ht : ∀ q, q ∈ e :: d.E → q ≠ 49) : d.R e W base (fun k => ok k ∧ k ≠ g) v xs := by
 obtain ⟨A0, c0, hb, hg, hr0⟩ := h
 exact Kd.R_types ho hb ht
theorem IsS49.own_ne {w0 W : World} {g : Nat} {f0 : List (S75)} {f1 : Int} {f2 : Int} {f3 : Bool} {α : Type} {d : Kd α} {e : Nat} {base : Nat} {ok : Nat → Prop} {v : Value} {xs : List α} (h : IsS49 w0 W g f0 f1 f2 f3) (ho : d.R e W base ok v xs) (ht : e ≠ 49) : some g ≠ v.ownBlock := by
 obtain ⟨A0, c0, hb, hg, hr0⟩ := h
 exact Kd.R_ne ho hb ht
theorem IsS49.apartQ {w0 W : World} {g : Nat} {f0 : List (S75)} {f1 : Int} {f2 : Int} {f3 : Bool} {α : Type} {d : Kd α} {e : Nat} {base : Nat} {ok : Nat → Prop} {v : Value} {xs : List α} (h : IsS49 w0 W g f0 f1 f2 f3) (ho : d.Q e W base ok v xs) (ht : ∀ q, q ∈ e :: d.E → q ≠ 49) : d.Q e W base (fun k => ok k ∧ k ≠ g) v xs := by
 obtain ⟨A0, c0, hb, hg, hr0⟩ := h
 exact Kd.Q_types ho hb ht
theorem IsS49.own_neQ {w0 W : World} {g : Nat} {f0 : List (S75)} {f1 : Int} {f2 : Int} {f3 : Bool} {α : Type} {d : Kd α} {e : Nat} {base : Nat} {ok : Nat → Prop} {v : Value} {xs : List α} (h : IsS49 w0 W g f0 f1 f2 f3) (ho : d.Q e W base ok v xs) (ht : e ≠ 49) : some g ≠ v.ownBlock := by
 obtain ⟨A0, c0, hb, hg, hr0⟩ := h
 exact Kd.Q_ne ho hb ht
theorem IsS49.apartS {w0 W : World} {g : Nat} {f0 : List (S75)} {f1 : Int} {f2 : Int} {f3 : Bool} {α : Type} {d : Kd α} {e : Nat} {base : Nat} {ok : Nat → Prop} {v : Value} {xs : List α} (h : IsS49 w0 W g f0 f1 f2 f3) (ho : d.S e W base ok v xs) (ht : ∀ q, q ∈ e :: d.E → q ≠ 49) : d.S e W base (fun k => ok k ∧ k ≠ g) v xs := by
 obtain ⟨A0, c0, hb, hg, hr0⟩ := h
 exact Kd.S_types ho hb ht
theorem IsS49.own_neS {w0 W : World} {g : Nat} {f0 : List (S75)} {f1 : Int} {f2 : Int} {f3 : Bool} {α : Type} {d : Kd α} {e : Nat} {base : Nat} {ok : Nat → Prop} {v : Value} {xs : List α} (h : IsS49 w0 W g f0 f1 f2 f3) (ho : d.S e W base ok v xs) (ht : e ≠ 49) : some g ≠ v.ownBlock := by
 obtain ⟨A0, c0, hb, hg, hr0⟩ := h
 exact Kd.S_ne ho hb ht
theorem IsS49.lt {w0 W : World} {g : Nat} {f0 : List (S75)} {f1 : Int} {f2 : Int} {f3 : Bool} (h : IsS49 w0 W g f0 f1 f2 f3) : g < W.heap.size := by
 obtain ⟨A0, c0, hb, hg, hr0⟩ := h
 exact blk_lt hb
theorem IsS49.ge {w0 W : World} {g : Nat} {f0 : List (S75)} {f1 : Int} {f2 : Int} {f3 : Bool} (h : IsS49 w0 W g f0 f1 f2 f3) : w0.heap.size ≤ g := by
 obtain ⟨A0, c0, hb, hg, hr0⟩ := h
 exact hg
theorem IsS49.ne_blk {w0 W : World} {g : Nat} {f0 : List (S75)} {f1 : Int} {f2 : Int} {f3 : Bool} {a : Nat} {cs : Array Value} {t : TypeId} {fr : Nat × Nat} (h : IsS49 w0 W g f0 f1 f2 f3) (hb2 : W.heap[a]? = some (.cells cs t fr)) (ht : t ≠ 49) : g ≠ a := by
 obtain ⟨A0, c0, hb, hg, hr0⟩ := h
 rintro rfl
 rw [hb] at hb2
 injection hb2 with hb2
 injection hb2 with _ ht2
 exact ht ht2.symm
theorem IsS49.far {w0 W : World} {g : Nat} {f0 : List (S75)} {f1 : Int} {f2 : Int} {f3 : Bool} {p : Addr} (h : IsS49 w0 W g f0 f1 f2 f3) (hne : g ≠ p.block) (u : Value) : IsS49 w0 (W.setCell p u) g f0 f1 f2 f3 := by
 obtain ⟨A0, c0, hb, hg, hr0⟩ := h
 exact ⟨A0, c0, blk_far hb hne u, hg, hr0⟩
theorem cellS49_0 {W : World} {g : Nat} {A0 : Option Addr} {c0 : Nat} {f0 : List (S75)} {f1 : Int} {f2 : Int} {f3 : Bool} (h : W.heap[g]? = some (.cells #[.slice A0 f0.length c0, .int .i64 f1, .int .i64 f2, .bool f3] 49 (0, 0))) : W.cell? ⟨g, 0, none⟩ = some (.slice A0 f0.length c0) := (blk_cell h 0).trans rfl
theorem cellS49_1 {W : World} {g : Nat} {A0 : Option Addr} {c0 : Nat} {f0 : List (S75)} {f1 : Int} {f2 : Int} {f3 : Bool} (h : W.heap[g]? = some (.cells #[.slice A0 f0.length c0, .int .i64 f1, .int .i64 f2, .bool f3] 49 (0, 0))) : W.cell? ⟨g, 1, none⟩ = some (.int .i64 f1) := (blk_cell h 1).trans rfl
theorem IsS49.set_1 {w0 W : World} {g : Nat} {f0 : List (S75)} {f1 : Int} {f2 : Int} {f3 : Bool} (h : IsS49 w0 W g f0 f1 f2 f3) (x : Int) : IsS49 w0 (W.setCell ⟨g, 1, none⟩ (.int .i64 x)) g f0 x f2 f3 := by
 obtain ⟨A0, c0, hb, hg, hr0⟩ := h
 exact ⟨A0, c0, by simpa using blk_set hb 1 (.int .i64 x), hg, hr0⟩
theorem cellS49_2 {W : World} {g : Nat} {A0 : Option Addr} {c0 : Nat} {f0 : List (S75)} {f1 : Int} {f2 : Int} {f3 : Bool} (h : W.heap[g]? = some (.cells #[.slice A0 f0.length c0, .int .i64 f1, .int .i64 f2, .bool f3] 49 (0, 0))) : W.cell? ⟨g, 2, none⟩ = some (.int .i64 f2) := (blk_cell h 2).trans rfl
theorem IsS49.set_2 {w0 W : World} {g : Nat} {f0 : List (S75)} {f1 : Int} {f2 : Int} {f3 : Bool} (h : IsS49 w0 W g f0 f1 f2 f3) (x : Int) : IsS49 w0 (W.setCell ⟨g, 2, none⟩ (.int .i64 x)) g f0 f1 x f3 := by
 obtain ⟨A0, c0, hb, hg, hr0⟩ := h
 exact ⟨A0, c0, by simpa using blk_set hb 2 (.int .i64 x), hg, hr0⟩
theorem cellS49_3 {W : World} {g : Nat} {A0 : Option Addr} {c0 : Nat} {f0 : List (S75)} {f1 : Int} {f2 : Int} {f3 : Bool} (h : W.heap[g]? = some (.cells #[.slice A0 f0.length c0, .int .i64 f1, .int .i64 f2, .bool f3] 49 (0, 0))) : W.cell? ⟨g, 3, none⟩ = some (.bool f3) := (blk_cell h 3).trans rfl
theorem IsS49.set_3 {w0 W : World} {g : Nat} {f0 : List (S75)} {f1 : Int} {f2 : Int} {f3 : Bool} (h : IsS49 w0 W g f0 f1 f2 f3) (x : Bool) : IsS49 w0 (W.setCell ⟨g, 3, none⟩ (.bool x)) g f0 f1 f2 x := by
 obtain ⟨A0, c0, hb, hg, hr0⟩ := h
 exact ⟨A0, c0, by simpa using blk_set hb 3 (.bool x), hg, hr0⟩
theorem IsS49.new (w0 W : World) (A0 : Option Addr) (c0 : Nat) (f0 : List (S75)) (f1 : Int) (f2 : Int) (f3 : Bool) (hB : Below w0.heap.size w0 W) (hr0 : Kd.C k75 w0 A0 f0.length f0) : IsS49 w0 (W.alloc (.cells #[.slice A0 f0.length c0, .int .i64 f1, .int .i64 f2, .bool f3] 49)) W.heap.size f0 f1 f2 f3 := ⟨A0, c0, by simpa using heap_alloc_new W _, hB.size, hr0⟩

theorem IsS49.farA {w0 W : World} {g g' j : Nat} {u : Value} {f0 : List (S75)} {f1 : Int} {f2 : Int} {f3 : Bool} (h : IsS49 w0 W g f0 f1 f2 f3) (hne : Aside0 (g ≠ g')) : IsS49 w0 (W.setCell ⟨g', j, none⟩ u) g f0 f1 f2 f3 := h.far (by exact hne.out) u
theorem IsS49.k {w0 W W' : World} {g : Nat} {f0 f0' : List (S75)} {f1 f1' : Int} {f2 f2' : Int} {f3 f3' : Bool} (h : Aside0 (IsS49 w0 W g f0 f1 f2 f3)) (hh : IsS49 w0 W g f0 f1 f2 f3 → IsS49 w0 W' g f0' f1' f2' f3' := by (intro h0_; repeat (first | (with_reducible first | exact h0_ | apply IsS49.alloc | apply IsS49.drewN | apply IsS49.drew | apply IsS49.set_1 | apply IsS49.set_2 | apply IsS49.set_3 | refine IsS49.farA ?_ (by assumption)) | exact h0_))) : IsS49 w0 W' g f0' f1' f2' f3' := hh h.out
theorem IsS49.kl {w W W' : World} (h : Aside0 (Below w.heap.size w W)) (hh : Below w.heap.size w W → Below w.heap.size w W' := by (intro h0_; repeat (first | (with_reducible first | exact h0_ | apply below_alloc | apply pw_below_drewN | apply below_drew1 | refine below_set ?_ (IsS49.ge (Aside0.out (by assumption))) | refine below_set ?_ (Aside0.out (by assumption))) | exact h0_))) : Below w.heap.size w W' := hh h.out
/-! ### gaiterref09_New: function 11 -/
def gaiterref09_New.f (l0 : List (S75)) (a1 : Int) : Option ((List (S75)) × Int × Int × Bool) := some (l0, a1, (-1), false)
set_option maxHeartbeats 8000000 in
set_option maxRecDepth 100000 in
theorem gaiterref09_New.calls (A0 : Option Addr) (c0 : Nat) (l0 : List (S75)) (a1 : Int) (r1 : List (S75)) (r2 : Int) (r3 : Int) (r4 : Bool) (w0 w : World) (hB : Below w0.heap.size w0 w) (hr0 : Kd.C k75 w0 A0 l0.length l0) (hc0 : l0.length ≤ c0) (h : gaiterref09_New.f l0 a1 = some (r1, r2, r3, r4)) :
  Calls Try.prog 11 #[.slice A0 l0.length c0, .int .i64 a1] w fun e w' => ∃ g_ : Nat, e = .returned (.pointer (some ⟨g_, 0, none⟩)) ∧ IsS49 w0 w' g_ r1 r2 r3 r4 ∧ Below w0.heap.size w0 w' ∧ Below w.heap.size w w' ∧ w.heap.size ≤ g_ := by
 have hu49 := Try.underlying49
 have HR0 := Aside0.mk hr0
 have HC0 := Aside0.mk hc0
 clear hr0 hc0
 have HBW := Aside0.mk (Below.refl w.heap.size w)
 have HW0 := Aside0.mk hB.size
 have HB := Aside0.mk hB
 clear hB
 have H : (some (l0, a1, (-1), false)) = some (r1, r2, r3, r4) := h
 clear h
 simp only [Option.some.injEq, Prod.mk.injEq] at H
 obtain ⟨rfl, rfl, rfl, rfl⟩ := H
 go_enter Try.func11, Try.ntmps11
 go_wp2_with (first | ((with_reducible refine gate_dst (N := 8) rfl ?_); refine box_event ?hg (N := 8) ?hd (cs := #[.slice A0 l0.length c0, .int .i64 a1, .int .i64 (-1), .bool false]) (t := 49) ?hr ?_; (case hd => rfl); (case hg => rfl); (case hr => first | (go_simp; done) | (go_simp; rfl)); intro gb158 hg w3 hbox hb; replace HB := kH HB hb; have BK158 := Aside0.mk (hbox); have GW158 := Aside0.mk ((by rw [hg]; exact (below_size (by repeat (first | (with_reducible first | exact HBW.out | apply below_alloc | apply pw_below_drewN | apply below_drew1) | exact HBW.out))) : w.heap.size ≤ gb158)); have GE158 := Aside0.mk ((Nat.le_trans HW0.out (by rw [hg]; exact (below_size (by repeat (first | (with_reducible first | exact HBW.out | apply below_alloc | apply pw_below_drewN | apply below_drew1) | exact HBW.out))) : w.heap.size ≤ gb158) : w0.heap.size ≤ gb158)); replace HBW := Aside0.mk (below_step HBW.out hb); clear hb hbox hg))
 go_ret
 exact ⟨_, rfl, (show IsS49 w0 _ gb158 l0 a1 (-1) false from ⟨_, _, by (with_reducible repeat (first | refine blk_drewN ?_ _ | refine blk_drew ?_ | refine blk_alloc ?_ _)); exact BK158.out, GE158.out, HR0.out⟩), (kl HB), (by repeat (first | (with_reducible first | exact HBW.out | apply below_alloc | apply pw_below_drewN | apply below_drew1 | refine below_set ?_ GW158.out) | exact HBW.out)), GW158.out⟩

/-! ### gaiterref09_Cursor_SeekTo: function 13 -/
def gaiterref09_Cursor_SeekTo.l0 : Nat → Int → Int → List (S75) → Int → Int → Bool → Option (Bool × Int × Int × Bool)
 | 0, _, _, _, _, _, _ => none
 | k + 1, x1, x5, x1000, x1001, x1002, x1003 => if x5 < (x1000.length : Int) then (if 0 ≤ x5 then (if ((rd_T75 x1000 x5).f0) < x1 then (gaiterref09_Cursor_SeekTo.l0 k x1 (wrap64 (x5 + 1)) x1000 x1001 x1002 x1003) else (if x5 ≥ (x1000.length : Int) then (some (false, x1001, x1002, true)) else (some (true, x1001, x5, x1003)))) else (none)) else (if x5 ≥ (x1000.length : Int) then (some (false, x1001, x1002, true)) else (some (true, x1001, x5, x1003)))
def gaiterref09_Cursor_SeekTo.f (k : Nat) (s0_0 : List (S75)) (s0_1 : Int) (s0_2 : Int) (s0_3 : Bool) (a1 : Int) : Option (Bool × Int × Int × Bool) := if s0_3 = true then (some (false, s0_1, s0_2, s0_3)) else (gaiterref09_Cursor_SeekTo.l0 k a1 (mx s0_2 0) s0_0 s0_1 s0_2 s0_3)
theorem gaiterref09_Cursor_SeekTo.mono_l : ∀ k, (∀ y0 y1 y2 y3 y4 y5, LeO (gaiterref09_Cursor_SeekTo.l0 k y0 y1 y2 y3 y4 y5) (gaiterref09_Cursor_SeekTo.l0 (k + 1) y0 y1 y2 y3 y4 y5))
 | 0 => fun _ _ _ _ _ _ r h => by simp [gaiterref09_Cursor_SeekTo.l0] at h
 | k + 1 => by
  have ih0 := gaiterref09_Cursor_SeekTo.mono_l k
  ·intro y0 y1 y2 y3 y4 y5
   unfold gaiterref09_Cursor_SeekTo.l0
   repeat' first
   | (with_reducible exact ih0 _ _ _ _ _ _)
   | (with_reducible exact LeO.refl _)
   | (with_reducible exact LeO.none _)
   | (with_reducible refine LeO.ite ?_ ?_)
   | (with_reducible refine LeO.bind ?_ (fun _ => ?_))
   | exact ih0 _ _ _ _ _ _
   | exact LeO.none _
   | refine LeO.ite ?_ ?_
   | refine LeO.bind ?_ (fun _ => ?_)
theorem gaiterref09_Cursor_SeekTo.mono : ∀ a0 a1 a2 a3 a4 k, LeO (gaiterref09_Cursor_SeekTo.f k a0 a1 a2 a3 a4) (gaiterref09_Cursor_SeekTo.f (k + 1) a0 a1 a2 a3 a4) := by
 intro a0 a1 a2 a3 a4 k
 have ih0 := gaiterref09_Cursor_SeekTo.mono_l k
 unfold gaiterref09_Cursor_SeekTo.f
 repeat' first
   | (with_reducible exact ih0 _ _ _ _ _ _)
   | (with_reducible exact LeO.refl _)
   | (with_reducible exact LeO.none _)
   | (with_reducible refine LeO.ite ?_ ?_)
   | (with_reducible refine LeO.bind ?_ (fun _ => ?_))
   | exact ih0 _ _ _ _ _ _
   | exact LeO.none _
   | refine LeO.ite ?_ ?_
   | refine LeO.bind ?_ (fun _ => ?_)
set_option maxHeartbeats 8000000 in
set_option maxRecDepth 100000 in
theorem gaiterref09_Cursor_SeekTo.calls (k : Nat) (g : Nat) (s0_0 : List (S75)) (s0_1 : Int) (s0_2 : Int) (s0_3 : Bool) (a1 : Int) (r1 : Bool) (r2 : Int) (r3 : Int) (r4 : Bool) (w0 w : World) (hI : IsS49 w0 w g s0_0 s0_1 s0_2 s0_3) (hB : Below w0.heap.size w0 w) (h : gaiterref09_Cursor_SeekTo.f k s0_0 s0_1 s0_2 s0_3 a1 = some (r1, r2, r3, r4)) :
  Calls Try.prog 13 #[.pointer (some ⟨g, 0, none⟩), .int .i64 a1] w fun e w' => e = .returned (.bool r1) ∧ IsS49 w0 w' g s0_0 r2 r3 r4 ∧ Below w0.heap.size w0 w' ∧ KeepBut w w' g none := by
 have HI0 := Aside0.mk hI
 have HK := Aside0.mk (KeepBut.refl w g none)
 have HL := Aside0.mk hB.size
 clear hI
 have HW0 := Aside0.mk hB.size
 have HB := Aside0.mk hB
 clear hB
 have H : (if s0_3 = true then (some (false, s0_1, s0_2, s0_3)) else (gaiterref09_Cursor_SeekTo.l0 k a1 (mx s0_2 0) s0_0 s0_1 s0_2 s0_3)) = some (r1, r2, r3, r4) := h
 clear h
 by_cases c3 : s0_3 = true
 ·subst c3
  have H1 : (some (false, s0_1, s0_2, true)) = some (r1, r2, r3, r4) := by rw [if_pos rfl] at H; exact H
  clear H
  have H := H1
  clear H1
  simp only [Option.some.injEq, Prod.mk.injEq] at H
  obtain ⟨rfl, rfl, rfl, rfl⟩ := H
  obtain ⟨ASz4_0, cSz4_0, HGz4, hgz4, HSz4_0⟩ := HI0.out
  have hcz4_0 := cellS49_0 HGz4
  have hcz4_1 := cellS49_1 HGz4
  have hcz4_2 := cellS49_2 HGz4
  have hcz4_3 := cellS49_3 HGz4
  have hfz4_1 := blk_frozen HGz4 1
  have hfz4_2 := blk_frozen HGz4 2
  have hfz4_3 := blk_frozen HGz4 3
  clear HGz4 hgz4
  go_enter Try.func13, Try.ntmps13
  go_wp2
  go_ret
  exact ⟨by first | rfl | (simp [errW_none, errW_some] <;> rfl) | (simp [*, errW_none, errW_some] <;> rfl), (IsS49.k HI0), (IsS49.kl HB), (kk HK)⟩
 ·replace c3 := Bool.eq_false_iff.mpr c3
  subst c3
  have H1 : (gaiterref09_Cursor_SeekTo.l0 k a1 (mx s0_2 0) s0_0 s0_1 s0_2 false) = some (r1, r2, r3, r4) := by rw [if_neg (show ¬ (false = true) by decide)] at H; exact H
  clear H
  have H := H1
  clear H1
  obtain ⟨ji5, hji5⟩ : ∃ j_ : Int, (mx s0_2 0) = j_ := ⟨_, rfl⟩
  replace H : (gaiterref09_Cursor_SeekTo.l0 k a1 ji5 s0_0 s0_1 s0_2 false) = some (r1, r2, r3, r4) := by first | (rw [hji5] at H; exact H) | (simp only [hji5] at H ⊢; exact H)
  (try (have hji5l : 0 ≤ ji5 := by (rw [← hji5]; unfold mx; (repeat' split) <;> omega)))
  (try (have hji5m : 0 ≤ ji5 := by omega))
  have hji5_ : (if s0_2 < 0 then 0 else s0_2) = ji5 := hji5
  (try (have hji5n := hji5_; simp only [Int.ofNat_lt] at hji5n))
  have H' := Aside0.mk H
  clear H
  obtain ⟨ASz6_0, cSz6_0, HGz6, hgz6, HSz6_0⟩ := HI0.out
  have hcz6_0 := cellS49_0 HGz6
  have hcz6_1 := cellS49_1 HGz6
  have hcz6_2 := cellS49_2 HGz6
  have hcz6_3 := cellS49_3 HGz6
  have hfz6_1 := blk_frozen HGz6 1
  have hfz6_2 := blk_frozen HGz6 2
  have hfz6_3 := blk_frozen HGz6 3
  clear HGz6 hgz6
  go_enter Try.func13, Try.ntmps13
  go_wp2
  go_loopg [5] k (fun kq v5 w' => ∃ (x5_1 : Int), v5 = .int .i64 x5_1 ∧ Aside0 (gaiterref09_Cursor_SeekTo.l0 kq a1 x5_1 s0_0 s0_1 s0_2 false = some (r1, r2, r3, r4)) ∧ Aside0 (kq ≤ k) ∧ Aside0 (IsS49 w0 w' g s0_0 s0_1 s0_2 false) ∧ Aside0 (KeepBut w w' g none) ∧ Aside0 (Below w0.heap.size w0 w'))
  case atStart => exact ⟨(ji5), (by first | rfl | (simp; done) | (simp only [← hji5] <;> (first | rfl | simp)) | (simp [*]; done)), H', ⟨Nat.le_refl _⟩, ⟨(IsS49.k HI0)⟩, ⟨(kk HK)⟩, ⟨(IsS49.kl HB)⟩⟩
  case round =>
   clear H'
   try clear c1
   try clear p2
   try clear c3
   try clear hcz4_0
   try clear hcz4_1
   try clear hcz4_2
   try clear hcz4_3
   try clear hcz6_0
   try clear hcz6_1
   try clear hcz6_2
   try clear hcz6_3
   try clear hfz4_1
   try clear hfz4_2
   try clear hfz4_3
   try clear hfz6_1
   try clear hfz6_2
   try clear hfz6_3
   obtain ⟨x5_1, rfl, HA, HK1, HI0, HK, HB⟩ := hrel
   cases gk with
   | zero => exact absurd HA.out (by simp [gaiterref09_Cursor_SeekTo.l0])
   | succ k1 =>
    have H := HA.out
    clear HA
    simp only [gaiterref09_Cursor_SeekTo.l0] at H
    by_cases c7 : x5_1 < (s0_0.length : Int)
    ·rw [if_pos c7] at H
     have c7b0 : decide (x5_1 < (s0_0.length : Int)) = true := decide_eq_true c7
     clear c7
     by_cases c8 : 0 ≤ x5_1
     ·rw [if_pos c8] at H
      have c8b0 : decide (0 ≤ x5_1) = true := decide_eq_true c8
      clear c8
      by_cases c9 : ((rd_T75 s0_0 x5_1).f0) < a1
      ·rw [if_pos c9] at H
       have c9b0 : decide (((rd_T75 s0_0 x5_1).f0) < a1) = true := decide_eq_true c9
       clear c9
       have H' := Aside0.mk H
       clear H
       obtain ⟨ASz10_0, cSz10_0, HGz10, hgz10, HSz10_0⟩ := HI0.out
       have hcz10_0 := cellS49_0 HGz10
       have hcz10_1 := cellS49_1 HGz10
       have hcz10_2 := cellS49_2 HGz10
       have hcz10_3 := cellS49_3 HGz10
       have hfz10_1 := blk_frozen HGz10 1
       have hfz10_2 := blk_frozen HGz10 2
       have hfz10_3 := blk_frozen HGz10 3
       clear HGz10 hgz10
       have p159 : 0 ≤ (x5_1 : Int) := of_decide_eq_true (by first | (with_reducible assumption) | assumption)
       have q159 : x5_1 < (s0_0.length : Int) := of_decide_eq_true (by first | (with_reducible assumption) | assumption)
       obtain ⟨ad159, e159, hx159_0, hx159_1⟩ := at_T75 HSz10_0 x5_1 p159 q159
       cases e159
       replace hx159_0 := pw_cell_below HB.out hx159_0
       replace hx159_1 := pw_cell_below HB.out hx159_1
       replace p159 := eq_true p159
       (try (have q159s := q159; simp only [List.length_drop, List.length_take] at q159s; replace q159s := eq_true q159s)); replace q159 := eq_true q159
       go_wp2
       go_roundg k1
       case measure => have := HK1.out; omega
       case rel => exact ⟨(wrap64 (x5_1 + 1)), (by first | rfl | (simp; done) | (simp [*]; done)), H', ⟨by have := HK1.out; omega⟩, ⟨(IsS49.k HI0)⟩, ⟨(kk HK)⟩, ⟨(IsS49.kl HB)⟩⟩
      ·rw [if_neg c9] at H
       have c9b0 : decide (((rd_T75 s0_0 x5_1).f0) < a1) = false := decide_eq_false c9
       clear c9
       by_cases c11 : x5_1 ≥ (s0_0.length : Int)
       ·rw [if_pos c11] at H
        have c11b0 : decide ((s0_0.length : Int) ≤ x5_1) = true := decide_eq_true c11
        clear c11
        simp only [Option.some.injEq, Prod.mk.injEq] at H
        obtain ⟨rfl, rfl, rfl, rfl⟩ := H
        obtain ⟨ASz12_0, cSz12_0, HGz12, hgz12, HSz12_0⟩ := HI0.out
        have hcz12_0 := cellS49_0 HGz12
        have hcz12_1 := cellS49_1 HGz12
        have hcz12_2 := cellS49_2 HGz12
        have hcz12_3 := cellS49_3 HGz12
        have hfz12_1 := blk_frozen HGz12 1
        have hfz12_2 := blk_frozen HGz12 2
        have hfz12_3 := blk_frozen HGz12 3
        clear HGz12 hgz12
        have p159 : 0 ≤ (x5_1 : Int) := of_decide_eq_true (by first | (with_reducible assumption) | assumption)
        have q159 : x5_1 < (s0_0.length : Int) := of_decide_eq_true (by first | (with_reducible assumption) | assumption)
        obtain ⟨ad159, e159, hx159_0, hx159_1⟩ := at_T75 HSz12_0 x5_1 p159 q159
        cases e159
        replace hx159_0 := pw_cell_below HB.out hx159_0
        replace hx159_1 := pw_cell_below HB.out hx159_1
        replace p159 := eq_true p159
        (try (have q159s := q159; simp only [List.length_drop, List.length_take] at q159s; replace q159s := eq_true q159s)); replace q159 := eq_true q159
        go_wp2
        go_ret
        exact ⟨by first | rfl | (simp [errW_none, errW_some] <;> rfl) | (simp only [← hji5]; first | rfl | (simp [errW_none, errW_some] <;> rfl)) | (simp [*, errW_none, errW_some] <;> rfl), (IsS49.k HI0), (IsS49.kl HB), (kk HK)⟩
       ·rw [if_neg c11] at H
        have c11b0 : decide ((s0_0.length : Int) ≤ x5_1) = false := decide_eq_false c11
        clear c11
        simp only [Option.some.injEq, Prod.mk.injEq] at H
        obtain ⟨rfl, rfl, rfl, rfl⟩ := H
        obtain ⟨ASz13_0, cSz13_0, HGz13, hgz13, HSz13_0⟩ := HI0.out
        have hcz13_0 := cellS49_0 HGz13
        have hcz13_1 := cellS49_1 HGz13
        have hcz13_2 := cellS49_2 HGz13
        have hcz13_3 := cellS49_3 HGz13
        have hfz13_1 := blk_frozen HGz13 1
        have hfz13_2 := blk_frozen HGz13 2
        have hfz13_3 := blk_frozen HGz13 3
        clear HGz13 hgz13
        have p159 : 0 ≤ (x5_1 : Int) := of_decide_eq_true (by first | (with_reducible assumption) | assumption)
        have q159 : x5_1 < (s0_0.length : Int) := of_decide_eq_true (by first | (with_reducible assumption) | assumption)
        obtain ⟨ad159, e159, hx159_0, hx159_1⟩ := at_T75 HSz13_0 x5_1 p159 q159
        cases e159
        replace hx159_0 := pw_cell_below HB.out hx159_0
        replace hx159_1 := pw_cell_below HB.out hx159_1
        replace p159 := eq_true p159
        (try (have q159s := q159; simp only [List.length_drop, List.length_take] at q159s; replace q159s := eq_true q159s)); replace q159 := eq_true q159
        go_wp2
        go_ret
        exact ⟨by first | rfl | (simp [errW_none, errW_some] <;> rfl) | (simp only [← hji5]; first | rfl | (simp [errW_none, errW_some] <;> rfl)) | (simp [*, errW_none, errW_some] <;> rfl), (IsS49.k HI0), (IsS49.kl HB), (kk HK)⟩
     ·rw [if_neg c8] at H
      exact absurd H (by simp)
    ·rw [if_neg c7] at H
     have c7b0 : decide (x5_1 < (s0_0.length : Int)) = false := decide_eq_false c7
     clear c7
     by_cases c14 : x5_1 ≥ (s0_0.length : Int)
     ·rw [if_pos c14] at H
      have c14b0 : decide ((s0_0.length : Int) ≤ x5_1) = true := decide_eq_true c14
      clear c14
      simp only [Option.some.injEq, Prod.mk.injEq] at H
      obtain ⟨rfl, rfl, rfl, rfl⟩ := H
      obtain ⟨ASz15_0, cSz15_0, HGz15, hgz15, HSz15_0⟩ := HI0.out
      have hcz15_0 := cellS49_0 HGz15
      have hcz15_1 := cellS49_1 HGz15
      have hcz15_2 := cellS49_2 HGz15
      have hcz15_3 := cellS49_3 HGz15
      have hfz15_1 := blk_frozen HGz15 1
      have hfz15_2 := blk_frozen HGz15 2
      have hfz15_3 := blk_frozen HGz15 3
      clear HGz15 hgz15
      go_wp2
      go_ret
      exact ⟨by first | rfl | (simp [errW_none, errW_some] <;> rfl) | (simp only [← hji5]; first | rfl | (simp [errW_none, errW_some] <;> rfl)) | (simp [*, errW_none, errW_some] <;> rfl), (IsS49.k HI0), (IsS49.kl HB), (kk HK)⟩
     ·rw [if_neg c14] at H
      have c14b0 : decide ((s0_0.length : Int) ≤ x5_1) = false := decide_eq_false c14
      clear c14
      simp only [Option.some.injEq, Prod.mk.injEq] at H
      obtain ⟨rfl, rfl, rfl, rfl⟩ := H
      obtain ⟨ASz16_0, cSz16_0, HGz16, hgz16, HSz16_0⟩ := HI0.out
      have hcz16_0 := cellS49_0 HGz16
      have hcz16_1 := cellS49_1 HGz16
      have hcz16_2 := cellS49_2 HGz16
      have hcz16_3 := cellS49_3 HGz16
      have hfz16_1 := blk_frozen HGz16 1
      have hfz16_2 := blk_frozen HGz16 2
      have hfz16_3 := blk_frozen HGz16 3
      clear HGz16 hgz16
      go_wp2
      go_ret
      exact ⟨by first | rfl | (simp [errW_none, errW_some] <;> rfl) | (simp only [← hji5]; first | rfl | (simp [errW_none, errW_some] <;> rfl)) | (simp [*, errW_none, errW_some] <;> rfl), (IsS49.k HI0), (IsS49.kl HB), (kk HK)⟩

/-! ### gaiterref09_Cursor_Next: function 15 -/
def gaiterref09_Cursor_Next.f (s0_0 : List (S75)) (s0_1 : Int) (s0_2 : Int) (s0_3 : Bool) : Option (Bool × Int × Int × Bool) := if s0_3 = true then (some (false, s0_1, s0_2, true)) else (if (wrap64 (s0_2 + 1)) ≥ (s0_0.length : Int) then (some (false, s0_1, s0_2, true)) else (some (true, s0_1, wrap64 (s0_2 + 1), s0_3)))
set_option maxHeartbeats 8000000 in
set_option maxRecDepth 100000 in
theorem gaiterref09_Cursor_Next.calls (g : Nat) (s0_0 : List (S75)) (s0_1 : Int) (s0_2 : Int) (s0_3 : Bool) (r1 : Bool) (r2 : Int) (r3 : Int) (r4 : Bool) (w0 w : World) (hI : IsS49 w0 w g s0_0 s0_1 s0_2 s0_3) (hB : Below w0.heap.size w0 w) (h : gaiterref09_Cursor_Next.f s0_0 s0_1 s0_2 s0_3 = some (r1, r2, r3, r4)) :
  Calls Try.prog 15 #[.pointer (some ⟨g, 0, none⟩)] w fun e w' => e = .returned (.bool r1) ∧ IsS49 w0 w' g s0_0 r2 r3 r4 ∧ Below w0.heap.size w0 w' ∧ KeepBut w w' g none := by
 have HI0 := Aside0.mk hI
 have HK := Aside0.mk (KeepBut.refl w g none)
 have HL := Aside0.mk hB.size
 clear hI
 have HW0 := Aside0.mk hB.size
 have HB := Aside0.mk hB
 clear hB
 have H : (if s0_3 = true then (some (false, s0_1, s0_2, true)) else (if (wrap64 (s0_2 + 1)) ≥ (s0_0.length : Int) then (some (false, s0_1, s0_2, true)) else (some (true, s0_1, wrap64 (s0_2 + 1), s0_3)))) = some (r1, r2, r3, r4) := h
 clear h
 by_cases c2 : s0_3 = true
 ·subst c2
  have H1 : (some (false, s0_1, s0_2, true)) = some (r1, r2, r3, r4) := by rw [if_pos rfl] at H; exact H
  clear H
  have H := H1
  clear H1
  simp only [Option.some.injEq, Prod.mk.injEq] at H
  obtain ⟨rfl, rfl, rfl, rfl⟩ := H
  obtain ⟨ASz3_0, cSz3_0, HGz3, hgz3, HSz3_0⟩ := HI0.out
  have hcz3_0 := cellS49_0 HGz3
  have hcz3_1 := cellS49_1 HGz3
  have hcz3_2 := cellS49_2 HGz3
  have hcz3_3 := cellS49_3 HGz3
  have hfz3_1 := blk_frozen HGz3 1
  have hfz3_2 := blk_frozen HGz3 2
  have hfz3_3 := blk_frozen HGz3 3
  clear HGz3 hgz3
  go_enter Try.func15, Try.ntmps15
  go_wp2
  repeat ((first | go_quiet (fail) | go_region); try go_wp2)
  go_ret
  exact ⟨by first | rfl | (simp [errW_none, errW_some] <;> rfl) | (simp [*, errW_none, errW_some] <;> rfl), (IsS49.k HI0), (IsS49.kl HB), (kk HK)⟩
 ·replace c2 := Bool.eq_false_iff.mpr c2
  subst c2
  have H1 : (if (wrap64 (s0_2 + 1)) ≥ (s0_0.length : Int) then (some (false, s0_1, s0_2, true)) else (some (true, s0_1, wrap64 (s0_2 + 1), false))) = some (r1, r2, r3, r4) := by rw [if_neg (show ¬ (false = true) by decide)] at H; exact H
  clear H
  have H := H1
  clear H1
  by_cases c4 : (wrap64 (s0_2 + 1)) ≥ (s0_0.length : Int)
  ·rw [if_pos c4] at H
   have c4b0 : decide ((s0_0.length : Int) ≤ (wrap64 (s0_2 + 1))) = true := decide_eq_true c4
   clear c4
   simp only [Option.some.injEq, Prod.mk.injEq] at H
   obtain ⟨rfl, rfl, rfl, rfl⟩ := H
   obtain ⟨ASz5_0, cSz5_0, HGz5, hgz5, HSz5_0⟩ := HI0.out
   have hcz5_0 := cellS49_0 HGz5
   have hcz5_1 := cellS49_1 HGz5
   have hcz5_2 := cellS49_2 HGz5
   have hcz5_3 := cellS49_3 HGz5
   have hfz5_1 := blk_frozen HGz5 1
   have hfz5_2 := blk_frozen HGz5 2
   have hfz5_3 := blk_frozen HGz5 3
   clear HGz5 hgz5
   go_enter Try.func15, Try.ntmps15
   go_wp2
   repeat ((first | go_quiet (fail) | go_region); try go_wp2)
   go_ret
   exact ⟨by first | rfl | (simp [errW_none, errW_some] <;> rfl) | (simp [*, errW_none, errW_some] <;> rfl), (IsS49.k HI0), (IsS49.kl HB), (kk HK)⟩
  ·rw [if_neg c4] at H
   have c4b0 : decide ((s0_0.length : Int) ≤ (wrap64 (s0_2 + 1))) = false := decide_eq_false c4
   clear c4
   simp only [Option.some.injEq, Prod.mk.injEq] at H
   obtain ⟨rfl, rfl, rfl, rfl⟩ := H
   obtain ⟨ASz6_0, cSz6_0, HGz6, hgz6, HSz6_0⟩ := HI0.out
   have hcz6_0 := cellS49_0 HGz6
   have hcz6_1 := cellS49_1 HGz6
   have hcz6_2 := cellS49_2 HGz6
   have hcz6_3 := cellS49_3 HGz6
   have hfz6_1 := blk_frozen HGz6 1
   have hfz6_2 := blk_frozen HGz6 2
   have hfz6_3 := blk_frozen HGz6 3
   clear HGz6 hgz6
   go_enter Try.func15, Try.ntmps15
   go_wp2
   repeat ((first | go_quiet (fail) | go_region); try go_wp2)
   go_ret
   exact ⟨by first | rfl | (simp [errW_none, errW_some] <;> rfl) | (simp [*, errW_none, errW_some] <;> rfl), (IsS49.k HI0), (IsS49.kl HB), (kk HK)⟩

/-! ### gaiterref09_Cursor_Look: function 17 -/
def gaiterref09_Cursor_Look.f (s0_0 : List (S75)) (s0_1 : Int) (s0_2 : Int) (s0_3 : Bool) : Option (Int × Int × Int × Int × Bool) := if s0_3 = true then (some (0, 0, s0_1, s0_2, s0_3)) else (if s0_2 < 0 then (some (0, 0, s0_1, s0_2, s0_3)) else (if 0 ≤ s0_2 then (if s0_2 < (s0_0.length : Int) then (some ((rd_T75 s0_0 s0_2).f0, (rd_T75 s0_0 s0_2).f1, s0_1, s0_2, s0_3)) else (none)) else (none)))
set_option maxHeartbeats 8000000 in
set_option maxRecDepth 100000 in
theorem gaiterref09_Cursor_Look.calls (g : Nat) (s0_0 : List (S75)) (s0_1 : Int) (s0_2 : Int) (s0_3 : Bool) (r1 : Int) (r2 : Int) (r3 : Int) (r4 : Int) (r5 : Bool) (w0 w : World) (hI : IsS49 w0 w g s0_0 s0_1 s0_2 s0_3) (hB : Below w0.heap.size w0 w) (h : gaiterref09_Cursor_Look.f s0_0 s0_1 s0_2 s0_3 = some (r1, r2, r3, r4, r5)) :
  Calls Try.prog 17 #[.pointer (some ⟨g, 0, none⟩)] w fun e w' => e = .returned (.tuple #[.int .i64 r1, .int .u64 r2]) ∧ IsS49 w0 w' g s0_0 r3 r4 r5 ∧ Below w0.heap.size w0 w' ∧ KeepBut w w' g none := by
 have HI0 := Aside0.mk hI
 have HK := Aside0.mk (KeepBut.refl w g none)
 have HL := Aside0.mk hB.size
 clear hI
 have HW0 := Aside0.mk hB.size
 have HB := Aside0.mk hB
 clear hB
 have H : (if s0_3 = true then (some (0, 0, s0_1, s0_2, s0_3)) else (if s0_2 < 0 then (some (0, 0, s0_1, s0_2, s0_3)) else (if 0 ≤ s0_2 then (if s0_2 < (s0_0.length : Int) then (some ((rd_T75 s0_0 s0_2).f0, (rd_T75 s0_0 s0_2).f1, s0_1, s0_2, s0_3)) else (none)) else (none)))) = some (r1, r2, r3, r4, r5) := h
 clear h
 by_cases c2 : s0_3 = true
 ·subst c2
  have H1 : (some (0, 0, s0_1, s0_2, true)) = some (r1, r2, r3, r4, r5) := by rw [if_pos rfl] at H; exact H
  clear H
  have H := H1
  clear H1
  simp only [Option.some.injEq, Prod.mk.injEq] at H
  obtain ⟨rfl, rfl, rfl, rfl, rfl⟩ := H
  obtain ⟨ASz3_0, cSz3_0, HGz3, hgz3, HSz3_0⟩ := HI0.out
  have hcz3_0 := cellS49_0 HGz3
  have hcz3_1 := cellS49_1 HGz3
  have hcz3_2 := cellS49_2 HGz3
  have hcz3_3 := cellS49_3 HGz3
  have hfz3_1 := blk_frozen HGz3 1
  have hfz3_2 := blk_frozen HGz3 2
  have hfz3_3 := blk_frozen HGz3 3
  clear HGz3 hgz3
  go_enter Try.func17, Try.ntmps17
  go_wp2
  repeat ((first | go_quiet (fail) | go_region); try go_wp2)
  go_ret2
  exact ⟨by first | rfl | (simp [errW_none, errW_some] <;> rfl) | (simp [*, errW_none, errW_some] <;> rfl), (IsS49.k HI0), (IsS49.kl HB), (kk HK)⟩
 ·replace c2 := Bool.eq_false_iff.mpr c2
  subst c2
  have H1 : (if s0_2 < 0 then (some (0, 0, s0_1, s0_2, false)) else (if 0 ≤ s0_2 then (if s0_2 < (s0_0.length : Int) then (some ((rd_T75 s0_0 s0_2).f0, (rd_T75 s0_0 s0_2).f1, s0_1, s0_2, false)) else (none)) else (none))) = some (r1, r2, r3, r4, r5) := by rw [if_neg (show ¬ (false = true) by decide)] at H; exact H
  clear H
  have H := H1
  clear H1
  by_cases c4 : s0_2 < 0
  ·rw [if_pos c4] at H
   have c4b0 : decide (s0_2 < 0) = true := decide_eq_true c4
   clear c4
   simp only [Option.some.injEq, Prod.mk.injEq] at H
   obtain ⟨rfl, rfl, rfl, rfl, rfl⟩ := H
   obtain ⟨ASz5_0, cSz5_0, HGz5, hgz5, HSz5_0⟩ := HI0.out
   have hcz5_0 := cellS49_0 HGz5
   have hcz5_1 := cellS49_1 HGz5
   have hcz5_2 := cellS49_2 HGz5
   have hcz5_3 := cellS49_3 HGz5
   have hfz5_1 := blk_frozen HGz5 1
   have hfz5_2 := blk_frozen HGz5 2
   have hfz5_3 := blk_frozen HGz5 3
   clear HGz5 hgz5
   go_enter Try.func17, Try.ntmps17
   go_wp2
   repeat ((first | go_quiet (fail) | go_region); try go_wp2)
   go_ret2
   exact ⟨by first | rfl | (simp [errW_none, errW_some] <;> rfl) | (simp [*, errW_none, errW_some] <;> rfl), (IsS49.k HI0), (IsS49.kl HB), (kk HK)⟩
  ·rw [if_neg c4] at H
   have c4b0 : decide (s0_2 < 0) = false := decide_eq_false c4
   clear c4
   by_cases c6 : 0 ≤ s0_2
   ·rw [if_pos c6] at H
    have c6b0 : decide (0 ≤ s0_2) = true := decide_eq_true c6
    clear c6
    by_cases c7 : s0_2 < (s0_0.length : Int)
    ·rw [if_pos c7] at H
     have c7b0 : decide (s0_2 < (s0_0.length : Int)) = true := decide_eq_true c7
     clear c7
     simp only [Option.some.injEq, Prod.mk.injEq] at H
     obtain ⟨rfl, rfl, rfl, rfl, rfl⟩ := H
     obtain ⟨ASz8_0, cSz8_0, HGz8, hgz8, HSz8_0⟩ := HI0.out
     have hcz8_0 := cellS49_0 HGz8
     have hcz8_1 := cellS49_1 HGz8
     have hcz8_2 := cellS49_2 HGz8
     have hcz8_3 := cellS49_3 HGz8
     have hfz8_1 := blk_frozen HGz8 1
     have hfz8_2 := blk_frozen HGz8 2
     have hfz8_3 := blk_frozen HGz8 3
     clear HGz8 hgz8
     have p160 : 0 ≤ (s0_2 : Int) := of_decide_eq_true (by first | (with_reducible assumption) | assumption)
     have q160 : s0_2 < (s0_0.length : Int) := of_decide_eq_true (by first | (with_reducible assumption) | assumption)
     obtain ⟨ad160, e160, hx160_0, hx160_1⟩ := at_T75 HSz8_0 s0_2 p160 q160
     cases e160
     replace hx160_0 := pw_cell_below HB.out hx160_0
     replace hx160_1 := pw_cell_below HB.out hx160_1
     replace p160 := eq_true p160
     (try (have q160s := q160; simp only [List.length_drop, List.length_take] at q160s; replace q160s := eq_true q160s)); replace q160 := eq_true q160
     have p161 : 0 ≤ (s0_2 : Int) := of_decide_eq_true (by first | (with_reducible assumption) | assumption)
     have q161 : s0_2 < (s0_0.length : Int) := of_decide_eq_true (by first | (with_reducible assumption) | assumption)
     obtain ⟨ad161, e161, hx161_0, hx161_1⟩ := at_T75 HSz8_0 s0_2 p161 q161
     obtain rfl : ad160 = ad161 := (by injection e161)
     replace hx161_0 := pw_cell_below HB.out hx161_0
     replace hx161_1 := pw_cell_below HB.out hx161_1
     replace p161 := eq_true p161
     (try (have q161s := q161; simp only [List.length_drop, List.length_take] at q161s; replace q161s := eq_true q161s)); replace q161 := eq_true q161
     go_enter Try.func17, Try.ntmps17
     go_wp2
     repeat ((first | go_quiet (fail) | go_region); try go_wp2)
     go_ret2
     exact ⟨by first | rfl | (simp [errW_none, errW_some] <;> rfl) | (simp [*, errW_none, errW_some] <;> rfl), (IsS49.k HI0), (IsS49.kl HB), (kk HK)⟩
    ·rw [if_neg c7] at H
     exact absurd H (by simp)
   ·rw [if_neg c6] at H
    exact absurd H (by simp)

/-! ### gaiterref09_Cursor_Err: function 20 -/
def gaiterref09_Cursor_Err.f (s0_0 : List (S75)) (s0_1 : Int) (s0_2 : Int) (s0_3 : Bool) : Option (Int × Int × Int × Bool) := if s0_3 = true then (some (s0_1, s0_1, s0_2, s0_3)) else (some (0, s0_1, s0_2, s0_3))
set_option maxHeartbeats 8000000 in
set_option maxRecDepth 100000 in
theorem gaiterref09_Cursor_Err.calls (g : Nat) (s0_0 : List (S75)) (s0_1 : Int) (s0_2 : Int) (s0_3 : Bool) (r1 : Int) (r2 : Int) (r3 : Int) (r4 : Bool) (w0 w : World) (hI : IsS49 w0 w g s0_0 s0_1 s0_2 s0_3) (hB : Below w0.heap.size w0 w) (h : gaiterref09_Cursor_Err.f s0_0 s0_1 s0_2 s0_3 = some (r1, r2, r3, r4)) :
  Calls Try.prog 20 #[.pointer (some ⟨g, 0, none⟩)] w fun e w' => e = .returned (.int .i64 r1) ∧ IsS49 w0 w' g s0_0 r2 r3 r4 ∧ Below w0.heap.size w0 w' ∧ KeepBut w w' g none := by
 have HI0 := Aside0.mk hI
 have HK := Aside0.mk (KeepBut.refl w g none)
 have HL := Aside0.mk hB.size
 clear hI
 have HW0 := Aside0.mk hB.size
 have HB := Aside0.mk hB
 clear hB
 have H : (if s0_3 = true then (some (s0_1, s0_1, s0_2, s0_3)) else (some (0, s0_1, s0_2, s0_3))) = some (r1, r2, r3, r4) := h
 clear h
 by_cases c2 : s0_3 = true
 ·subst c2
  have H1 : (some (s0_1, s0_1, s0_2, true)) = some (r1, r2, r3, r4) := by rw [if_pos rfl] at H; exact H
  clear H
  have H := H1
  clear H1
  simp only [Option.some.injEq, Prod.mk.injEq] at H
  obtain ⟨rfl, rfl, rfl, rfl⟩ := H
  obtain ⟨ASz3_0, cSz3_0, HGz3, hgz3, HSz3_0⟩ := HI0.out
  have hcz3_0 := cellS49_0 HGz3
  have hcz3_1 := cellS49_1 HGz3
  have hcz3_2 := cellS49_2 HGz3
  have hcz3_3 := cellS49_3 HGz3
  have hfz3_1 := blk_frozen HGz3 1
  have hfz3_2 := blk_frozen HGz3 2
  have hfz3_3 := blk_frozen HGz3 3
  clear HGz3 hgz3
  go_enter Try.func20, Try.ntmps20
  go_wp2
  go_ret
  exact ⟨by first | rfl | (simp [errW_none, errW_some] <;> rfl) | (simp [*, errW_none, errW_some] <;> rfl), (IsS49.k HI0), (IsS49.kl HB), (kk HK)⟩
 ·replace c2 := Bool.eq_false_iff.mpr c2
  subst c2
  have H1 : (some (0, s0_1, s0_2, false)) = some (r1, r2, r3, r4) := by rw [if_neg (show ¬ (false = true) by decide)] at H; exact H
  clear H
  have H := H1
  clear H1
  simp only [Option.some.injEq, Prod.mk.injEq] at H
  obtain ⟨rfl, rfl, rfl, rfl⟩ := H
  obtain ⟨ASz4_0, cSz4_0, HGz4, hgz4, HSz4_0⟩ := HI0.out
  have hcz4_0 := cellS49_0 HGz4
  have hcz4_1 := cellS49_1 HGz4
  have hcz4_2 := cellS49_2 HGz4
  have hcz4_3 := cellS49_3 HGz4
  have hfz4_1 := blk_frozen HGz4 1
  have hfz4_2 := blk_frozen HGz4 2
  have hfz4_3 := blk_frozen HGz4 3
  clear HGz4 hgz4
  go_enter Try.func20, Try.ntmps20
  go_wp2
  go_ret
  exact ⟨by first | rfl | (simp [errW_none, errW_some] <;> rfl) | (simp [*, errW_none, errW_some] <;> rfl), (IsS49.k HI0), (IsS49.kl HB), (kk HK)⟩

end Go.Proofs.Ytiahbcaoikoogaa.All
