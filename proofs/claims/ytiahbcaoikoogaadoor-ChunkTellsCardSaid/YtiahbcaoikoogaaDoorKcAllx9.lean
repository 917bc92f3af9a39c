-- declarations that this claim needs, copied by a program of the session
import Derived.Test.YtiahbcaoikoogaaDoorKcAllx0
namespace Go.Proofs.YtiahbcaoikoogaaDoor.All
open Go.RowKit Go.Proofs.YtiahbcaoikoogaaDoorW.PrintWords Go.Proofs.YtiahbcaoikoogaaDoorW.PrintLast Go.Proofs.YtiahbcaoikoogaaDoorW.PrintMore
attribute [local go_sem] max2_int min2_int max_two min_two max_three min_three max_four min_four   
set_option linter.unusedVariables false
set_option linter.unusedSimpArgs false
def IsS99 (w0 W : World) (g : Nat) (f0 : List Int) (f1 : Int) (f2 : Bool) : Prop := ∃ A0 c0, W.heap[g]? = some (.cells #[.slice A0 f0.length c0, .int .i64 f1, .bool f2] 99 (0, 0)) ∧ w0.heap.size ≤ g ∧ Kd.C (Kd.int .u8) w0 A0 f0.length f0 ∧ f0.length ≤ c0
theorem IsS99.grown {w0 W : World} {g : Nat} {f0 : List Int} {f1 : Int} {f2 : Bool} {W1 : World} {row : Option Nat} (h : IsS99 w0 W g f0 f1 f2) (hw : W.grownBy W1 row) (hne : some g ≠ row) : IsS99 w0 W1 g f0 f1 f2 := by
 obtain ⟨A0, c0, hb, hg, hr0, hl0⟩ := h
 exact ⟨A0, c0, blk_grown hb hw hne, hg, hr0, hl0⟩
theorem IsS99.kept {w0 W : World} {g : Nat} {f0 : List Int} {f1 : Int} {f2 : Bool} {W1 : World} {S : Nat → Prop} (h : IsS99 w0 W g f0 f1 f2) (hk : Kept W W1 S) (hne : ¬ S g) : IsS99 w0 W1 g f0 f1 f2 := by
 obtain ⟨A0, c0, hb, hg, hr0, hl0⟩ := h
 exact ⟨A0, c0, blk_kept hb hk hne, hg, hr0, hl0⟩
theorem IsS99.below {w0 W : World} {g : Nat} {f0 : List Int} {f1 : Int} {f2 : Bool} {W1 : World} (h : IsS99 w0 W g f0 f1 f2) (hw : Below W.heap.size W W1) : IsS99 w0 W1 g f0 f1 f2 := h.grown (grown_of_below hw none) (by simp)
theorem IsS99.alloc {w0 W : World} {g : Nat} {f0 : List Int} {f1 : Int} {f2 : Bool} (h : IsS99 w0 W g f0 f1 f2) (o : Obj) : IsS99 w0 (W.alloc o) g f0 f1 f2 := h.below (below_alloc (Below.refl _ _) o)
theorem IsS99.drewN {w0 W : World} {g : Nat} {f0 : List Int} {f1 : Int} {f2 : Bool} (h : IsS99 w0 W g f0 f1 f2) (m : Nat) : IsS99 w0 (W.drewN m) g f0 f1 f2 := h
theorem IsS99.drew {w0 W : World} {g : Nat} {f0 : List Int} {f1 : Int} {f2 : Bool} (h : IsS99 w0 W g f0 f1 f2) : IsS99 w0 W.drew g f0 f1 f2 := h
theorem IsS99.at_ {w0 W : World} {g : Nat} {f0 : List Int} {f1 : Int} {f2 : Bool} {w' : World} {m : Nat} (hq : W.drewN m = w') (h : IsS99 w0 W g f0 f1 f2) : IsS99 w0 w' g f0 f1 f2 := by subst hq; exact IsS99.drewN h m
theorem IsS99.apart {w0 W : World} {g : Nat} {f0 : List Int} {f1 : Int} {f2 : Bool} {α : Type} {d : Kd α} {e : Nat} {base : Nat} {ok : Nat → Prop} {v : Value} {xs : List α} (h : IsS99 w0 W g f0 f1 f2) (ho : d.R e W base ok v xs) (ht : ∀ q, q ∈ e :: d.E → q ≠ 99) : d.R e W base (fun k => ok k ∧ k ≠ g) v xs := by
 obtain ⟨A0, c0, hb, hg, hr0, hl0⟩ := h
 exact Kd.R_types ho hb ht
theorem IsS99.own_ne {w0 W : World} {g : Nat} {f0 : List Int} {f1 : Int} {f2 : Bool} {α : Type} {d : Kd α} {e : Nat} {base : Nat} {ok : Nat → Prop} {v : Value} {xs : List α} (h : IsS99 w0 W g f0 f1 f2) (ho : d.R e W base ok v xs) (ht : e ≠ 99) : some g ≠ v.ownBlock := by
 obtain ⟨A0, c0, hb, hg, hr0, hl0⟩ := h
 exact Kd.R_ne ho hb ht
theorem IsS99.lt {w0 W : World} {g : Nat} {f0 : List Int} {f1 : Int} {f2 : Bool} (h : IsS99 w0 W g f0 f1 f2) : g < W.heap.size := by
 obtain ⟨A0, c0, hb, hg, hr0, hl0⟩ := h
 exact blk_lt hb
theorem IsS99.ge {w0 W : World} {g : Nat} {f0 : List Int} {f1 : Int} {f2 : Bool} (h : IsS99 w0 W g f0 f1 f2) : w0.heap.size ≤ g := by
 obtain ⟨A0, c0, hb, hg, hr0, hl0⟩ := h
 exact hg
theorem IsS99.far {w0 W : World} {g : Nat} {f0 : List Int} {f1 : Int} {f2 : Bool} {p : Addr} (h : IsS99 w0 W g f0 f1 f2) (hne : g ≠ p.block) (u : Value) : IsS99 w0 (W.setCell p u) g f0 f1 f2 := by
 obtain ⟨A0, c0, hb, hg, hr0, hl0⟩ := h
 exact ⟨A0, c0, blk_far hb hne u, hg, hr0, hl0⟩
theorem IsS99.set_1 {w0 W : World} {g : Nat} {f0 : List Int} {f1 : Int} {f2 : Bool} (h : IsS99 w0 W g f0 f1 f2) (x : Int) : IsS99 w0 (W.setCell ⟨g, 1, none⟩ (.int .i64 x)) g f0 x f2 := by
 obtain ⟨A0, c0, hb, hg, hr0, hl0⟩ := h
 exact ⟨A0, c0, by simpa using blk_set hb 1 (.int .i64 x), hg, hr0, hl0⟩
theorem IsS99.set_2 {w0 W : World} {g : Nat} {f0 : List Int} {f1 : Int} {f2 : Bool} (h : IsS99 w0 W g f0 f1 f2) (x : Bool) : IsS99 w0 (W.setCell ⟨g, 2, none⟩ (.bool x)) g f0 f1 x := by
 obtain ⟨A0, c0, hb, hg, hr0, hl0⟩ := h
 exact ⟨A0, c0, by simpa using blk_set hb 2 (.bool x), hg, hr0, hl0⟩
theorem IsS99.farA {w0 W : World} {g g' j : Nat} {u : Value} {f0 : List Int} {f1 : Int} {f2 : Bool} (h : IsS99 w0 W g f0 f1 f2) (hne : Aside0 (g ≠ g')) : IsS99 w0 (W.setCell ⟨g', j, none⟩ u) g f0 f1 f2 := h.far (by exact hne.out) u
theorem IsS99.k {w0 W W' : World} {g : Nat} {f0 f0' : List Int} {f1 f1' : Int} {f2 f2' : Bool} (h : Aside0 (IsS99 w0 W g f0 f1 f2)) (hh : IsS99 w0 W g f0 f1 f2 → IsS99 w0 W' g f0' f1' f2' := by (intro h0_; repeat (first | (with_reducible first | exact h0_ | apply IsS99.alloc | apply IsS99.drewN | apply IsS99.drew | apply IsS99.set_1 | apply IsS99.set_2 | refine IsS99.farA ?_ (by assumption)) | exact h0_))) : IsS99 w0 W' g f0' f1' f2' := hh h.out
theorem IsS99.kl {w W W' : World} (h : Aside0 (Below w.heap.size w W)) (hh : Below w.heap.size w W → Below w.heap.size w W' := by (intro h0_; repeat (first | (with_reducible first | exact h0_ | apply below_alloc | apply pw_below_drewN | apply below_drew1 | refine below_set ?_ (IsS99.ge (Aside0.out (by assumption))) | refine below_set ?_ (Aside0.out (by assumption))) | exact h0_))) : Below w.heap.size w W' := hh h.out
end Go.Proofs.YtiahbcaoikoogaaDoor.All
