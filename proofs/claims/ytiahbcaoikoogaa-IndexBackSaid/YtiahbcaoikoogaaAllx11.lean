-- written by a program of the session out of the translation; Lean checks it
import Derived.Test.YtiahbcaoikoogaaAllx0
import Derived.Test.YtiahbcaoikoogaaAllx10
namespace Go.Proofs.Ytiahbcaoikoogaa.All
open Go.RowKit Go.Proofs.YtiahbcaoikoogaaW.PrintWords Go.Proofs.YtiahbcaoikoogaaW.PrintLast Go.Proofs.YtiahbcaoikoogaaW.PrintMore
attribute [local go_sem] max2_int min2_int max_two min_two max_three min_three max_four min_four   -- for this text's walks alone
set_option linter.unusedVariables false
set_option linter.unusedSimpArgs false

attribute [local go_sem high] errW_cells errW_match run_store_errW
/-! ### index_number: function 32 -/
def index_number.l0 : Nat → List Int → Int → Int → Option (List Int)
 | 0, _, _, _ => none
 | k + 1, x0, x1, x7 => if x7 ≥ 0 then (if 0 ≤ (wrap64 (8 * x7)) then (if x0.length < 140737488355328 then (index_number.l0 k (x0 ++ [(shr .u64 x1 (wrap64 (8 * x7))) % 256]) x1 (wrap64 (x7 - 1))) else (none)) else (none)) else (some x0)
def index_number.f (k : Nat) (l0 : List Int) (a1 : Int) (a2 : Int) : Option (List Int) := index_number.l0 k l0 a1 (wrap64 (a2 - 1))
theorem index_number.mono_l : ∀ k, (∀ y0 y1 y2, LeO (index_number.l0 k y0 y1 y2) (index_number.l0 (k + 1) y0 y1 y2))
 | 0 => fun _ _ _ r h => by simp [index_number.l0] at h
 | k + 1 => by
  have ih0 := index_number.mono_l k
  ·intro y0 y1 y2
   unfold index_number.l0
   repeat' first
   | (with_reducible exact ih0 _ _ _)
   | (with_reducible exact LeO.refl _)
   | (with_reducible exact LeO.none _)
   | (with_reducible refine LeO.ite ?_ ?_)
   | (with_reducible refine LeO.bind ?_ (fun _ => ?_))
   | exact ih0 _ _ _
   | exact LeO.none _
   | refine LeO.ite ?_ ?_
   | refine LeO.bind ?_ (fun _ => ?_)
theorem index_number.mono : ∀ a0 a1 a2 k, LeO (index_number.f k a0 a1 a2) (index_number.f (k + 1) a0 a1 a2) := by
 intro a0 a1 a2 k
 have ih0 := index_number.mono_l k
 unfold index_number.f
 repeat' first
   | (with_reducible exact ih0 _ _ _)
   | (with_reducible exact LeO.refl _)
   | (with_reducible exact LeO.none _)
   | (with_reducible refine LeO.ite ?_ ?_)
   | (with_reducible refine LeO.bind ?_ (fun _ => ?_))
   | exact ih0 _ _ _
   | exact LeO.none _
   | refine LeO.ite ?_ ?_
   | refine LeO.bind ?_ (fun _ => ?_)
set_option maxHeartbeats 8000000 in
set_option maxRecDepth 100000 in
theorem index_number.calls (k : Nat) (P0_ : Nat → Prop) (u9000_ : Value) (l0 : List Int) (a1 : Int) (a2 : Int) (r : List Int) (w0 w : World) (hB : Below w0.heap.size w0 w) (ho0 : Kd.R (Kd.int .u8) 5 w w0.heap.size P0_ u9000_ l0) (h : index_number.f k l0 a1 a2 = some r) :
  Calls Try.prog 32 #[u9000_, .int .u64 a1, .int .i64 a2] w fun e w' => ∃ v0_ : Value, e = .returned (v0_) ∧ Kd.R (Kd.int .u8) 5 w' w0.heap.size (fun k_ => (P0_ k_ ∨ w.heap.size ≤ k_)) v0_ r ∧ Below w0.heap.size w0 w' ∧ Kept w w' (fun k_ => P0_ k_) := by
 have HO0 := Aside0.mk (show Kd.R (Kd.int .u8) 5 w w0.heap.size (fun k_ => (P0_ k_ ∨ w.heap.size ≤ k_)) u9000_ l0 from Kd.R_mono ho0 (fun k_ hk => (.inl hk)))
 have HK := Aside0.mk (Kept.refl w (fun k_ => P0_ k_))
 have HW0 := Aside0.mk hB.size
 have HB := Aside0.mk hB
 clear hB
 have H : (index_number.l0 k l0 a1 (wrap64 (a2 - 1))) = some r := h
 clear h
 have H' := Aside0.mk H
 clear H
 go_enter Try.func32, Try.ntmps32
 go_wp2
 go_loopg [0, 7] k (fun kq v0 v7 w' => ∃ (x0_1 : List Int) (x7_1 : Int), v7 = .int .i64 x7_1 ∧ Aside0 (index_number.l0 kq x0_1 a1 x7_1 = some r) ∧ Aside0 (kq ≤ k) ∧ Aside0 (Kd.R (Kd.int .u8) 5 w' w0.heap.size (fun k_ => (P0_ k_ ∨ w.heap.size ≤ k_)) v0 x0_1) ∧ Aside0 (Kept w w' (fun k_ => P0_ k_)) ∧ Aside0 (Below w0.heap.size w0 w'))
 case atStart => exact ⟨(l0), (wrap64 (a2 - 1)), (by first | rfl | (simp; done) | (simp [*]; done)), H', ⟨Nat.le_refl _⟩, ⟨kr HO0⟩, ⟨(by repeat (first | (with_reducible first | exact HK.out | apply Kept.alloc | apply Kept.drewN | apply Kept.drew) | exact HK.out))⟩, ⟨(kl HB)⟩⟩
 case round =>
  clear H'
  try clear p2
  try clear c3
  obtain ⟨x0_1, x7_1, rfl, HA, HK1, HO_0, HK, HB⟩ := hrel
  cases gk with
  | zero => exact absurd HA.out (by simp [index_number.l0])
  | succ k1 =>
   have H := HA.out
   clear HA
   simp only [index_number.l0] at H
   by_cases c4 : x7_1 ≥ 0
   ·rw [if_pos c4] at H
    have c4b0 : decide (0 ≤ x7_1) = true := decide_eq_true c4
    clear c4
    obtain ⟨ji5, hji5⟩ : ∃ j_ : Int, (wrap64 (8 * x7_1)) = j_ := ⟨_, rfl⟩
    replace H : (if 0 ≤ (ji5) then (if x0_1.length < 140737488355328 then (index_number.l0 k1 (x0_1 ++ [(shr .u64 a1 (ji5)) % 256]) a1 (wrap64 (x7_1 - 1))) else (none)) else (none)) = some r := by first | (rw [hji5] at H; exact H) | (simp only [hji5] at H ⊢; exact H)
    have hji5w : (IntKind.i64.wrap (8 * x7_1)) = ji5 := (i64_w _).trans hji5
    by_cases c6 : 0 ≤ (ji5)
    ·rw [if_pos c6] at H
     have c6b0 := eq_true c6
     have c6b1 : decide (0 ≤ (ji5)) = true := decide_eq_true c6
     clear c6
     obtain ⟨ji7, hji7⟩ : ∃ j_ : Int, (shr .u64 a1 (ji5)) = j_ := ⟨_, rfl⟩
     replace H : (if x0_1.length < 140737488355328 then (index_number.l0 k1 (x0_1 ++ [(ji7) % 256]) a1 (wrap64 (x7_1 - 1))) else (none)) = some r := by first | (rw [hji7] at H; exact H) | (simp only [hji7] at H ⊢; exact H)
     have hji7_ : (a1 / 2 ^ min (ji5).toNat 64) = ji7 := hji7
     have hji7z : (ji5) ≤ 64 → (a1 / 2 ^ (ji5).toNat) = ji7 := shr_small hji7
     by_cases c8 : x0_1.length < 140737488355328
     ·rw [if_pos c8] at H
      have LMc8 := Aside0.mk c8
      clear c8
      obtain ⟨y228, hy228⟩ : ∃ y_ : List Int, y_ = (x0_1 ++ [(ji7) % 256]) := ⟨_, rfl⟩
      replace H : (index_number.l0 k1 y228 a1 (wrap64 (x7_1 - 1))) = some r := by first | (rw [hy228]; with_reducible exact H) | (have H2_ := (Option.bind_some _ _).symm.trans H; rw [hy228]; with_reducible exact H2_) | (have H2_ := (Option.bind_some _ _).symm.trans H; with_reducible exact H2_) | with_reducible exact H | (rw [hy228]; exact H) | exact H
      have Ny228 := Aside0.mk hy228
      clear hy228
      have H' := Aside0.mk H
      clear H
      go_wp2_with (first | ((with_reducible refine gate_builtin (b := .append) (xs := #[.tmp 14, .tmp 20]) rfl ?_); at_builtin; refine Kd.R_append (Kd.int .u8) (w0 := w0) w0.heap.size rfl (.tmp 14) (.tmp 20) 54 5 (.int .u8 0) 1 rfl Try.underlying54 info5 rfl (by decide) (by omega) u0 x0_1 ((ji7) % 256) [.int .u8 ((ji7) % 256)] (fun k_ => (P0_ k_ ∨ w.heap.size ≤ k_)) (fun _ => False) rfl rfl ?aP (fun _ hk => hk.elim) ?aF ?aO ?aB ?aS ?aL ?_; (case aP => exact rfl); (case aB => exact (kl HB)); (case aF => exact (fun k_ hk => (.inr (Nat.le_trans (by first | exact HK.out.1 | exact (show Kept w _ (fun k_ => P0_ k_) from by repeat (first | (with_reducible first | exact HK.out | apply Kept.alloc | apply Kept.drewN | apply Kept.drew) | exact HK.out)).1) hk)))); (case aO => exact (kr HO_0)); (case aS => exact (below_size (kl HB))); (case aL => have := LMc8.out; omega); intro v229 w9 ho hb hg hat; rw [← Ny228.out] at ho; have n0_ := Aside0.mk (hb); have n1_ := Aside0.mk (Kept.of_grown (S := (fun k_ => P0_ k_)) hg (by repeat (first | (with_reducible first | exact HK.out | apply Kept.alloc | apply Kept.drewN | apply Kept.drew) | exact HK.out)) (fun k_ e_ => (HO_0.out.1 k_ e_))); have n2_ := Aside0.mk (ho); clear HB; clear HK; clear HO_0; have HB := n0_; have HK := n1_; have HO230 := n2_; clear n0_ n1_ n2_; clear ho hb hg hat))
      go_roundg k1
      case measure => have := HK1.out; omega
      case rel => exact ⟨(y228), (wrap64 (x7_1 - 1)), (by first | rfl | (simp; done) | (simp [*]; done)), H', ⟨by have := HK1.out; omega⟩, ⟨kr HO230⟩, ⟨(by repeat (first | (with_reducible first | exact HK.out | apply Kept.alloc | apply Kept.drewN | apply Kept.drew) | exact HK.out))⟩, ⟨(kl HB)⟩⟩
     ·rw [if_neg c8] at H
      exact absurd H (by simp)
    ·rw [if_neg c6] at H
     exact absurd H (by simp)
   ·rw [if_neg c4] at H
    have c4b0 : decide (0 ≤ x7_1) = false := decide_eq_false c4
    clear c4
    obtain rfl := Option.some.inj H
    go_wp2
    go_ret
    exact ⟨_, by first | rfl | (simp [errW_none, errW_some] <;> rfl) | (simp [*, errW_none, errW_some] <;> rfl), by (with_reducible repeat (first | apply Kd.R_alloc | apply Kd.R_drewN | apply Kd.R_drew)); exact HO_0.out, (kl HB), (by repeat (first | (with_reducible first | exact HK.out | apply Kept.alloc | apply Kept.drewN | apply Kept.drew) | exact HK.out))⟩

/-- A state of type 84 at block g of W; what its slices lead to came in by w0. -/
def IsS84 (w0 W : World) (g : Nat) (f0 : List Int) (f1 : Int) (f2 : Option Int) : Prop := ∃ A0 c0, W.heap[g]? = some (.cells #[.slice A0 f0.length c0, .int .i64 f1, errW f2] 84 (0, 0)) ∧ w0.heap.size ≤ g ∧ Kd.C (Kd.int .u8) w0 A0 f0.length f0 ∧ f0.length ≤ c0
theorem IsS84.grown {w0 W : World} {g : Nat} {f0 : List Int} {f1 : Int} {f2 : Option Int} {W1 : World} {row : Option Nat} (h : IsS84 w0 W g f0 f1 f2) (hw : W.grownBy W1 row) (hne : some g ≠ row) : IsS84 w0 W1 g f0 f1 f2 := by
 obtain ⟨A0, c0, hb, hg, hr0, hl0⟩ := h
 exact ⟨A0, c0, blk_grown hb hw hne, hg, hr0, hl0⟩
theorem IsS84.own_neN {w0 W : World} {g : Nat} {f0 : List Int} {f1 : Int} {f2 : Option Int} {α : Type} {d : Kd α} {e : Nat} {base : Nat} {ok : Nat → Prop} {v : Value} {xs : List α} (h : IsS84 w0 W g f0 f1 f2) (ho : Kd.N d e W base ok v xs) (ht : e ≠ 84) : some g ≠ v.ownBlock := by
 obtain ⟨A0, c0, hb, hg, hr0, hl0⟩ := h
 exact Kd.N_ne ho hb ht
theorem IsS84.fresh {w0 W : World} {g : Nat} {f0 : List Int} {f1 : Int} {f2 : Option Int} (h : IsS84 w0 W g f0 f1 f2) : ∀ k, W.heap.size ≤ k → k ≠ g := by
 obtain ⟨A0, c0, hb, hg, hr0, hl0⟩ := h
 exact Kd.freshB hb
theorem IsS84.kept {w0 W : World} {g : Nat} {f0 : List Int} {f1 : Int} {f2 : Option Int} {W1 : World} {S : Nat → Prop} (h : IsS84 w0 W g f0 f1 f2) (hk : Kept W W1 S) (hne : ¬ S g) : IsS84 w0 W1 g f0 f1 f2 := by
 obtain ⟨A0, c0, hb, hg, hr0, hl0⟩ := h
 exact ⟨A0, c0, blk_kept hb hk hne, hg, hr0, hl0⟩
theorem IsS84.below {w0 W : World} {g : Nat} {f0 : List Int} {f1 : Int} {f2 : Option Int} {W1 : World} (h : IsS84 w0 W g f0 f1 f2) (hw : Below W.heap.size W W1) : IsS84 w0 W1 g f0 f1 f2 := h.grown (grown_of_below hw none) (by simp)
theorem IsS84.alloc {w0 W : World} {g : Nat} {f0 : List Int} {f1 : Int} {f2 : Option Int} (h : IsS84 w0 W g f0 f1 f2) (o : Obj) : IsS84 w0 (W.alloc o) g f0 f1 f2 := h.below (below_alloc (Below.refl _ _) o)
theorem IsS84.drewN {w0 W : World} {g : Nat} {f0 : List Int} {f1 : Int} {f2 : Option Int} (h : IsS84 w0 W g f0 f1 f2) (m : Nat) : IsS84 w0 (W.drewN m) g f0 f1 f2 := h
theorem IsS84.drew {w0 W : World} {g : Nat} {f0 : List Int} {f1 : Int} {f2 : Option Int} (h : IsS84 w0 W g f0 f1 f2) : IsS84 w0 W.drew g f0 f1 f2 := h
theorem IsS84.at_ {w0 W : World} {g : Nat} {f0 : List Int} {f1 : Int} {f2 : Option Int} {w' : World} {m : Nat} (hq : W.drewN m = w') (h : IsS84 w0 W g f0 f1 f2) : IsS84 w0 w' g f0 f1 f2 := by subst hq; exact IsS84.drewN h m
theorem IsS84.apart {w0 W : World} {g : Nat} {f0 : List Int} {f1 : Int} {f2 : Option Int} {α : Type} {d : Kd α} {e : Nat} {base : Nat} {ok : Nat → Prop} {v : Value} {xs : List α} (h : IsS84 w0 W g f0 f1 f2) (ho : d.R e W base ok v xs) (ht : ∀ q, q ∈ e :: d.E → q ≠ 84) : d.R e W base (fun k => ok k ∧ k ≠ g) v xs := by
 obtain ⟨A0, c0, hb, hg, hr0, hl0⟩ := h
 exact Kd.R_types ho hb ht
theorem IsS84.own_ne {w0 W : World} {g : Nat} {f0 : List Int} {f1 : Int} {f2 : Option Int} {α : Type} {d : Kd α} {e : Nat} {base : Nat} {ok : Nat → Prop} {v : Value} {xs : List α} (h : IsS84 w0 W g f0 f1 f2) (ho : d.R e W base ok v xs) (ht : e ≠ 84) : some g ≠ v.ownBlock := by
 obtain ⟨A0, c0, hb, hg, hr0, hl0⟩ := h
 exact Kd.R_ne ho hb ht
theorem IsS84.apartQ {w0 W : World} {g : Nat} {f0 : List Int} {f1 : Int} {f2 : Option Int} {α : Type} {d : Kd α} {e : Nat} {base : Nat} {ok : Nat → Prop} {v : Value} {xs : List α} (h : IsS84 w0 W g f0 f1 f2) (ho : d.Q e W base ok v xs) (ht : ∀ q, q ∈ e :: d.E → q ≠ 84) : d.Q e W base (fun k => ok k ∧ k ≠ g) v xs := by
 obtain ⟨A0, c0, hb, hg, hr0, hl0⟩ := h
 exact Kd.Q_types ho hb ht
theorem IsS84.own_neQ {w0 W : World} {g : Nat} {f0 : List Int} {f1 : Int} {f2 : Option Int} {α : Type} {d : Kd α} {e : Nat} {base : Nat} {ok : Nat → Prop} {v : Value} {xs : List α} (h : IsS84 w0 W g f0 f1 f2) (ho : d.Q e W base ok v xs) (ht : e ≠ 84) : some g ≠ v.ownBlock := by
 obtain ⟨A0, c0, hb, hg, hr0, hl0⟩ := h
 exact Kd.Q_ne ho hb ht
theorem IsS84.apartS {w0 W : World} {g : Nat} {f0 : List Int} {f1 : Int} {f2 : Option Int} {α : Type} {d : Kd α} {e : Nat} {base : Nat} {ok : Nat → Prop} {v : Value} {xs : List α} (h : IsS84 w0 W g f0 f1 f2) (ho : d.S e W base ok v xs) (ht : ∀ q, q ∈ e :: d.E → q ≠ 84) : d.S e W base (fun k => ok k ∧ k ≠ g) v xs := by
 obtain ⟨A0, c0, hb, hg, hr0, hl0⟩ := h
 exact Kd.S_types ho hb ht
theorem IsS84.own_neS {w0 W : World} {g : Nat} {f0 : List Int} {f1 : Int} {f2 : Option Int} {α : Type} {d : Kd α} {e : Nat} {base : Nat} {ok : Nat → Prop} {v : Value} {xs : List α} (h : IsS84 w0 W g f0 f1 f2) (ho : d.S e W base ok v xs) (ht : e ≠ 84) : some g ≠ v.ownBlock := by
 obtain ⟨A0, c0, hb, hg, hr0, hl0⟩ := h
 exact Kd.S_ne ho hb ht
theorem IsS84.lt {w0 W : World} {g : Nat} {f0 : List Int} {f1 : Int} {f2 : Option Int} (h : IsS84 w0 W g f0 f1 f2) : g < W.heap.size := by
 obtain ⟨A0, c0, hb, hg, hr0, hl0⟩ := h
 exact blk_lt hb
theorem IsS84.ge {w0 W : World} {g : Nat} {f0 : List Int} {f1 : Int} {f2 : Option Int} (h : IsS84 w0 W g f0 f1 f2) : w0.heap.size ≤ g := by
 obtain ⟨A0, c0, hb, hg, hr0, hl0⟩ := h
 exact hg
theorem IsS84.ne_blk {w0 W : World} {g : Nat} {f0 : List Int} {f1 : Int} {f2 : Option Int} {a : Nat} {cs : Array Value} {t : TypeId} {fr : Nat × Nat} (h : IsS84 w0 W g f0 f1 f2) (hb2 : W.heap[a]? = some (.cells cs t fr)) (ht : t ≠ 84) : g ≠ a := by
 obtain ⟨A0, c0, hb, hg, hr0, hl0⟩ := h
 rintro rfl
 rw [hb] at hb2
 injection hb2 with hb2
 injection hb2 with _ ht2
 exact ht ht2.symm
theorem IsS84.far {w0 W : World} {g : Nat} {f0 : List Int} {f1 : Int} {f2 : Option Int} {p : Addr} (h : IsS84 w0 W g f0 f1 f2) (hne : g ≠ p.block) (u : Value) : IsS84 w0 (W.setCell p u) g f0 f1 f2 := by
 obtain ⟨A0, c0, hb, hg, hr0, hl0⟩ := h
 exact ⟨A0, c0, blk_far hb hne u, hg, hr0, hl0⟩
theorem cellS84_0 {W : World} {g : Nat} {A0 : Option Addr} {c0 : Nat} {f0 : List Int} {f1 : Int} {f2 : Option Int} (h : W.heap[g]? = some (.cells #[.slice A0 f0.length c0, .int .i64 f1, errW f2] 84 (0, 0))) : W.cell? ⟨g, 0, none⟩ = some (.slice A0 f0.length c0) := (blk_cell h 0).trans rfl
theorem IsS84.set_0 {w0 W : World} {g : Nat} {f0 : List Int} {f1 : Int} {f2 : Option Int} (h : IsS84 w0 W g f0 f1 f2) {A_ : Option Addr} {n_ c_ : Nat} {x : List Int} (hr_ : Kd.C (Kd.int .u8) w0 A_ x.length x) (hl_ : x.length ≤ c_) (hn_ : n_ = x.length) : IsS84 w0 (W.setCell ⟨g, 0, none⟩ (.slice A_ n_ c_)) g x f1 f2 := by
 subst hn_
 obtain ⟨A0, c0, hb, hg, hr0, hl0⟩ := h
 exact ⟨A_, c_, by simpa using blk_set hb 0 (.slice A_ x.length c_), hg, hr_, hl_⟩
theorem cellS84_1 {W : World} {g : Nat} {A0 : Option Addr} {c0 : Nat} {f0 : List Int} {f1 : Int} {f2 : Option Int} (h : W.heap[g]? = some (.cells #[.slice A0 f0.length c0, .int .i64 f1, errW f2] 84 (0, 0))) : W.cell? ⟨g, 1, none⟩ = some (.int .i64 f1) := (blk_cell h 1).trans rfl
theorem IsS84.set_1 {w0 W : World} {g : Nat} {f0 : List Int} {f1 : Int} {f2 : Option Int} (h : IsS84 w0 W g f0 f1 f2) (x : Int) : IsS84 w0 (W.setCell ⟨g, 1, none⟩ (.int .i64 x)) g f0 x f2 := by
 obtain ⟨A0, c0, hb, hg, hr0, hl0⟩ := h
 exact ⟨A0, c0, by simpa using blk_set hb 1 (.int .i64 x), hg, hr0, hl0⟩
theorem cellS84_2 {W : World} {g : Nat} {A0 : Option Addr} {c0 : Nat} {f0 : List Int} {f1 : Int} {f2 : Option Int} (h : W.heap[g]? = some (.cells #[.slice A0 f0.length c0, .int .i64 f1, errW f2] 84 (0, 0))) : W.cell? ⟨g, 2, none⟩ = some (errW f2) := (blk_cell h 2).trans rfl
theorem IsS84.set_2 {w0 W : World} {g : Nat} {f0 : List Int} {f1 : Int} {f2 : Option Int} (h : IsS84 w0 W g f0 f1 f2) (x : Option Int) : IsS84 w0 (W.setCell ⟨g, 2, none⟩ (errW x)) g f0 f1 x := by
 obtain ⟨A0, c0, hb, hg, hr0, hl0⟩ := h
 exact ⟨A0, c0, by simpa using blk_set hb 2 (errW x), hg, hr0, hl0⟩
theorem IsS84.new (w0 W : World) (A0 : Option Addr) (c0 : Nat) (f0 : List Int) (f1 : Int) (f2 : Option Int) (hB : Below w0.heap.size w0 W) (hr0 : Kd.C (Kd.int .u8) w0 A0 f0.length f0) (hl0 : f0.length ≤ c0) : IsS84 w0 (W.alloc (.cells #[.slice A0 f0.length c0, .int .i64 f1, errW f2] 84)) W.heap.size f0 f1 f2 := ⟨A0, c0, by simpa using heap_alloc_new W _, hB.size, hr0, hl0⟩

theorem IsS84.farA {w0 W : World} {g g' j : Nat} {u : Value} {f0 : List Int} {f1 : Int} {f2 : Option Int} (h : IsS84 w0 W g f0 f1 f2) (hne : Aside0 (g ≠ g')) : IsS84 w0 (W.setCell ⟨g', j, none⟩ u) g f0 f1 f2 := h.far (by exact hne.out) u
theorem IsS84.k {w0 W W' : World} {g : Nat} {f0 f0' : List Int} {f1 f1' : Int} {f2 f2' : Option Int} (h : Aside0 (IsS84 w0 W g f0 f1 f2)) (hh : IsS84 w0 W g f0 f1 f2 → IsS84 w0 W' g f0' f1' f2' := by (intro h0_; repeat (first | (with_reducible first | exact h0_ | apply IsS84.alloc | apply IsS84.drewN | apply IsS84.drew | apply IsS84.set_1 | apply IsS84.set_2 | refine IsS84.farA ?_ (by assumption)) | exact h0_ | apply IsS84.set_2 (x := some _) | apply IsS84.set_2 (x := none)))) : IsS84 w0 W' g f0' f1' f2' := hh h.out
theorem IsS84.kl {w W W' : World} (h : Aside0 (Below w.heap.size w W)) (hh : Below w.heap.size w W → Below w.heap.size w W' := by (intro h0_; repeat (first | (with_reducible first | exact h0_ | apply below_alloc | apply pw_below_drewN | apply below_drew1 | refine below_set ?_ (IsS84.ge (Aside0.out (by assumption))) | refine below_set ?_ (Aside0.out (by assumption))) | exact h0_))) : Below w.heap.size w W' := hh h.out
/-! ### index_reader_fixed: function 37 -/
mutual
def index_reader_fixed.j0 : Nat → Int → Bool → List Int → Int → Option Int → Option (Int × List Int × Int × Option Int)
 | 0, _, _, _, _, _ => none
 | k + 1, x1, x26, x1000, x1001, x1002 => if x26 = true then (index_reader_fixed.j1 k x1 x1000 x1001 (some 2)) else (index_reader_fixed.j1 k x1 x1000 x1001 x1002)
def index_reader_fixed.j1 : Nat → Int → List Int → Int → Option Int → Option (Int × List Int × Int × Option Int)
 | 0, _, _, _, _ => none
 | k + 1, x1, x1000, x1001, x1002 => if x1002.isNone = true then (if 0 ≤ x1001 then (if x1001 ≤ (wrap64 (x1001 + x1)) then (if (wrap64 (x1001 + x1)) ≤ (x1000.length : Int) then (index_reader_fixed.l0 k x1 0 ((x1000.take ((wrap64 (x1001 + x1)) : Int).toNat).drop (x1001 : Int).toNat) (((x1000.take ((wrap64 (x1001 + x1)) : Int).toNat).drop (x1001 : Int).toNat).length : Int) 0 x1000 x1001 none) else (none)) else (none)) else (none)) else (some (0, x1000, x1001, some (x1002.getD 0)))
def index_reader_fixed.l0 : Nat → Int → Int → List Int → Int → Int → List Int → Int → Option Int → Option (Int × List Int × Int × Option Int)
 | 0, _, _, _, _, _, _, _, _ => none
 | k + 1, x1, x5, x50, x51, x52, x1000, x1001, x1002 => if x52 < x51 then (if 0 ≤ x52 then (if x52 < (x50.length : Int) then (index_reader_fixed.l0 k x1 (Go.bits .or .u64 (IntKind.u64.wrap (x5 * 256)) (IntKind.u64.wrap (rd x50 x52))) x50 x51 (wrap64 (x52 + 1)) x1000 x1001 x1002) else (none)) else (none)) else (some (x5, x1000, wrap64 (x1001 + x1), x1002))
end
def index_reader_fixed.f (k : Nat) (s0_0 : List Int) (s0_1 : Int) (s0_2 : Option Int) (a1 : Int) : Option (Int × List Int × Int × Option Int) := if s0_2.isNone = true then (index_reader_fixed.j0 k a1 (decide ((wrap64 ((s0_0.length : Int) - s0_1)) < a1)) s0_0 s0_1 none) else (index_reader_fixed.j0 k a1 false s0_0 s0_1 (some (s0_2.getD 0)))
theorem index_reader_fixed.mono_l : ∀ k, (∀ y0 y1 y2 y3 y4, LeO (index_reader_fixed.j0 k y0 y1 y2 y3 y4) (index_reader_fixed.j0 (k + 1) y0 y1 y2 y3 y4)) ∧ (∀ y0 y1 y2 y3, LeO (index_reader_fixed.j1 k y0 y1 y2 y3) (index_reader_fixed.j1 (k + 1) y0 y1 y2 y3)) ∧ (∀ y0 y1 y2 y3 y4 y5 y6 y7, LeO (index_reader_fixed.l0 k y0 y1 y2 y3 y4 y5 y6 y7) (index_reader_fixed.l0 (k + 1) y0 y1 y2 y3 y4 y5 y6 y7))
 | 0 => ⟨fun _ _ _ _ _ r h => by simp [index_reader_fixed.j0] at h, fun _ _ _ _ r h => by simp [index_reader_fixed.j1] at h, fun _ _ _ _ _ _ _ _ r h => by simp [index_reader_fixed.l0] at h⟩
 | k + 1 => by
  obtain ⟨ih0, ih1, ih2⟩ := index_reader_fixed.mono_l k
  refine ⟨?_, ?_, ?_⟩
  ·intro y0 y1 y2 y3 y4
   unfold index_reader_fixed.j0
   repeat' first
   | (with_reducible exact ih0 _ _ _ _ _)
   | (with_reducible exact ih1 _ _ _ _)
   | (with_reducible exact ih2 _ _ _ _ _ _ _ _)
   | (with_reducible exact LeO.refl _)
   | (with_reducible exact LeO.none _)
   | (with_reducible refine LeO.ite ?_ ?_)
   | (with_reducible refine LeO.bind ?_ (fun _ => ?_))
   | exact ih0 _ _ _ _ _
   | exact ih1 _ _ _ _
   | exact ih2 _ _ _ _ _ _ _ _
   | exact LeO.none _
   | refine LeO.ite ?_ ?_
   | refine LeO.bind ?_ (fun _ => ?_)
  ·intro y0 y1 y2 y3
   unfold index_reader_fixed.j1
   repeat' first
   | (with_reducible exact ih0 _ _ _ _ _)
   | (with_reducible exact ih1 _ _ _ _)
   | (with_reducible exact ih2 _ _ _ _ _ _ _ _)
   | (with_reducible exact LeO.refl _)
   | (with_reducible exact LeO.none _)
   | (with_reducible refine LeO.ite ?_ ?_)
   | (with_reducible refine LeO.bind ?_ (fun _ => ?_))
   | exact ih0 _ _ _ _ _
   | exact ih1 _ _ _ _
   | exact ih2 _ _ _ _ _ _ _ _
   | exact LeO.none _
   | refine LeO.ite ?_ ?_
   | refine LeO.bind ?_ (fun _ => ?_)
  ·intro y0 y1 y2 y3 y4 y5 y6 y7
   unfold index_reader_fixed.l0
   repeat' first
   | (with_reducible exact ih0 _ _ _ _ _)
   | (with_reducible exact ih1 _ _ _ _)
   | (with_reducible exact ih2 _ _ _ _ _ _ _ _)
   | (with_reducible exact LeO.refl _)
   | (with_reducible exact LeO.none _)
   | (with_reducible refine LeO.ite ?_ ?_)
   | (with_reducible refine LeO.bind ?_ (fun _ => ?_))
   | exact ih0 _ _ _ _ _
   | exact ih1 _ _ _ _
   | exact ih2 _ _ _ _ _ _ _ _
   | exact LeO.none _
   | refine LeO.ite ?_ ?_
   | refine LeO.bind ?_ (fun _ => ?_)
theorem index_reader_fixed.mono : ∀ a0 a1 a2 a3 k, LeO (index_reader_fixed.f k a0 a1 a2 a3) (index_reader_fixed.f (k + 1) a0 a1 a2 a3) := by
 intro a0 a1 a2 a3 k
 obtain ⟨ih0, ih1, ih2⟩ := index_reader_fixed.mono_l k
 unfold index_reader_fixed.f
 repeat' first
   | (with_reducible exact ih0 _ _ _ _ _)
   | (with_reducible exact ih1 _ _ _ _)
   | (with_reducible exact ih2 _ _ _ _ _ _ _ _)
   | (with_reducible exact LeO.refl _)
   | (with_reducible exact LeO.none _)
   | (with_reducible refine LeO.ite ?_ ?_)
   | (with_reducible refine LeO.bind ?_ (fun _ => ?_))
   | exact ih0 _ _ _ _ _
   | exact ih1 _ _ _ _
   | exact ih2 _ _ _ _ _ _ _ _
   | exact LeO.none _
   | refine LeO.ite ?_ ?_
   | refine LeO.bind ?_ (fun _ => ?_)
set_option maxHeartbeats 8000000 in
set_option maxRecDepth 100000 in
theorem index_reader_fixed.calls (k : Nat) (g : Nat) (s0_0 : List Int) (s0_1 : Int) (s0_2 : Option Int) (a1 : Int) (r1 : Int) (r2 : List Int) (r3 : Int) (r4 : Option Int) (w0 w : World) (hI : IsS84 w0 w g s0_0 s0_1 s0_2) (hB : Below w0.heap.size w0 w) (h : index_reader_fixed.f k s0_0 s0_1 s0_2 a1 = some (r1, r2, r3, r4)) :
  Calls Try.prog 37 #[.pointer (some ⟨g, 0, none⟩), .int .i64 a1] w fun e w' => e = .returned (.int .u64 r1) ∧ IsS84 w0 w' g r2 r3 r4 ∧ Below w0.heap.size w0 w' ∧ KeepBut w w' g none := by
 have hu27 := Try.underlying27
 have hu29 := Try.underlying29
 have HI0 := Aside0.mk hI
 have HK := Aside0.mk (KeepBut.refl w g none)
 have HL := Aside0.mk hB.size
 clear hI
 have HW0 := Aside0.mk hB.size
 have HB := Aside0.mk hB
 clear hB
 have H : (if s0_2.isNone = true then (index_reader_fixed.j0 k a1 (decide ((wrap64 ((s0_0.length : Int) - s0_1)) < a1)) s0_0 s0_1 none) else (index_reader_fixed.j0 k a1 false s0_0 s0_1 (some (s0_2.getD 0)))) = some (r1, r2, r3, r4) := h
 clear h
 have HC3 := Aside0.mk H
 clear H
 go_enter Try.func37, Try.ntmps37
 go_upto_region 1 with (fail)
 repeat (go_quiet (fail); go_upto_region 1 with (fail))
 go_cut [26] (fun v26 wc => ∃ (kq : Nat) (x26_2 : Bool), v26 = .bool x26_2 ∧ Aside0 (index_reader_fixed.j0 kq a1 x26_2 s0_0 s0_1 s0_2 = some (r1, r2, r3, r4)) ∧ Aside0 (kq ≤ k) ∧ Aside0 (IsS84 w0 wc g s0_0 s0_1 s0_2) ∧ Aside0 (KeepBut w wc g none) ∧ Aside0 (Below w0.heap.size w0 wc))
 case first =>
  have H := HC3.out
  clear HC3
  rcases s0_2 with _ | q266
  ·have H1 : (index_reader_fixed.j0 k a1 (decide ((wrap64 ((s0_0.length : Int) - s0_1)) < a1)) s0_0 s0_1 none) = some (r1, r2, r3, r4) := by rw [if_pos (show (none : Option Int).isNone = true by rfl)] at H; exact H
   clear H
   have H := H1
   clear H1
   try simp only [errW_none, errW_some]
   have H' := Aside0.mk H
   clear H
   obtain ⟨ASz4_0, cSz4_0, HGz4, hgz4, HSz4_0, HLSz4_0⟩ := HI0.out
   have hcz4_0 := cellS84_0 HGz4
   have hcz4_1 := cellS84_1 HGz4
   have hcz4_2 := cellS84_2 HGz4
   try simp only [errW_none, errW_some] at hcz4_2
   have hfz4_0 := blk_frozen HGz4 0
   have hfz4_1 := blk_frozen HGz4 1
   have hfz4_2 := blk_frozen HGz4 2
   clear HGz4 hgz4
   go_wp2
   repeat ((first | go_quiet (fail) | go_region); try go_wp2)
   go_meet
   case rel => exact ⟨_, (decide ((wrap64 ((s0_0.length : Int) - s0_1)) < a1)), (by first | rfl | (simp; done) | (simp [*]; done)), H', ⟨by first | omega | exact Nat.le_refl _⟩, ⟨(IsS84.k HI0)⟩, ⟨(kk HK)⟩, ⟨(IsS84.kl HB)⟩⟩
  ·have H1 : (index_reader_fixed.j0 k a1 false s0_0 s0_1 (some q266)) = some (r1, r2, r3, r4) := by rw [if_neg (show ¬ (some q266).isNone = true by simp)] at H; exact H
   clear H
   have H := H1
   clear H1
   try simp only [errW_none, errW_some]
   have H' := Aside0.mk H
   clear H
   obtain ⟨ASz5_0, cSz5_0, HGz5, hgz5, HSz5_0, HLSz5_0⟩ := HI0.out
   have hcz5_0 := cellS84_0 HGz5
   have hcz5_1 := cellS84_1 HGz5
   have hcz5_2 := cellS84_2 HGz5
   try simp only [errW_none, errW_some] at hcz5_2
   have hfz5_0 := blk_frozen HGz5 0
   have hfz5_1 := blk_frozen HGz5 1
   have hfz5_2 := blk_frozen HGz5 2
   clear HGz5 hgz5
   go_wp2
   repeat ((first | go_quiet (fail) | go_region); try go_wp2)
   go_meet
   case rel => exact ⟨_, (false), (by first | rfl | (simp; done) | (simp [*]; done)), H', ⟨by first | omega | exact Nat.le_refl _⟩, ⟨(IsS84.k HI0)⟩, ⟨(kk HK)⟩, ⟨(IsS84.kl HB)⟩⟩
 case rest =>
  clear HC3
  try clear p2
  try clear q2
  try clear c3
  try clear hcz4_0
  try clear hcz4_1
  try clear hcz4_2
  try clear hcz5_0
  try clear hcz5_1
  try clear hcz5_2
  try clear hfz4_0
  try clear hfz4_1
  try clear hfz4_2
  try clear hfz5_0
  try clear hfz5_1
  try clear hfz5_2
  try clear q266
  obtain ⟨kq, x26_2, rfl, HA, HJ2, HI0, HK, HB⟩ := hcut
  cases kq with
  | zero => exact absurd HA.out (by simp [index_reader_fixed.j0])
  | succ kj2 =>
   have H := HA.out
   clear HA
   simp only [index_reader_fixed.j0] at H
   have HC6 := Aside0.mk H
   clear H
   go_upto_if 26 with (fail)
   repeat (go_quiet (fail); go_upto_if 26 with (fail))
   go_cut [] (fun wc => ∃ (kq : Nat) (x1002_5 : Option Int), Aside0 (index_reader_fixed.j1 kq a1 s0_0 s0_1 x1002_5 = some (r1, r2, r3, r4)) ∧ Aside0 (kq ≤ kj2) ∧ Aside0 (IsS84 w0 wc g s0_0 s0_1 x1002_5) ∧ Aside0 (KeepBut w wc g none) ∧ Aside0 (Below w0.heap.size w0 wc))
   case first =>
    have H := HC6.out
    clear HC6
    by_cases c7 : x26_2 = true
    ·subst c7
     have H1 : (index_reader_fixed.j1 kj2 a1 s0_0 s0_1 (some 2)) = some (r1, r2, r3, r4) := by rw [if_pos rfl] at H; exact H
     clear H
     have H := H1
     clear H1
     have H' := Aside0.mk H
     clear H
     obtain ⟨ASz8_0, cSz8_0, HGz8, hgz8, HSz8_0, HLSz8_0⟩ := HI0.out
     have hcz8_0 := cellS84_0 HGz8
     have hcz8_1 := cellS84_1 HGz8
     have hcz8_2 := cellS84_2 HGz8
     try simp only [errW_none, errW_some] at hcz8_2
     have hfz8_0 := blk_frozen HGz8 0
     have hfz8_1 := blk_frozen HGz8 1
     have hfz8_2 := blk_frozen HGz8 2
     clear HGz8 hgz8
     go_wp2
     repeat ((first | go_quiet (fail) | go_region); try go_wp2)
     go_meet
     case rel => exact ⟨_, (some 2), H', ⟨by have := HJ2.out; first | omega | exact Nat.le_refl _⟩, ⟨(IsS84.k HI0)⟩, ⟨(kk HK)⟩, ⟨(IsS84.kl HB)⟩⟩
    ·replace c7 := Bool.eq_false_iff.mpr c7
     subst c7
     have H1 : (index_reader_fixed.j1 kj2 a1 s0_0 s0_1 s0_2) = some (r1, r2, r3, r4) := by rw [if_neg (show ¬ (false = true) by decide)] at H; exact H
     clear H
     have H := H1
     clear H1
     have H' := Aside0.mk H
     clear H
     go_wp2
     repeat ((first | go_quiet (fail) | go_region); try go_wp2)
     go_meet
     case rel => exact ⟨_, (s0_2), H', ⟨by have := HJ2.out; first | omega | exact Nat.le_refl _⟩, ⟨(IsS84.k HI0)⟩, ⟨(kk HK)⟩, ⟨(IsS84.kl HB)⟩⟩
   case rest =>
    clear HC6
    try clear p2
    try clear q2
    try clear c3
    try clear p6
    try clear c7
    try clear hcz4_0
    try clear hcz4_1
    try clear hcz4_2
    try clear hcz5_0
    try clear hcz5_1
    try clear hcz5_2
    try clear hcz8_0
    try clear hcz8_1
    try clear hcz8_2
    try clear hfz4_0
    try clear hfz4_1
    try clear hfz4_2
    try clear hfz5_0
    try clear hfz5_1
    try clear hfz5_2
    try clear hfz8_0
    try clear hfz8_1
    try clear hfz8_2
    try clear p2
    try clear q2
    try clear q266
    obtain ⟨kq, x1002_5, HA, HJ5, HI0, HK, HB⟩ := hcut
    cases kq with
    | zero => exact absurd HA.out (by simp [index_reader_fixed.j1])
    | succ kj5 =>
     have H := HA.out
     clear HA
     simp only [index_reader_fixed.j1] at H
     rcases x1002_5 with _ | q267
     ·have H1 : (if 0 ≤ s0_1 then (if s0_1 ≤ (wrap64 (s0_1 + a1)) then (if (wrap64 (s0_1 + a1)) ≤ (s0_0.length : Int) then (index_reader_fixed.l0 kj5 a1 0 ((s0_0.take ((wrap64 (s0_1 + a1)) : Int).toNat).drop (s0_1 : Int).toNat) (((s0_0.take ((wrap64 (s0_1 + a1)) : Int).toNat).drop (s0_1 : Int).toNat).length : Int) 0 s0_0 s0_1 none) else (none)) else (none)) else (none)) = some (r1, r2, r3, r4) := by rw [if_pos (show (none : Option Int).isNone = true by rfl)] at H; exact H
      clear H
      have H := H1
      clear H1
      try simp only [errW_none, errW_some]
      by_cases c9 : 0 ≤ s0_1
      ·rw [if_pos c9] at H
       have c9b0 := eq_true c9
       have c9b1 : decide (0 ≤ s0_1) = true := decide_eq_true c9
       clear c9
       by_cases c10 : s0_1 ≤ (wrap64 (s0_1 + a1))
       ·rw [if_pos c10] at H
        have c10b0 := eq_true c10
        have c10b1 : decide (s0_1 ≤ (wrap64 (s0_1 + a1))) = true := decide_eq_true c10
        by_cases c11 : (wrap64 (s0_1 + a1)) ≤ (s0_0.length : Int)
        ·rw [if_pos c11] at H
         have c11b0 := eq_true c11
         have c11b1 : decide ((wrap64 (s0_1 + a1)) ≤ (s0_0.length : Int)) = true := decide_eq_true c11
         have H' := Aside0.mk H
         clear H
         obtain ⟨ASz12_0, cSz12_0, HGz12, hgz12, HSz12_0, HLSz12_0⟩ := HI0.out
         have hcz12_0 := cellS84_0 HGz12
         have hcz12_1 := cellS84_1 HGz12
         have hcz12_2 := cellS84_2 HGz12
         try simp only [errW_none, errW_some] at hcz12_2
         have hfz12_0 := blk_frozen HGz12 0
         have hfz12_1 := blk_frozen HGz12 1
         have hfz12_2 := blk_frozen HGz12 2
         clear HGz12 hgz12
         obtain ⟨i013, hi013, _, hsz13, _⟩ := info_parts info5
         obtain ⟨A13, hcut13, hA13, hC13⟩ := print_mid_of (P := Try.prog) (Value.int .u8) 0 54 5 .i64 .i64 Try.underlying54 hi013 hsz13 ASz12_0 cSz12_0 s0_0 s0_1 (wrap64 (s0_1 + a1)) (of_decide_eq_true (by first | (with_reducible assumption) | assumption)) (by first | omega | exact of_decide_eq_true (by first | (with_reducible assumption) | assumption)) (of_decide_eq_true (by first | (with_reducible assumption) | assumption)) HLSz12_0
         have HR268 := Aside0.mk (show Kd.C (Kd.int .u8) w0 A13 ((s0_0.take ((wrap64 (s0_1 + a1)) : Int).toNat).drop (s0_1 : Int).toNat).length ((s0_0.take ((wrap64 (s0_1 + a1)) : Int).toNat).drop (s0_1 : Int).toNat) from Kd.C_of_reads (h1 := fun _ => rfl) (hA13 _ (Kd.reads_of_C HSz12_0)))
         have HC268 := Aside0.mk (show ((s0_0.take ((wrap64 (s0_1 + a1)) : Int).toNat).drop (s0_1 : Int).toNat).length ≤ (cSz12_0 - s0_1.toNat) from hC13)
         (try (have hmn13 : min ((wrap64 (s0_1 + a1)) : Int).toNat s0_0.length = ((wrap64 (s0_1 + a1)) : Int).toNat := by have h_ : ((wrap64 (s0_1 + a1)) : Int) ≤ (s0_0.length : Int) := of_decide_eq_true (by first | (with_reducible assumption) | assumption); omega))
         clear hA13 hC13 hi013 hsz13
         go_wp2
         repeat ((first | go_quiet (fail) | go_region); try go_wp2)
         go_loopg [5, 52] kj5 (fun kq v5 v52 w' => ∃ (x5_3 : Int) (x52_3 : Int), v5 = .int .u64 x5_3 ∧ v52 = .int .i64 x52_3 ∧ Aside0 (index_reader_fixed.l0 kq a1 x5_3 ((s0_0.take ((wrap64 (s0_1 + a1)) : Int).toNat).drop (s0_1 : Int).toNat) (((s0_0.take ((wrap64 (s0_1 + a1)) : Int).toNat).drop (s0_1 : Int).toNat).length : Int) x52_3 s0_0 s0_1 none = some (r1, r2, r3, r4)) ∧ Aside0 (kq ≤ kj5) ∧ Aside0 (IsS84 w0 w' g s0_0 s0_1 none) ∧ Aside0 (KeepBut w w' g none) ∧ Aside0 (Below w0.heap.size w0 w'))
         case atStart => exact ⟨(0), (0), (by first | rfl | (simp; done) | (simp [*]; done)), (by first | rfl | (simp; done) | (simp [*]; done)), H', ⟨Nat.le_refl _⟩, ⟨(IsS84.k HI0)⟩, ⟨(kk HK)⟩, ⟨(IsS84.kl HB)⟩⟩
         case round =>
          clear H'
          try clear c1
          try clear p2
          try clear q2
          try clear c3
          try clear p6
          try clear c7
          try clear c9
          try clear c9b0
          try clear c9b1
          try clear c10
          try clear c10b0
          try clear c10b1
          try clear c11
          try clear c11b0
          try clear c11b1
          try clear hcz12_0
          try clear hcz12_1
          try clear hcz12_2
          try clear hcz4_0
          try clear hcz4_1
          try clear hcz4_2
          try clear hcz5_0
          try clear hcz5_1
          try clear hcz5_2
          try clear hcz8_0
          try clear hcz8_1
          try clear hcz8_2
          try clear hfz12_0
          try clear hfz12_1
          try clear hfz12_2
          try clear hfz4_0
          try clear hfz4_1
          try clear hfz4_2
          try clear hfz5_0
          try clear hfz5_1
          try clear hfz5_2
          try clear hfz8_0
          try clear hfz8_1
          try clear hfz8_2
          try clear p2
          try clear p6
          try clear q2
          try clear q266
          try clear q267
          obtain ⟨x5_3, x52_3, rfl, rfl, HA, HK3, HI0, HK, HB⟩ := hrel
          cases gk with
          | zero => exact absurd HA.out (by simp [index_reader_fixed.l0])
          | succ k3 =>
           have H := HA.out
           clear HA
           simp only [index_reader_fixed.l0] at H
           by_cases c14 : x52_3 < (((s0_0.take ((wrap64 (s0_1 + a1)) : Int).toNat).drop (s0_1 : Int).toNat).length : Int)
           ·rw [if_pos c14] at H
            have c14b0 : decide (x52_3 < (((s0_0.take ((wrap64 (s0_1 + a1)) : Int).toNat).drop (s0_1 : Int).toNat).length : Int)) = true := decide_eq_true c14
            (try (have c14s0 := c14b0; simp only [List.length_drop, List.length_take] at c14s0; (first | rw [hmn13] at c14s0 | skip)))
            clear c14
            by_cases c15 : 0 ≤ x52_3
            ·rw [if_pos c15] at H
             have c15b0 : decide (0 ≤ x52_3) = true := decide_eq_true c15
             clear c15
             by_cases c16 : x52_3 < (((s0_0.take ((wrap64 (s0_1 + a1)) : Int).toNat).drop (s0_1 : Int).toNat).length : Int)
             ·rw [if_pos c16] at H
              have c16b0 : decide (x52_3 < (((s0_0.take ((wrap64 (s0_1 + a1)) : Int).toNat).drop (s0_1 : Int).toNat).length : Int)) = true := decide_eq_true c16
              (try (have c16s0 := c16b0; simp only [List.length_drop, List.length_take] at c16s0; (first | rw [hmn13] at c16s0 | skip)))
              clear c16
              have H' := Aside0.mk H
              clear H
              have p269 : 0 ≤ (x52_3 : Int) := of_decide_eq_true (by first | (with_reducible assumption) | assumption)
              have q269 : x52_3 < (((s0_0.take ((wrap64 (s0_1 + a1)) : Int).toNat).drop (s0_1 : Int).toNat).length : Int) := of_decide_eq_true (by first | (with_reducible assumption) | assumption)
              obtain ⟨ad269, e269, hx269_0⟩ := Kd.at_int HR268.out x52_3 p269 q269
              cases e269
              replace hx269_0 := pw_cell_below HB.out hx269_0
              replace p269 := eq_true p269
              (try (have q269s := q269; simp only [List.length_drop, List.length_take] at q269s; (first | rw [hmn13] at q269s | skip); replace q269s := eq_true q269s)); replace q269 := eq_true q269
              go_wp2
              repeat ((first | go_quiet (fail) | go_region); try go_wp2)
              go_roundg k3
              case measure => have := HJ2.out; have := HJ5.out; have := HK3.out; omega
              case rel => exact ⟨(Go.bits .or .u64 (IntKind.u64.wrap (x5_3 * 256)) (IntKind.u64.wrap (rd ((s0_0.take ((wrap64 (s0_1 + a1)) : Int).toNat).drop (s0_1 : Int).toNat) x52_3))), (wrap64 (x52_3 + 1)), (by first | rfl | (simp; done) | (simp [*]; done)), (by first | rfl | (simp; done) | (simp [*]; done)), H', ⟨by have := HJ2.out; have := HJ5.out; have := HK3.out; omega⟩, ⟨(IsS84.k HI0)⟩, ⟨(kk HK)⟩, ⟨(IsS84.kl HB)⟩⟩
             ·rw [if_neg c16] at H
              exact absurd H (by simp)
            ·rw [if_neg c15] at H
             exact absurd H (by simp)
           ·rw [if_neg c14] at H
            have c14b0 : decide (x52_3 < (((s0_0.take ((wrap64 (s0_1 + a1)) : Int).toNat).drop (s0_1 : Int).toNat).length : Int)) = false := decide_eq_false c14
            (try (have c14s0 := c14b0; simp only [List.length_drop, List.length_take] at c14s0; (first | rw [hmn13] at c14s0 | skip)))
            clear c14
            simp only [Option.some.injEq, Prod.mk.injEq] at H
            obtain ⟨rfl, rfl, rfl, rfl⟩ := H
            obtain ⟨ASz17_0, cSz17_0, HGz17, hgz17, HSz17_0, HLSz17_0⟩ := HI0.out
            have hcz17_0 := cellS84_0 HGz17
            have hcz17_1 := cellS84_1 HGz17
            have hcz17_2 := cellS84_2 HGz17
            try simp only [errW_none, errW_some] at hcz17_2
            have hfz17_0 := blk_frozen HGz17 0
            have hfz17_1 := blk_frozen HGz17 1
            have hfz17_2 := blk_frozen HGz17 2
            clear HGz17 hgz17
            go_wp2
            repeat ((first | go_quiet (fail) | go_region); try go_wp2)
            go_ret
            exact ⟨by first | rfl | (simp [errW_none, errW_some] <;> rfl) | (simp [*, errW_none, errW_some] <;> rfl), (IsS84.k HI0), (IsS84.kl HB), (kk HK)⟩
        ·rw [if_neg c11] at H
         exact absurd H (by simp)
       ·rw [if_neg c10] at H
        exact absurd H (by simp)
      ·rw [if_neg c9] at H
       exact absurd H (by simp)
     ·have H1 : (some (0, s0_0, s0_1, some q267)) = some (r1, r2, r3, r4) := by rw [if_neg (show ¬ (some q267).isNone = true by simp)] at H; exact H
      clear H
      have H := H1
      clear H1
      try simp only [errW_none, errW_some]
      simp only [Option.some.injEq, Prod.mk.injEq] at H
      obtain ⟨rfl, rfl, rfl, rfl⟩ := H
      obtain ⟨ASz18_0, cSz18_0, HGz18, hgz18, HSz18_0, HLSz18_0⟩ := HI0.out
      have hcz18_0 := cellS84_0 HGz18
      have hcz18_1 := cellS84_1 HGz18
      have hcz18_2 := cellS84_2 HGz18
      try simp only [errW_none, errW_some] at hcz18_2
      have hfz18_0 := blk_frozen HGz18 0
      have hfz18_1 := blk_frozen HGz18 1
      have hfz18_2 := blk_frozen HGz18 2
      clear HGz18 hgz18
      go_wp2
      repeat ((first | go_quiet (fail) | go_region); try go_wp2)
      go_ret
      exact ⟨by first | rfl | (simp [errW_none, errW_some] <;> rfl) | (simp [*, errW_none, errW_some] <;> rfl), (IsS84.k HI0), (IsS84.kl HB), (kk HK)⟩

/-! ### index_reader_some: function 43 -/
def index_reader_some.f (k : Nat) (s0_0 : List Int) (s0_1 : Int) (s0_2 : Option Int) : Option (Int × List Int × Int × Option Int) := if s0_2.isNone = true then ((uvar_Get.f k s0_0 s0_1).bind fun bt273 => (some (bt273.1, s0_0, wrap64 (s0_1 + bt273.2.1), bt273.2.2))) else (some (0, s0_0, s0_1, some (s0_2.getD 0)))
theorem index_reader_some.mono : ∀ a0 a1 a2 k, LeO (index_reader_some.f k a0 a1 a2) (index_reader_some.f (k + 1) a0 a1 a2) := by
 intro a0 a1 a2 k
 unfold index_reader_some.f
 repeat' first
   | (with_reducible exact uvar_Get.mono _ _ _)
   | (with_reducible exact LeO.refl _)
   | (with_reducible exact LeO.none _)
   | (with_reducible refine LeO.ite ?_ ?_)
   | (with_reducible refine LeO.bind ?_ (fun _ => ?_))
   | exact uvar_Get.mono _ _ _
   | exact LeO.none _
   | refine LeO.ite ?_ ?_
   | refine LeO.bind ?_ (fun _ => ?_)
set_option maxHeartbeats 8000000 in
set_option maxRecDepth 100000 in
theorem index_reader_some.calls (k : Nat) (g : Nat) (s0_0 : List Int) (s0_1 : Int) (s0_2 : Option Int) (r1 : Int) (r2 : List Int) (r3 : Int) (r4 : Option Int) (w0 w : World) (hI : IsS84 w0 w g s0_0 s0_1 s0_2) (hB : Below w0.heap.size w0 w) (h : index_reader_some.f k s0_0 s0_1 s0_2 = some (r1, r2, r3, r4)) :
  Calls Try.prog 43 #[.pointer (some ⟨g, 0, none⟩)] w fun e w' => e = .returned (.int .u64 r1) ∧ IsS84 w0 w' g r2 r3 r4 ∧ Below w0.heap.size w0 w' ∧ KeepBut w w' g none := by
 have hu27 := Try.underlying27
 have hu29 := Try.underlying29
 have HI0 := Aside0.mk hI
 have HK := Aside0.mk (KeepBut.refl w g none)
 have HL := Aside0.mk hB.size
 clear hI
 have HW0 := Aside0.mk hB.size
 have HB := Aside0.mk hB
 clear hB
 have H : (if s0_2.isNone = true then ((uvar_Get.f k s0_0 s0_1).bind fun bt273 => (some (bt273.1, s0_0, wrap64 (s0_1 + bt273.2.1), bt273.2.2))) else (some (0, s0_0, s0_1, some (s0_2.getD 0)))) = some (r1, r2, r3, r4) := h
 clear h
 rcases s0_2 with _ | q272
 ·have H1 : ((uvar_Get.f k s0_0 s0_1).bind fun bt273 => (some (bt273.1, s0_0, wrap64 (s0_1 + bt273.2.1), bt273.2.2))) = some (r1, r2, r3, r4) := by rw [if_pos (show (none : Option Int).isNone = true by rfl)] at H; exact H
  clear H
  have H := H1
  clear H1
  try simp only [errW_none, errW_some]
  replace H := Option.bind_eq_some_iff.mp H
  obtain ⟨⟨t273, t274, t275⟩, A20, H⟩ := H
  replace H : (some (t273, s0_0, wrap64 (s0_1 + t274), t275)) = some (r1, r2, r3, r4) := H
  have A2 := Aside0.mk A20
  clear A20
  simp only [Option.some.injEq, Prod.mk.injEq] at H
  obtain ⟨rfl, rfl, rfl, rfl⟩ := H
  obtain ⟨ASz3_0, cSz3_0, HGz3, hgz3, HSz3_0, HLSz3_0⟩ := HI0.out
  have hcz3_0 := cellS84_0 HGz3
  have hcz3_1 := cellS84_1 HGz3
  have hcz3_2 := cellS84_2 HGz3
  try simp only [errW_none, errW_some] at hcz3_2
  have hfz3_0 := blk_frozen HGz3 0
  have hfz3_1 := blk_frozen HGz3 1
  have hfz3_2 := blk_frozen HGz3 2
  clear HGz3 hgz3
  go_enter Try.func43, Try.ntmps43
  go_wp2_with (first | (go_at_call 44; (with_reducible refine (uvar_Get.calls k _ _ s0_0 s0_1 t273 t274 t275 _ ?side1 ?side2 A2.out).mono ?_); (case side1 => exact Kd.C_below HSz3_0 (IsS84.kl HB)); (case side2 => exact HLSz3_0); rintro e w' ⟨rfl, ⟨nd, rfl⟩⟩; (try simp only [errW_none, errW_some]); (try first | exact ⟨rfl, _, World.drewN_drewN _ _ _⟩ | exact ⟨rfl, _, Eq.trans (World.drewN_drewN _ _ _) (congrArg (World.drewN _) (Nat.add_assoc _ _ _))⟩)))
  repeat (go_quiet (first | (go_at_call 44; (with_reducible refine (uvar_Get.calls k _ _ s0_0 s0_1 t273 t274 t275 _ ?side1 ?side2 A2.out).mono ?_); (case side1 => exact Kd.C_below HSz3_0 (IsS84.kl HB)); (case side2 => exact HLSz3_0); rintro e w' ⟨rfl, ⟨nd, rfl⟩⟩; (try simp only [errW_none, errW_some]); (try first | exact ⟨rfl, _, World.drewN_drewN _ _ _⟩ | exact ⟨rfl, _, Eq.trans (World.drewN_drewN _ _ _) (congrArg (World.drewN _) (Nat.add_assoc _ _ _))⟩))); try go_wp2_with (first | (go_at_call 44; (with_reducible refine (uvar_Get.calls k _ _ s0_0 s0_1 t273 t274 t275 _ ?side1 ?side2 A2.out).mono ?_); (case side1 => exact Kd.C_below HSz3_0 (IsS84.kl HB)); (case side2 => exact HLSz3_0); rintro e w' ⟨rfl, ⟨nd, rfl⟩⟩; (try simp only [errW_none, errW_some]); (try first | exact ⟨rfl, _, World.drewN_drewN _ _ _⟩ | exact ⟨rfl, _, Eq.trans (World.drewN_drewN _ _ _) (congrArg (World.drewN _) (Nat.add_assoc _ _ _))⟩))))
  go_ret
  exact ⟨by first | rfl | (simp [errW_none, errW_some] <;> rfl) | (simp [*, errW_none, errW_some] <;> rfl), (IsS84.k HI0), (IsS84.kl HB), (kk HK)⟩
 ·have H1 : (some (0, s0_0, s0_1, some q272)) = some (r1, r2, r3, r4) := by rw [if_neg (show ¬ (some q272).isNone = true by simp)] at H; exact H
  clear H
  have H := H1
  clear H1
  try simp only [errW_none, errW_some]
  simp only [Option.some.injEq, Prod.mk.injEq] at H
  obtain ⟨rfl, rfl, rfl, rfl⟩ := H
  obtain ⟨ASz4_0, cSz4_0, HGz4, hgz4, HSz4_0, HLSz4_0⟩ := HI0.out
  have hcz4_0 := cellS84_0 HGz4
  have hcz4_1 := cellS84_1 HGz4
  have hcz4_2 := cellS84_2 HGz4
  try simp only [errW_none, errW_some] at hcz4_2
  have hfz4_0 := blk_frozen HGz4 0
  have hfz4_1 := blk_frozen HGz4 1
  have hfz4_2 := blk_frozen HGz4 2
  clear HGz4 hgz4
  go_enter Try.func43, Try.ntmps43
  go_wp2
  repeat ((first | go_quiet (fail) | go_region); try go_wp2)
  go_ret
  exact ⟨by first | rfl | (simp [errW_none, errW_some] <;> rfl) | (simp [*, errW_none, errW_some] <;> rfl), (IsS84.k HI0), (IsS84.kl HB), (kk HK)⟩

end Go.Proofs.Ytiahbcaoikoogaa.All
