-- written by a program of the session out of the translation; Lean checks it
import Derived.Test.YtfpcbnkipdjlhaaAllx0
namespace Go.Proofs.Ytfpcbnkipdjlhaa.All
open Go.RowKit Go.Proofs.YtfpcbnkipdjlhaaW.PrintWords Go.Proofs.YtfpcbnkipdjlhaaW.PrintLast Go.Proofs.YtfpcbnkipdjlhaaW.PrintMore
attribute [local go_sem] max2_int min2_int max_two min_two max_three min_three max_four min_four   -- for this text's walks alone
set_option linter.unusedVariables false
set_option linter.unusedSimpArgs false

/-- A state of type 95 at block g of W; what its slices lead to came in by w0. -/
def IsS95 (w0 W : World) (g : Nat) (f0 : List Int) (f1 : Int) (f2 : Int) : Prop := ∃ A0 c0, W.heap[g]? = some (.cells #[.slice A0 f0.length c0, .int .u64 f1, .int .i64 f2] 95 (0, 0)) ∧ w0.heap.size ≤ g ∧ Kd.C (Kd.int .u8) w0 A0 f0.length f0 ∧ f0.length ≤ c0
theorem IsS95.grown {w0 W : World} {g : Nat} {f0 : List Int} {f1 : Int} {f2 : Int} {W1 : World} {row : Option Nat} (h : IsS95 w0 W g f0 f1 f2) (hw : W.grownBy W1 row) (hne : some g ≠ row) : IsS95 w0 W1 g f0 f1 f2 := by
  obtain ⟨A0, c0, hb, hg, hr0, hl0⟩ := h
  exact ⟨A0, c0, blk_grown hb hw hne, hg, hr0, hl0⟩
theorem IsS95.own_neN {w0 W : World} {g : Nat} {f0 : List Int} {f1 : Int} {f2 : Int} {α : Type} {d : Kd α} {e : Nat} {base : Nat} {ok : Nat → Prop} {v : Value} {xs : List α} (h : IsS95 w0 W g f0 f1 f2) (ho : Kd.N d e W base ok v xs) (ht : e ≠ 95) : some g ≠ v.ownBlock := by
  obtain ⟨A0, c0, hb, hg, hr0, hl0⟩ := h
  exact Kd.N_ne ho hb ht
theorem IsS95.fresh {w0 W : World} {g : Nat} {f0 : List Int} {f1 : Int} {f2 : Int} (h : IsS95 w0 W g f0 f1 f2) : ∀ k, W.heap.size ≤ k → k ≠ g := by
  obtain ⟨A0, c0, hb, hg, hr0, hl0⟩ := h
  exact Kd.freshB hb
theorem IsS95.kept {w0 W : World} {g : Nat} {f0 : List Int} {f1 : Int} {f2 : Int} {W1 : World} {S : Nat → Prop} (h : IsS95 w0 W g f0 f1 f2) (hk : Kept W W1 S) (hne : ¬ S g) : IsS95 w0 W1 g f0 f1 f2 := by
  obtain ⟨A0, c0, hb, hg, hr0, hl0⟩ := h
  exact ⟨A0, c0, blk_kept hb hk hne, hg, hr0, hl0⟩
theorem IsS95.below {w0 W : World} {g : Nat} {f0 : List Int} {f1 : Int} {f2 : Int} {W1 : World} (h : IsS95 w0 W g f0 f1 f2) (hw : Below W.heap.size W W1) : IsS95 w0 W1 g f0 f1 f2 := h.grown (grown_of_below hw none) (by simp)
theorem IsS95.alloc {w0 W : World} {g : Nat} {f0 : List Int} {f1 : Int} {f2 : Int} (h : IsS95 w0 W g f0 f1 f2) (o : Obj) : IsS95 w0 (W.alloc o) g f0 f1 f2 := h.below (below_alloc (Below.refl _ _) o)
theorem IsS95.drewN {w0 W : World} {g : Nat} {f0 : List Int} {f1 : Int} {f2 : Int} (h : IsS95 w0 W g f0 f1 f2) (m : Nat) : IsS95 w0 (W.drewN m) g f0 f1 f2 := h
theorem IsS95.drew {w0 W : World} {g : Nat} {f0 : List Int} {f1 : Int} {f2 : Int} (h : IsS95 w0 W g f0 f1 f2) : IsS95 w0 W.drew g f0 f1 f2 := h
theorem IsS95.at_ {w0 W : World} {g : Nat} {f0 : List Int} {f1 : Int} {f2 : Int} {w' : World} {m : Nat} (hq : W.drewN m = w') (h : IsS95 w0 W g f0 f1 f2) : IsS95 w0 w' g f0 f1 f2 := by subst hq; exact IsS95.drewN h m
theorem IsS95.apart {w0 W : World} {g : Nat} {f0 : List Int} {f1 : Int} {f2 : Int} {α : Type} {d : Kd α} {e : Nat} {base : Nat} {ok : Nat → Prop} {v : Value} {xs : List α} (h : IsS95 w0 W g f0 f1 f2) (ho : d.R e W base ok v xs) (ht : ∀ q, q ∈ e :: d.E → q ≠ 95) : d.R e W base (fun k => ok k ∧ k ≠ g) v xs := by
  obtain ⟨A0, c0, hb, hg, hr0, hl0⟩ := h
  exact Kd.R_types ho hb ht
theorem IsS95.own_ne {w0 W : World} {g : Nat} {f0 : List Int} {f1 : Int} {f2 : Int} {α : Type} {d : Kd α} {e : Nat} {base : Nat} {ok : Nat → Prop} {v : Value} {xs : List α} (h : IsS95 w0 W g f0 f1 f2) (ho : d.R e W base ok v xs) (ht : e ≠ 95) : some g ≠ v.ownBlock := by
  obtain ⟨A0, c0, hb, hg, hr0, hl0⟩ := h
  exact Kd.R_ne ho hb ht
theorem IsS95.apartQ {w0 W : World} {g : Nat} {f0 : List Int} {f1 : Int} {f2 : Int} {α : Type} {d : Kd α} {e : Nat} {base : Nat} {ok : Nat → Prop} {v : Value} {xs : List α} (h : IsS95 w0 W g f0 f1 f2) (ho : d.Q e W base ok v xs) (ht : ∀ q, q ∈ e :: d.E → q ≠ 95) : d.Q e W base (fun k => ok k ∧ k ≠ g) v xs := by
  obtain ⟨A0, c0, hb, hg, hr0, hl0⟩ := h
  exact Kd.Q_types ho hb ht
theorem IsS95.own_neQ {w0 W : World} {g : Nat} {f0 : List Int} {f1 : Int} {f2 : Int} {α : Type} {d : Kd α} {e : Nat} {base : Nat} {ok : Nat → Prop} {v : Value} {xs : List α} (h : IsS95 w0 W g f0 f1 f2) (ho : d.Q e W base ok v xs) (ht : e ≠ 95) : some g ≠ v.ownBlock := by
  obtain ⟨A0, c0, hb, hg, hr0, hl0⟩ := h
  exact Kd.Q_ne ho hb ht
theorem IsS95.apartS {w0 W : World} {g : Nat} {f0 : List Int} {f1 : Int} {f2 : Int} {α : Type} {d : Kd α} {e : Nat} {base : Nat} {ok : Nat → Prop} {v : Value} {xs : List α} (h : IsS95 w0 W g f0 f1 f2) (ho : d.S e W base ok v xs) (ht : ∀ q, q ∈ e :: d.E → q ≠ 95) : d.S e W base (fun k => ok k ∧ k ≠ g) v xs := by
  obtain ⟨A0, c0, hb, hg, hr0, hl0⟩ := h
  exact Kd.S_types ho hb ht
theorem IsS95.own_neS {w0 W : World} {g : Nat} {f0 : List Int} {f1 : Int} {f2 : Int} {α : Type} {d : Kd α} {e : Nat} {base : Nat} {ok : Nat → Prop} {v : Value} {xs : List α} (h : IsS95 w0 W g f0 f1 f2) (ho : d.S e W base ok v xs) (ht : e ≠ 95) : some g ≠ v.ownBlock := by
  obtain ⟨A0, c0, hb, hg, hr0, hl0⟩ := h
  exact Kd.S_ne ho hb ht
theorem IsS95.lt {w0 W : World} {g : Nat} {f0 : List Int} {f1 : Int} {f2 : Int} (h : IsS95 w0 W g f0 f1 f2) : g < W.heap.size := by
  obtain ⟨A0, c0, hb, hg, hr0, hl0⟩ := h
  exact blk_lt hb
theorem IsS95.ge {w0 W : World} {g : Nat} {f0 : List Int} {f1 : Int} {f2 : Int} (h : IsS95 w0 W g f0 f1 f2) : w0.heap.size ≤ g := by
  obtain ⟨A0, c0, hb, hg, hr0, hl0⟩ := h
  exact hg
theorem IsS95.ne_blk {w0 W : World} {g : Nat} {f0 : List Int} {f1 : Int} {f2 : Int} {a : Nat} {cs : Array Value} {t : TypeId} {fr : Nat × Nat} (h : IsS95 w0 W g f0 f1 f2) (hb2 : W.heap[a]? = some (.cells cs t fr)) (ht : t ≠ 95) : g ≠ a := by
  obtain ⟨A0, c0, hb, hg, hr0, hl0⟩ := h
  rintro rfl
  rw [hb] at hb2
  injection hb2 with hb2
  injection hb2 with _ ht2
  exact ht ht2.symm
theorem IsS95.far {w0 W : World} {g : Nat} {f0 : List Int} {f1 : Int} {f2 : Int} {p : Addr} (h : IsS95 w0 W g f0 f1 f2) (hne : g ≠ p.block) (u : Value) : IsS95 w0 (W.setCell p u) g f0 f1 f2 := by
  obtain ⟨A0, c0, hb, hg, hr0, hl0⟩ := h
  exact ⟨A0, c0, blk_far hb hne u, hg, hr0, hl0⟩
theorem cellS95_0 {W : World} {g : Nat} {A0 : Option Addr} {c0 : Nat} {f0 : List Int} {f1 : Int} {f2 : Int} (h : W.heap[g]? = some (.cells #[.slice A0 f0.length c0, .int .u64 f1, .int .i64 f2] 95 (0, 0))) : W.cell? ⟨g, 0, none⟩ = some (.slice A0 f0.length c0) := (blk_cell h 0).trans rfl
theorem IsS95.set_0 {w0 W : World} {g : Nat} {f0 : List Int} {f1 : Int} {f2 : Int} (h : IsS95 w0 W g f0 f1 f2) {A_ : Option Addr} {n_ c_ : Nat} {x : List Int} (hr_ : Kd.C (Kd.int .u8) w0 A_ x.length x) (hl_ : x.length ≤ c_) (hn_ : n_ = x.length) : IsS95 w0 (W.setCell ⟨g, 0, none⟩ (.slice A_ n_ c_)) g x f1 f2 := by
  subst hn_
  obtain ⟨A0, c0, hb, hg, hr0, hl0⟩ := h
  exact ⟨A_, c_, by simpa using blk_set hb 0 (.slice A_ x.length c_), hg, hr_, hl_⟩
theorem cellS95_1 {W : World} {g : Nat} {A0 : Option Addr} {c0 : Nat} {f0 : List Int} {f1 : Int} {f2 : Int} (h : W.heap[g]? = some (.cells #[.slice A0 f0.length c0, .int .u64 f1, .int .i64 f2] 95 (0, 0))) : W.cell? ⟨g, 1, none⟩ = some (.int .u64 f1) := (blk_cell h 1).trans rfl
theorem IsS95.set_1 {w0 W : World} {g : Nat} {f0 : List Int} {f1 : Int} {f2 : Int} (h : IsS95 w0 W g f0 f1 f2) (x : Int) : IsS95 w0 (W.setCell ⟨g, 1, none⟩ (.int .u64 x)) g f0 x f2 := by
  obtain ⟨A0, c0, hb, hg, hr0, hl0⟩ := h
  exact ⟨A0, c0, by simpa using blk_set hb 1 (.int .u64 x), hg, hr0, hl0⟩
theorem cellS95_2 {W : World} {g : Nat} {A0 : Option Addr} {c0 : Nat} {f0 : List Int} {f1 : Int} {f2 : Int} (h : W.heap[g]? = some (.cells #[.slice A0 f0.length c0, .int .u64 f1, .int .i64 f2] 95 (0, 0))) : W.cell? ⟨g, 2, none⟩ = some (.int .i64 f2) := (blk_cell h 2).trans rfl
theorem IsS95.set_2 {w0 W : World} {g : Nat} {f0 : List Int} {f1 : Int} {f2 : Int} (h : IsS95 w0 W g f0 f1 f2) (x : Int) : IsS95 w0 (W.setCell ⟨g, 2, none⟩ (.int .i64 x)) g f0 f1 x := by
  obtain ⟨A0, c0, hb, hg, hr0, hl0⟩ := h
  exact ⟨A0, c0, by simpa using blk_set hb 2 (.int .i64 x), hg, hr0, hl0⟩
theorem IsS95.new (w0 W : World) (A0 : Option Addr) (c0 : Nat) (f0 : List Int) (f1 : Int) (f2 : Int) (hB : Below w0.heap.size w0 W) (hr0 : Kd.C (Kd.int .u8) w0 A0 f0.length f0) (hl0 : f0.length ≤ c0) : IsS95 w0 (W.alloc (.cells #[.slice A0 f0.length c0, .int .u64 f1, .int .i64 f2] 95)) W.heap.size f0 f1 f2 := ⟨A0, c0, by simpa using heap_alloc_new W _, hB.size, hr0, hl0⟩

/-! ### fill_New: function 43 -/
def fill_New.f (l0 : List Int) : Option (List Int × Int × Int) := some (l0, 0, 0)
set_option maxHeartbeats 8000000 in
set_option maxRecDepth 100000 in
theorem fill_New.calls (A0 : Option Addr) (c0 : Nat) (l0 : List Int) (r1 : List Int) (r2 : Int) (r3 : Int) (w0 w : World) (hB : Below w0.heap.size w0 w) (hr0 : Kd.C (Kd.int .u8) w0 A0 l0.length l0) (hc0 : l0.length ≤ c0) (h : fill_New.f l0 = some (r1, r2, r3)) :
    Calls Try.prog 43 #[.slice A0 l0.length c0] w fun e w' => ∃ g_ : Nat, e = .returned (.pointer (some ⟨g_, 0, none⟩)) ∧ IsS95 w0 w' g_ r1 r2 r3 ∧ Below w0.heap.size w0 w' ∧ Below w.heap.size w w' := by
  have hu95 := Try.underlying95
  have HR0 := Aside0.mk hr0
  have HC0 := Aside0.mk hc0
  clear hr0 hc0
  have HBW := Aside0.mk (Below.refl w.heap.size w)
  have HW0 := Aside0.mk hB.size
  have HB := Aside0.mk hB
  clear hB
  have H : (some (l0, 0, 0)) = some (r1, r2, r3) := h
  clear h
  simp only [Option.some.injEq, Prod.mk.injEq] at H
  obtain ⟨rfl, rfl, rfl⟩ := H
  go_enter Try.func43, Try.ntmps43
  go_wp2_with (first | ((with_reducible refine gate_dst (N := 5) rfl ?_); refine box_event ?hg (N := 5) ?hd (cs := #[.slice A0 l0.length c0, .int .u64 0, .int .i64 0]) (t := 95) ?hr ?_; (case hd => rfl); (case hg => rfl); (case hr => first | (go_simp; done) | (go_simp; rfl)); intro gb258 hg w2 hbox hb; have n0_ := Aside0.mk (below_step HBW.out hb); have n1_ := Aside0.mk (below_step (by repeat (first | (with_reducible first | exact HB.out | apply below_alloc | apply pw_below_drewN | apply below_drew1) | exact HB.out)) hb); have n2_ := Aside0.mk (hbox); have n3_ := Aside0.mk ((by rw [hg]; exact (below_size (by repeat (first | (with_reducible first | exact HBW.out | apply below_alloc | apply pw_below_drewN | apply below_drew1) | exact HBW.out))) : w.heap.size ≤ gb258)); have n4_ := Aside0.mk ((Nat.le_trans HW0.out (by rw [hg]; exact (below_size (by repeat (first | (with_reducible first | exact HBW.out | apply below_alloc | apply pw_below_drewN | apply below_drew1) | exact HBW.out))) : w.heap.size ≤ gb258) : w0.heap.size ≤ gb258)); clear HBW; clear HB; have HBW := n0_; have HB := n1_; have BK258 := n2_; have GW258 := n3_; have GE258 := n4_; clear n0_ n1_ n2_ n3_ n4_; clear hb hbox hg))
  go_ret
  exact ⟨_, rfl, (show IsS95 w0 _ gb258 l0 0 0 from ⟨_, _, by (with_reducible repeat (first | refine blk_drewN ?_ _ | refine blk_drew ?_ | refine blk_alloc ?_ _)); exact BK258.out, GE258.out, HR0.out, HC0.out⟩), by repeat (first | (with_reducible first | exact HB.out | apply below_alloc | apply pw_below_drewN | apply below_drew1 | refine below_set ?_ GE258.out) | exact HB.out), by repeat (first | (with_reducible first | exact HBW.out | apply below_alloc | apply pw_below_drewN | apply below_drew1 | refine below_set ?_ GW258.out) | exact HBW.out)⟩

/-! ### fill_Reader_refill: function 58 -/
def fill_Reader_refill.l0 : Nat → List Int → Int → Int → Option (List Int × Int × Int)
  | 0, _, _, _ => none
  | k + 1, x1000, x1001, x1002 => if x1002 ≤ 56 then (if (x1000.length : Int) > 0 then (if 0 < (x1000.length : Int) then (if 0 ≤ (wrap64 (56 - x1002)) then (if 1 ≤ (x1000.length : Int) then (fill_Reader_refill.l0 k (x1000.drop 1) (Go.bits .or .u64 x1001 (shl .u64 (IntKind.u64.wrap (rd x1000 0)) (wrap64 (56 - x1002)))) (wrap64 (x1002 + 8))) else (none)) else (none)) else (none)) else (some (x1000, x1001, x1002))) else (some (x1000, x1001, x1002))
def fill_Reader_refill.f (k : Nat) (s0_0 : List Int) (s0_1 : Int) (s0_2 : Int) : Option (List Int × Int × Int) := fill_Reader_refill.l0 k s0_0 s0_1 s0_2
theorem fill_Reader_refill.mono_l : ∀ k, (∀ y0 y1 y2, LeO (fill_Reader_refill.l0 k y0 y1 y2) (fill_Reader_refill.l0 (k + 1) y0 y1 y2))
  | 0 => fun _ _ _ r h => by simp [fill_Reader_refill.l0] at h
  | k + 1 => by
    have ih0 := fill_Reader_refill.mono_l k
    · intro y0 y1 y2
      unfold fill_Reader_refill.l0
      repeat' first
      | (with_reducible exact ih0 _ _ _)
      | (with_reducible exact LeO.refl _)
      | (with_reducible exact LeO.none _)
      | (with_reducible refine LeO.ite ?_ ?_)
      | (with_reducible refine LeO.bind ?_ (fun _ => ?_))
      | exact ih0 _ _ _
      | exact LeO.none _
      | refine LeO.ite ?_ ?_
      | refine LeO.bind ?_ (fun _ => ?_)
theorem fill_Reader_refill.mono : ∀ a0 a1 a2 k, LeO (fill_Reader_refill.f k a0 a1 a2) (fill_Reader_refill.f (k + 1) a0 a1 a2) := by
  intro a0 a1 a2 k
  have ih0 := fill_Reader_refill.mono_l k
  unfold fill_Reader_refill.f
  repeat' first
      | (with_reducible exact ih0 _ _ _)
      | (with_reducible exact LeO.refl _)
      | (with_reducible exact LeO.none _)
      | (with_reducible refine LeO.ite ?_ ?_)
      | (with_reducible refine LeO.bind ?_ (fun _ => ?_))
      | exact ih0 _ _ _
      | exact LeO.none _
      | refine LeO.ite ?_ ?_
      | refine LeO.bind ?_ (fun _ => ?_)
set_option maxHeartbeats 8000000 in
set_option maxRecDepth 100000 in
theorem fill_Reader_refill.calls (k : Nat) (g : Nat) (s0_0 : List Int) (s0_1 : Int) (s0_2 : Int) (r1 : List Int) (r2 : Int) (r3 : Int) (w0 w : World) (hI : IsS95 w0 w g s0_0 s0_1 s0_2) (hB : Below w0.heap.size w0 w) (h : fill_Reader_refill.f k s0_0 s0_1 s0_2 = some (r1, r2, r3)) :
    Calls Try.prog 58 #[.pointer (some ⟨g, 0, none⟩)] w fun e w' => e = .returned (.tuple #[]) ∧ IsS95 w0 w' g r1 r2 r3 ∧ Below w0.heap.size w0 w' ∧ KeepBut w w' g none := by
  have HI0 := Aside0.mk hI
  have HK := Aside0.mk (KeepBut.refl w g none)
  have HL := Aside0.mk hB.size
  clear hI
  have HW0 := Aside0.mk hB.size
  have HB := Aside0.mk hB
  clear hB
  have H : (fill_Reader_refill.l0 k s0_0 s0_1 s0_2) = some (r1, r2, r3) := h
  clear h
  have H' := Aside0.mk H
  clear H
  go_enter Try.func58, Try.ntmps58
  go_wp2
  repeat ((first | go_quiet (fail) | go_region); try go_wp2)
  go_loopg [] k (fun kq w' => ∃ (x1000_1 : List Int) (x1001_1 : Int) (x1002_1 : Int), Aside0 (fill_Reader_refill.l0 kq x1000_1 x1001_1 x1002_1 = some (r1, r2, r3)) ∧ Aside0 (kq ≤ k) ∧ Aside0 (IsS95 w0 w' g x1000_1 x1001_1 x1002_1) ∧ Aside0 (KeepBut w w' g none) ∧ Aside0 (Below w0.heap.size w0 w'))
  case atStart => exact ⟨(s0_0), (s0_1), (s0_2), H', ⟨Nat.le_refl _⟩, ⟨by repeat (first | (with_reducible first | exact HI0.out | apply IsS95.alloc | apply IsS95.drewN | apply IsS95.drew | apply IsS95.set_1 | apply IsS95.set_2) | exact HI0.out)⟩, ⟨by repeat (first | (with_reducible first | exact HK.out | apply KeepBut.set_ | apply keep_drewN | apply keep_drew | apply keep_alloc) | exact HK.out)⟩, ⟨by repeat (first | (with_reducible first | exact HB.out | apply below_alloc | apply pw_below_drewN | apply below_drew1 | refine below_set ?_ (IsS95.ge HI0.out)) | exact HB.out)⟩⟩
  case round =>
    clear H'
    obtain ⟨x1000_1, x1001_1, x1002_1, HA, HK1, HI0, HK, HB⟩ := hrel
    cases gk with
    | zero => exact absurd HA.out (by simp [fill_Reader_refill.l0])
    | succ k1 =>
      have H := HA.out
      clear HA
      simp only [fill_Reader_refill.l0] at H
      by_cases c2 : x1002_1 ≤ 56
      · rw [if_pos c2] at H
        have c2b0 : decide (x1002_1 ≤ 56) = true := decide_eq_true c2
        clear c2
        by_cases c3 : (x1000_1.length : Int) > 0
        · rw [if_pos c3] at H
          have c3b0 : decide (0 < (x1000_1.length : Int)) = true := decide_eq_true c3
          have c3b1 : decide (0 < x1000_1.length) = true := decide_eq_true (by omega)
          clear c3
          by_cases c4 : 0 < (x1000_1.length : Int)
          · rw [if_pos c4] at H
            have c4b0 : decide (0 < (x1000_1.length : Int)) = true := decide_eq_true c4
            have c4b1 : decide (0 < x1000_1.length) = true := decide_eq_true (by omega)
            clear c4
            obtain ⟨ji5, hji5⟩ : ∃ j_ : Int, (wrap64 (56 - x1002_1)) = j_ := ⟨_, rfl⟩
            replace H : (if 0 ≤ (ji5) then (if 1 ≤ (x1000_1.length : Int) then (fill_Reader_refill.l0 k1 (x1000_1.drop 1) (Go.bits .or .u64 x1001_1 (shl .u64 (IntKind.u64.wrap (rd x1000_1 0)) (ji5))) (wrap64 (x1002_1 + 8))) else (none)) else (none)) = some (r1, r2, r3) := by first | (rw [hji5] at H; exact H) | (simp only [hji5] at H ⊢; exact H)
            have hji5w : (IntKind.i64.wrap (56 - x1002_1)) = ji5 := (i64_w _).trans hji5
            by_cases c6 : 0 ≤ (ji5)
            · rw [if_pos c6] at H
              have c6b0 := eq_true c6
              have c6b1 : decide (0 ≤ (ji5)) = true := decide_eq_true c6
              clear c6
              obtain ⟨ji7, hji7⟩ : ∃ j_ : Int, (shl .u64 (IntKind.u64.wrap (rd x1000_1 0)) (ji5)) = j_ := ⟨_, rfl⟩
              replace H : (if 1 ≤ (x1000_1.length : Int) then (fill_Reader_refill.l0 k1 (x1000_1.drop 1) (Go.bits .or .u64 x1001_1 (ji7)) (wrap64 (x1002_1 + 8))) else (none)) = some (r1, r2, r3) := by first | (rw [hji7] at H; exact H) | (simp only [hji7] at H ⊢; exact H)
              have hji7_ : (IntKind.u64.wrap ((IntKind.u64.wrap (rd x1000_1 0)) * 2 ^ min (ji5).toNat 64)) = ji7 := hji7
              have hji7z : (ji5) ≤ 64 → (IntKind.u64.wrap ((IntKind.u64.wrap (rd x1000_1 0)) * 2 ^ (ji5).toNat)) = ji7 := shl_small hji7
              by_cases c8 : 1 ≤ (x1000_1.length : Int)
              · rw [if_pos c8] at H
                have c8b0 := eq_true c8
                have c8b1 : decide (1 ≤ (x1000_1.length : Int)) = true := decide_eq_true c8
                clear c8
                have H' := Aside0.mk H
                clear H
                obtain ⟨ASz9_0, cSz9_0, HGz9, hgz9, HSz9_0, HLSz9_0⟩ := HI0.out
                have hcz9_0 := cellS95_0 HGz9
                have hcz9_1 := cellS95_1 HGz9
                have hcz9_2 := cellS95_2 HGz9
                have hfz9_0 := blk_frozen HGz9 0
                have hfz9_1 := blk_frozen HGz9 1
                have hfz9_2 := blk_frozen HGz9 2
                clear HGz9 hgz9
                have p259 : 0 ≤ (0 : Int) := (by omega)
                have q259 : 0 < (x1000_1.length : Int) := of_decide_eq_true (by first | (with_reducible assumption) | assumption)
                obtain ⟨ad259, e259, hx259_0⟩ := Kd.at_int HSz9_0 0 p259 q259
                cases e259
                have qi259 : (0 < x1000_1.length) = True := eq_true (by omega)
                (try rw [show ((0 : Int)).toNat = 0 from rfl] at hx259_0)
                (try rw [Addr.add_zero'] at hx259_0)
                replace hx259_0 := pw_cell_below HB.out hx259_0
                replace p259 := eq_true p259
                (try (have q259s := q259; simp only [List.length_drop, List.length_take] at q259s; replace q259s := eq_true q259s)); replace q259 := eq_true q259
                obtain ⟨i010, hi010, _, hsz10, _⟩ := info_parts info5
                obtain ⟨A10, hcut10, hA10, hC10⟩ := print_drop_of (P := Try.prog) (Value.int .u8) 0 27 5 .i64 Try.underlying27 hi010 hsz10 (some ad259) cSz9_0 x1000_1 1 (by omega) (of_decide_eq_true (by first | (with_reducible assumption) | assumption)) HLSz9_0
                have HR260 := Aside0.mk (show Kd.C (Kd.int .u8) w0 A10 (x1000_1.drop 1).length (x1000_1.drop 1) from Kd.C_of_reads (h1 := fun _ => rfl) (hA10 _ (Kd.reads_of_C HSz9_0)))
                have HC260 := Aside0.mk (show (x1000_1.drop 1).length ≤ (cSz9_0 - 1) from hC10)
                clear hA10 hC10 hi010 hsz10
                go_wp2
                repeat ((first | go_quiet (fail) | go_region); try go_wp2)
                go_roundg k1
                case measure => have := HK1.out; omega
                case rel => exact ⟨(x1000_1.drop 1), (Go.bits .or .u64 x1001_1 (ji7)), (wrap64 (x1002_1 + 8)), H', ⟨by have := HK1.out; omega⟩, ⟨by repeat (first | (with_reducible first | exact HI0.out | apply IsS95.alloc | apply IsS95.drewN | apply IsS95.drew | apply IsS95.set_1 | apply IsS95.set_2 | apply IsS95.set_0 (hr_ := HR260.out) (hl_ := HC260.out) | exact List.length_drop.symm | (simp only [List.length_drop, List.length_take]; done)) | exact HI0.out)⟩, ⟨by repeat (first | (with_reducible first | exact HK.out | apply KeepBut.set_ | apply keep_drewN | apply keep_drew | apply keep_alloc) | exact HK.out)⟩, ⟨by repeat (first | (with_reducible first | exact HB.out | apply below_alloc | apply pw_below_drewN | apply below_drew1 | refine below_set ?_ (IsS95.ge HI0.out)) | exact HB.out)⟩⟩
              · rw [if_neg c8] at H
                exact absurd H (by simp)
            · rw [if_neg c6] at H
              exact absurd H (by simp)
          · rw [if_neg c4] at H
            exact absurd H (by simp)
        · rw [if_neg c3] at H
          have c3b0 : decide (0 < (x1000_1.length : Int)) = false := decide_eq_false c3
          have c3b1 : decide (0 < x1000_1.length) = false := decide_eq_false (by omega)
          clear c3
          simp only [Option.some.injEq, Prod.mk.injEq] at H
          obtain ⟨rfl, rfl, rfl⟩ := H
          obtain ⟨ASz11_0, cSz11_0, HGz11, hgz11, HSz11_0, HLSz11_0⟩ := HI0.out
          have hcz11_0 := cellS95_0 HGz11
          have hcz11_1 := cellS95_1 HGz11
          have hcz11_2 := cellS95_2 HGz11
          have hfz11_0 := blk_frozen HGz11 0
          have hfz11_1 := blk_frozen HGz11 1
          have hfz11_2 := blk_frozen HGz11 2
          clear HGz11 hgz11
          go_wp2
          repeat ((first | go_quiet (fail) | go_region); try go_wp2)
          first | go_end0 | ((try simp only [Exit.inBlock, Exit.then]); refine bodyPost_ret (results_none rfl _ _ _) rfl ?_)
          exact ⟨by first | rfl | (simp [errW_none, errW_some] <;> rfl) | (simp [*, errW_none, errW_some] <;> rfl), by repeat (first | (with_reducible first | exact HI0.out | apply IsS95.alloc | apply IsS95.drewN | apply IsS95.drew | apply IsS95.set_1 | apply IsS95.set_2) | exact HI0.out), by repeat (first | (with_reducible first | exact HB.out | apply below_alloc | apply pw_below_drewN | apply below_drew1 | refine below_set ?_ (IsS95.ge HI0.out)) | exact HB.out), by repeat (first | (with_reducible first | exact HK.out | apply KeepBut.set_ | apply keep_drewN | apply keep_drew | apply keep_alloc) | exact HK.out)⟩
      · rw [if_neg c2] at H
        have c2b0 : decide (x1002_1 ≤ 56) = false := decide_eq_false c2
        clear c2
        simp only [Option.some.injEq, Prod.mk.injEq] at H
        obtain ⟨rfl, rfl, rfl⟩ := H
        obtain ⟨ASz12_0, cSz12_0, HGz12, hgz12, HSz12_0, HLSz12_0⟩ := HI0.out
        have hcz12_0 := cellS95_0 HGz12
        have hcz12_1 := cellS95_1 HGz12
        have hcz12_2 := cellS95_2 HGz12
        have hfz12_0 := blk_frozen HGz12 0
        have hfz12_1 := blk_frozen HGz12 1
        have hfz12_2 := blk_frozen HGz12 2
        clear HGz12 hgz12
        go_wp2
        repeat ((first | go_quiet (fail) | go_region); try go_wp2)
        first | go_end0 | ((try simp only [Exit.inBlock, Exit.then]); refine bodyPost_ret (results_none rfl _ _ _) rfl ?_)
        exact ⟨by first | rfl | (simp [errW_none, errW_some] <;> rfl) | (simp [*, errW_none, errW_some] <;> rfl), by repeat (first | (with_reducible first | exact HI0.out | apply IsS95.alloc | apply IsS95.drewN | apply IsS95.drew | apply IsS95.set_1 | apply IsS95.set_2) | exact HI0.out), by repeat (first | (with_reducible first | exact HB.out | apply below_alloc | apply pw_below_drewN | apply below_drew1 | refine below_set ?_ (IsS95.ge HI0.out)) | exact HB.out), by repeat (first | (with_reducible first | exact HK.out | apply KeepBut.set_ | apply keep_drewN | apply keep_drew | apply keep_alloc) | exact HK.out)⟩

/-! ### fill_Reader_Peek: function 46 -/
def fill_Reader_Peek.f (k : Nat) (s0_0 : List Int) (s0_1 : Int) (s0_2 : Int) (a1 : Int) : Option (Int × List Int × Int × Int) := if a1 < 1 then (some (0, s0_0, s0_1, s0_2)) else (if a1 > 56 then (some (0, s0_0, s0_1, s0_2)) else ((fill_Reader_refill.f k s0_0 s0_1 s0_2).bind fun bt261 => (if 0 ≤ (wrap64 (64 - a1)) then (some (shr .u64 bt261.2.1 (wrap64 (64 - a1)), bt261.1, bt261.2.1, bt261.2.2)) else (none))))
theorem fill_Reader_Peek.mono : ∀ a0 a1 a2 a3 k, LeO (fill_Reader_Peek.f k a0 a1 a2 a3) (fill_Reader_Peek.f (k + 1) a0 a1 a2 a3) := by
  intro a0 a1 a2 a3 k
  unfold fill_Reader_Peek.f
  repeat' first
      | (with_reducible exact fill_Reader_refill.mono _ _ _ _)
      | (with_reducible exact LeO.refl _)
      | (with_reducible exact LeO.none _)
      | (with_reducible refine LeO.ite ?_ ?_)
      | (with_reducible refine LeO.bind ?_ (fun _ => ?_))
      | exact fill_Reader_refill.mono _ _ _ _
      | exact LeO.none _
      | refine LeO.ite ?_ ?_
      | refine LeO.bind ?_ (fun _ => ?_)
set_option maxHeartbeats 8000000 in
set_option maxRecDepth 100000 in
theorem fill_Reader_Peek.calls (k : Nat) (g : Nat) (s0_0 : List Int) (s0_1 : Int) (s0_2 : Int) (a1 : Int) (r1 : Int) (r2 : List Int) (r3 : Int) (r4 : Int) (w0 w : World) (hI : IsS95 w0 w g s0_0 s0_1 s0_2) (hB : Below w0.heap.size w0 w) (h : fill_Reader_Peek.f k s0_0 s0_1 s0_2 a1 = some (r1, r2, r3, r4)) :
    Calls Try.prog 46 #[.pointer (some ⟨g, 0, none⟩), .int .i64 a1] w fun e w' => e = .returned (.int .u64 r1) ∧ IsS95 w0 w' g r2 r3 r4 ∧ Below w0.heap.size w0 w' ∧ KeepBut w w' g none := by
  have HI0 := Aside0.mk hI
  have HK := Aside0.mk (KeepBut.refl w g none)
  have HL := Aside0.mk hB.size
  clear hI
  have HW0 := Aside0.mk hB.size
  have HB := Aside0.mk hB
  clear hB
  have H : (if a1 < 1 then (some (0, s0_0, s0_1, s0_2)) else (if a1 > 56 then (some (0, s0_0, s0_1, s0_2)) else ((fill_Reader_refill.f k s0_0 s0_1 s0_2).bind fun bt261 => (if 0 ≤ (wrap64 (64 - a1)) then (some (shr .u64 bt261.2.1 (wrap64 (64 - a1)), bt261.1, bt261.2.1, bt261.2.2)) else (none))))) = some (r1, r2, r3, r4) := h
  clear h
  by_cases c3 : a1 < 1
  · rw [if_pos c3] at H
    have c3b0 : decide (a1 < 1) = true := decide_eq_true c3
    clear c3
    simp only [Option.some.injEq, Prod.mk.injEq] at H
    obtain ⟨rfl, rfl, rfl, rfl⟩ := H
    go_enter Try.func46, Try.ntmps46
    go_wp2
    go_ret
    exact ⟨by first | rfl | (simp [errW_none, errW_some] <;> rfl) | (simp [*, errW_none, errW_some] <;> rfl), by repeat (first | (with_reducible first | exact HI0.out | apply IsS95.alloc | apply IsS95.drewN | apply IsS95.drew | apply IsS95.set_1 | apply IsS95.set_2) | exact HI0.out), by repeat (first | (with_reducible first | exact HB.out | apply below_alloc | apply pw_below_drewN | apply below_drew1 | refine below_set ?_ (IsS95.ge HI0.out)) | exact HB.out), by repeat (first | (with_reducible first | exact HK.out | apply KeepBut.set_ | apply keep_drewN | apply keep_drew | apply keep_alloc) | exact HK.out)⟩
  · rw [if_neg c3] at H
    have c3b0 : decide (a1 < 1) = false := decide_eq_false c3
    clear c3
    by_cases c4 : a1 > 56
    · rw [if_pos c4] at H
      have c4b0 : decide (56 < a1) = true := decide_eq_true c4
      clear c4
      simp only [Option.some.injEq, Prod.mk.injEq] at H
      obtain ⟨rfl, rfl, rfl, rfl⟩ := H
      go_enter Try.func46, Try.ntmps46
      go_wp2
      go_ret
      exact ⟨by first | rfl | (simp [errW_none, errW_some] <;> rfl) | (simp [*, errW_none, errW_some] <;> rfl), by repeat (first | (with_reducible first | exact HI0.out | apply IsS95.alloc | apply IsS95.drewN | apply IsS95.drew | apply IsS95.set_1 | apply IsS95.set_2) | exact HI0.out), by repeat (first | (with_reducible first | exact HB.out | apply below_alloc | apply pw_below_drewN | apply below_drew1 | refine below_set ?_ (IsS95.ge HI0.out)) | exact HB.out), by repeat (first | (with_reducible first | exact HK.out | apply KeepBut.set_ | apply keep_drewN | apply keep_drew | apply keep_alloc) | exact HK.out)⟩
    · rw [if_neg c4] at H
      have c4b0 : decide (56 < a1) = false := decide_eq_false c4
      clear c4
      replace H := Option.bind_eq_some_iff.mp H
      obtain ⟨⟨t261, t262, t263⟩, A50, H⟩ := H
      replace H : (if 0 ≤ (wrap64 (64 - a1)) then (some (shr .u64 t262 (wrap64 (64 - a1)), t261, t262, t263)) else (none)) = some (r1, r2, r3, r4) := H
      have A5 := Aside0.mk A50
      clear A50
      obtain ⟨ji6, hji6⟩ : ∃ j_ : Int, (wrap64 (64 - a1)) = j_ := ⟨_, rfl⟩
      replace H : (if 0 ≤ (ji6) then (some (shr .u64 t262 (ji6), t261, t262, t263)) else (none)) = some (r1, r2, r3, r4) := by first | (rw [hji6] at H; exact H) | (simp only [hji6] at H ⊢; exact H)
      (try rw [hji6] at A5)
      have hji6w : (IntKind.i64.wrap (64 - a1)) = ji6 := (i64_w _).trans hji6
      by_cases c7 : 0 ≤ (ji6)
      · rw [if_pos c7] at H
        have c7b0 := eq_true c7
        have c7b1 : decide (0 ≤ (ji6)) = true := decide_eq_true c7
        clear c7
        obtain ⟨ji8, hji8⟩ : ∃ j_ : Int, (shr .u64 t262 (ji6)) = j_ := ⟨_, rfl⟩
        replace H : (some (ji8, t261, t262, t263)) = some (r1, r2, r3, r4) := by first | (rw [hji8] at H; exact H) | (simp only [hji8] at H ⊢; exact H)
        (try rw [hji8] at A5)
        have hji8_ : (t262 / 2 ^ min (ji6).toNat 64) = ji8 := hji8
        have hji8z : (ji6) ≤ 64 → (t262 / 2 ^ (ji6).toNat) = ji8 := shr_small hji8
        simp only [Option.some.injEq, Prod.mk.injEq] at H
        obtain ⟨rfl, rfl, rfl, rfl⟩ := H
        go_enter Try.func46, Try.ntmps46
        go_wp2_with (first | ((with_reducible refine gate_callee (f := 58) rfl ?_); refine goesL_ (some 12) rfl rfl Try.func58 (by kernel_rfl) rfl #[.pointer (some ⟨g, 0, none⟩)] rfl (by (try simp only [List.map_toArray, List.map_cons, List.map_nil]); first | done | rfl | (simp only [List.length_drop, List.length_take]; rfl)) ?_; (with_reducible refine (fill_Reader_refill.calls k g s0_0 s0_1 s0_2 t261 t262 t263 w0 _ ?side1 ?side2 A5.out).mono ?_); (case side1 => repeat (first | (with_reducible first | exact HI0.out | apply IsS95.alloc | apply IsS95.drewN | apply IsS95.drew | apply IsS95.set_1 | apply IsS95.set_2) | exact HI0.out)); (case side2 => repeat (first | (with_reducible first | exact HB.out | apply below_alloc | apply pw_below_drewN | apply below_drew1 | refine below_set ?_ (IsS95.ge HI0.out)) | exact HB.out)); rintro e w9 ⟨rfl, hi, hb, hk⟩; refine ⟨_, rfl, ?_⟩; have n0_ := Aside0.mk (KeepBut.trans (by repeat (first | (with_reducible first | exact HK.out | apply KeepBut.set_ | apply keep_drewN | apply keep_drew | apply keep_alloc) | exact HK.out)) hk (.inl rfl)); have n1_ := Aside0.mk (hb); have n2_ := Aside0.mk (hi); clear HK; clear HB; clear HI0; have HK := n0_; have HB := n1_; have HI0 := n2_; clear n0_ n1_ n2_; (try clear hb); (try clear hb2); (try clear hk); (try clear hi); obtain ⟨ASz10_0, cSz10_0, HGz10, hgz10, HSz10_0, HLSz10_0⟩ := HI0.out; have hcz10_0 := cellS95_0 HGz10; have hcz10_1 := cellS95_1 HGz10; have hcz10_2 := cellS95_2 HGz10; have hfz10_0 := blk_frozen HGz10 0; have hfz10_1 := blk_frozen HGz10 1; have hfz10_2 := blk_frozen HGz10 2; clear HGz10 hgz10))
        go_ret
        exact ⟨by first | rfl | (simp [errW_none, errW_some] <;> rfl) | (simp only [← hji6, ← hji8]; first | rfl | (simp [errW_none, errW_some] <;> rfl)) | (simp [*, errW_none, errW_some] <;> rfl), by repeat (first | (with_reducible first | exact HI0.out | apply IsS95.alloc | apply IsS95.drewN | apply IsS95.drew | apply IsS95.set_1 | apply IsS95.set_2) | exact HI0.out), by repeat (first | (with_reducible first | exact HB.out | apply below_alloc | apply pw_below_drewN | apply below_drew1 | refine below_set ?_ (IsS95.ge HI0.out)) | exact HB.out), by repeat (first | (with_reducible first | exact HK.out | apply KeepBut.set_ | apply keep_drewN | apply keep_drew | apply keep_alloc) | exact HK.out)⟩
      · rw [if_neg c7] at H
        exact absurd H (by simp)

/-! ### fill_Reader_Left: function 49 -/
def fill_Reader_Left.f (s0_0 : List Int) (s0_1 : Int) (s0_2 : Int) : Option (Int × List Int × Int × Int) := some (wrap64 (s0_2 + (wrap64 (8 * (s0_0.length : Int)))), s0_0, s0_1, s0_2)
set_option maxHeartbeats 8000000 in
set_option maxRecDepth 100000 in
theorem fill_Reader_Left.calls (g : Nat) (s0_0 : List Int) (s0_1 : Int) (s0_2 : Int) (r1 : Int) (r2 : List Int) (r3 : Int) (r4 : Int) (w0 w : World) (hI : IsS95 w0 w g s0_0 s0_1 s0_2) (hB : Below w0.heap.size w0 w) (h : fill_Reader_Left.f s0_0 s0_1 s0_2 = some (r1, r2, r3, r4)) :
    Calls Try.prog 49 #[.pointer (some ⟨g, 0, none⟩)] w fun e w' => e = .returned (.int .i64 r1) ∧ IsS95 w0 w' g r2 r3 r4 ∧ Below w0.heap.size w0 w' ∧ KeepBut w w' g none := by
  have HI0 := Aside0.mk hI
  have HK := Aside0.mk (KeepBut.refl w g none)
  have HL := Aside0.mk hB.size
  clear hI
  have HW0 := Aside0.mk hB.size
  have HB := Aside0.mk hB
  clear hB
  have H : (some (wrap64 (s0_2 + (wrap64 (8 * (s0_0.length : Int)))), s0_0, s0_1, s0_2)) = some (r1, r2, r3, r4) := h
  clear h
  simp only [Option.some.injEq, Prod.mk.injEq] at H
  obtain ⟨rfl, rfl, rfl, rfl⟩ := H
  obtain ⟨ASz2_0, cSz2_0, HGz2, hgz2, HSz2_0, HLSz2_0⟩ := HI0.out
  have hcz2_0 := cellS95_0 HGz2
  have hcz2_1 := cellS95_1 HGz2
  have hcz2_2 := cellS95_2 HGz2
  have hfz2_0 := blk_frozen HGz2 0
  have hfz2_1 := blk_frozen HGz2 1
  have hfz2_2 := blk_frozen HGz2 2
  clear HGz2 hgz2
  go_enter Try.func49, Try.ntmps49
  go_wp2
  repeat ((first | go_quiet (fail) | go_region); try go_wp2)
  go_ret
  exact ⟨by first | rfl | (simp [errW_none, errW_some] <;> rfl) | (simp [*, errW_none, errW_some] <;> rfl), by repeat (first | (with_reducible first | exact HI0.out | apply IsS95.alloc | apply IsS95.drewN | apply IsS95.drew | apply IsS95.set_1 | apply IsS95.set_2) | exact HI0.out), by repeat (first | (with_reducible first | exact HB.out | apply below_alloc | apply pw_below_drewN | apply below_drew1 | refine below_set ?_ (IsS95.ge HI0.out)) | exact HB.out), by repeat (first | (with_reducible first | exact HK.out | apply KeepBut.set_ | apply keep_drewN | apply keep_drew | apply keep_alloc) | exact HK.out)⟩

/-! ### fill_Reader_drop: function 59 -/
def fill_Reader_drop.f (s0_0 : List Int) (s0_1 : Int) (s0_2 : Int) (a1 : Int) : Option (List Int × Int × Int) := if 0 ≤ a1 then (some (s0_0, shl .u64 s0_1 a1, wrap64 (s0_2 - a1))) else (none)
set_option maxHeartbeats 8000000 in
set_option maxRecDepth 100000 in
theorem fill_Reader_drop.calls (g : Nat) (s0_0 : List Int) (s0_1 : Int) (s0_2 : Int) (a1 : Int) (r1 : List Int) (r2 : Int) (r3 : Int) (w0 w : World) (hI : IsS95 w0 w g s0_0 s0_1 s0_2) (hB : Below w0.heap.size w0 w) (h : fill_Reader_drop.f s0_0 s0_1 s0_2 a1 = some (r1, r2, r3)) :
    Calls Try.prog 59 #[.pointer (some ⟨g, 0, none⟩), .int .i64 a1] w fun e w' => e = .returned (.tuple #[]) ∧ IsS95 w0 w' g r1 r2 r3 ∧ Below w0.heap.size w0 w' ∧ KeepBut w w' g none := by
  have HI0 := Aside0.mk hI
  have HK := Aside0.mk (KeepBut.refl w g none)
  have HL := Aside0.mk hB.size
  clear hI
  have HW0 := Aside0.mk hB.size
  have HB := Aside0.mk hB
  clear hB
  have H : (if 0 ≤ a1 then (some (s0_0, shl .u64 s0_1 a1, wrap64 (s0_2 - a1))) else (none)) = some (r1, r2, r3) := h
  clear h
  by_cases c3 : 0 ≤ a1
  · rw [if_pos c3] at H
    have c3b0 := eq_true c3
    have c3b1 : decide (0 ≤ a1) = true := decide_eq_true c3
    clear c3
    obtain ⟨ji4, hji4⟩ : ∃ j_ : Int, (shl .u64 s0_1 a1) = j_ := ⟨_, rfl⟩
    replace H : (some (s0_0, ji4, wrap64 (s0_2 - a1))) = some (r1, r2, r3) := by first | (rw [hji4] at H; exact H) | (simp only [hji4] at H ⊢; exact H)
    have hji4_ : (IntKind.u64.wrap (s0_1 * 2 ^ min a1.toNat 64)) = ji4 := hji4
    have hji4z : a1 ≤ 64 → (IntKind.u64.wrap (s0_1 * 2 ^ a1.toNat)) = ji4 := shl_small hji4
    simp only [Option.some.injEq, Prod.mk.injEq] at H
    obtain ⟨rfl, rfl, rfl⟩ := H
    obtain ⟨ASz5_0, cSz5_0, HGz5, hgz5, HSz5_0, HLSz5_0⟩ := HI0.out
    have hcz5_0 := cellS95_0 HGz5
    have hcz5_1 := cellS95_1 HGz5
    have hcz5_2 := cellS95_2 HGz5
    have hfz5_0 := blk_frozen HGz5 0
    have hfz5_1 := blk_frozen HGz5 1
    have hfz5_2 := blk_frozen HGz5 2
    clear HGz5 hgz5
    go_enter Try.func59, Try.ntmps59
    go_wp2
    first | go_end0 | ((try simp only [Exit.inBlock, Exit.then]); refine bodyPost_ret (results_none rfl _ _ _) rfl ?_)
    exact ⟨by first | rfl | (simp [errW_none, errW_some] <;> rfl) | (simp only [← hji4]; first | rfl | (simp [errW_none, errW_some] <;> rfl)) | (simp [*, errW_none, errW_some] <;> rfl), by repeat (first | (with_reducible first | exact HI0.out | apply IsS95.alloc | apply IsS95.drewN | apply IsS95.drew | apply IsS95.set_1 | apply IsS95.set_2) | exact HI0.out), by repeat (first | (with_reducible first | exact HB.out | apply below_alloc | apply pw_below_drewN | apply below_drew1 | refine below_set ?_ (IsS95.ge HI0.out)) | exact HB.out), by repeat (first | (with_reducible first | exact HK.out | apply KeepBut.set_ | apply keep_drewN | apply keep_drew | apply keep_alloc) | exact HK.out)⟩
  · rw [if_neg c3] at H
    exact absurd H (by simp)

/-! ### fill_Reader_Skip: function 47 -/
def fill_Reader_Skip.j0 : Nat → Int → Bool → List Int → Int → Int → Option (Bool × List Int × Int × Int)
  | 0, _, _, _, _, _ => none
  | k + 1, x1, x12, x1000, x1001, x1002 => if x12 = true then (some (false, x1000, x1001, x1002)) else (if x1 > x1002 then ((fill_Reader_drop.f x1000 x1001 x1002 x1002).bind fun bt268 => (if 0 ≤ (wrap64 (Int.tdiv (wrap64 (x1 - x1002)) 8)) then (if (wrap64 (Int.tdiv (wrap64 (x1 - x1002)) 8)) ≤ (bt268.1.length : Int) then ((fill_Reader_refill.f k (bt268.1.drop ((wrap64 (Int.tdiv (wrap64 (x1 - x1002)) 8)) : Int).toNat) bt268.2.1 bt268.2.2).bind fun bt272 => ((fill_Reader_drop.f bt272.1 bt272.2.1 bt272.2.2 (Int.tmod (wrap64 (x1 - x1002)) 8)).bind fun bt275 => (some (true, bt275.1, bt275.2.1, bt275.2.2)))) else (none)) else (none))) else ((fill_Reader_drop.f x1000 x1001 x1002 x1).bind fun bt278 => (some (true, bt278.1, bt278.2.1, bt278.2.2))))
def fill_Reader_Skip.f (k : Nat) (s0_0 : List Int) (s0_1 : Int) (s0_2 : Int) (a1 : Int) : Option (Bool × List Int × Int × Int) := if a1 < 0 then (fill_Reader_Skip.j0 k a1 true s0_0 s0_1 s0_2) else ((fill_Reader_Left.f s0_0 s0_1 s0_2).bind fun bt264 => (fill_Reader_Skip.j0 k a1 (decide (a1 > bt264.1)) bt264.2.1 bt264.2.2.1 bt264.2.2.2))
theorem fill_Reader_Skip.mono_l : ∀ k, (∀ y0 y1 y2 y3 y4, LeO (fill_Reader_Skip.j0 k y0 y1 y2 y3 y4) (fill_Reader_Skip.j0 (k + 1) y0 y1 y2 y3 y4))
  | 0 => fun _ _ _ _ _ r h => by simp [fill_Reader_Skip.j0] at h
  | k + 1 => by
    have ih0 := fill_Reader_Skip.mono_l k
    · intro y0 y1 y2 y3 y4
      unfold fill_Reader_Skip.j0
      repeat' first
      | (with_reducible exact ih0 _ _ _ _ _)
      | (with_reducible exact fill_Reader_refill.mono _ _ _ _)
      | (with_reducible exact LeO.refl _)
      | (with_reducible exact LeO.none _)
      | (with_reducible refine LeO.ite ?_ ?_)
      | (with_reducible refine LeO.bind ?_ (fun _ => ?_))
      | exact ih0 _ _ _ _ _
      | exact fill_Reader_refill.mono _ _ _ _
      | exact LeO.none _
      | refine LeO.ite ?_ ?_
      | refine LeO.bind ?_ (fun _ => ?_)
theorem fill_Reader_Skip.mono : ∀ a0 a1 a2 a3 k, LeO (fill_Reader_Skip.f k a0 a1 a2 a3) (fill_Reader_Skip.f (k + 1) a0 a1 a2 a3) := by
  intro a0 a1 a2 a3 k
  have ih0 := fill_Reader_Skip.mono_l k
  unfold fill_Reader_Skip.f
  repeat' first
      | (with_reducible exact ih0 _ _ _ _ _)
      | (with_reducible exact fill_Reader_refill.mono _ _ _ _)
      | (with_reducible exact LeO.refl _)
      | (with_reducible exact LeO.none _)
      | (with_reducible refine LeO.ite ?_ ?_)
      | (with_reducible refine LeO.bind ?_ (fun _ => ?_))
      | exact ih0 _ _ _ _ _
      | exact fill_Reader_refill.mono _ _ _ _
      | exact LeO.none _
      | refine LeO.ite ?_ ?_
      | refine LeO.bind ?_ (fun _ => ?_)
set_option maxHeartbeats 8000000 in
set_option maxRecDepth 100000 in
theorem fill_Reader_Skip.calls (k : Nat) (g : Nat) (s0_0 : List Int) (s0_1 : Int) (s0_2 : Int) (a1 : Int) (r1 : Bool) (r2 : List Int) (r3 : Int) (r4 : Int) (w0 w : World) (hI : IsS95 w0 w g s0_0 s0_1 s0_2) (hB : Below w0.heap.size w0 w) (h : fill_Reader_Skip.f k s0_0 s0_1 s0_2 a1 = some (r1, r2, r3, r4)) :
    Calls Try.prog 47 #[.pointer (some ⟨g, 0, none⟩), .int .i64 a1] w fun e w' => e = .returned (.bool r1) ∧ IsS95 w0 w' g r2 r3 r4 ∧ Below w0.heap.size w0 w' ∧ KeepBut w w' g none := by
  have HI0 := Aside0.mk hI
  have HK := Aside0.mk (KeepBut.refl w g none)
  have HL := Aside0.mk hB.size
  clear hI
  have HW0 := Aside0.mk hB.size
  have HB := Aside0.mk hB
  clear hB
  have H : (if a1 < 0 then (fill_Reader_Skip.j0 k a1 true s0_0 s0_1 s0_2) else ((fill_Reader_Left.f s0_0 s0_1 s0_2).bind fun bt264 => (fill_Reader_Skip.j0 k a1 (decide (a1 > bt264.1)) bt264.2.1 bt264.2.2.1 bt264.2.2.2))) = some (r1, r2, r3, r4) := h
  clear h
  have HC3 := Aside0.mk H
  clear H
  go_enter Try.func47, Try.ntmps47
  go_upto_region 1 with (fail)
  go_cut [12] (fun v12 wc => ∃ (kq : Nat) (x12_2 : Bool) (x1000_2 : List Int) (x1001_2 : Int) (x1002_2 : Int), v12 = .bool x12_2 ∧ Aside0 (fill_Reader_Skip.j0 kq a1 x12_2 x1000_2 x1001_2 x1002_2 = some (r1, r2, r3, r4)) ∧ Aside0 (kq ≤ k) ∧ Aside0 (IsS95 w0 wc g x1000_2 x1001_2 x1002_2) ∧ Aside0 (KeepBut w wc g none) ∧ Aside0 (Below w0.heap.size w0 wc))
  case first =>
    have H := HC3.out
    clear HC3
    by_cases c4 : a1 < 0
    · rw [if_pos c4] at H
      have c4b0 : decide (a1 < 0) = true := decide_eq_true c4
      clear c4
      (first | rw [c4b0] | (simp only [i64_w, i32_w]; rw [c4b0]) | skip)
      have H' := Aside0.mk H
      clear H
      go_wp2
      go_meet
      case rel => exact ⟨_, (true), (s0_0), (s0_1), (s0_2), (by first | rfl | (simp; done) | (simp [*]; done)), H', ⟨by first | omega | exact Nat.le_refl _⟩, ⟨by repeat (first | (with_reducible first | exact HI0.out | apply IsS95.alloc | apply IsS95.drewN | apply IsS95.drew | apply IsS95.set_1 | apply IsS95.set_2) | exact HI0.out)⟩, ⟨by repeat (first | (with_reducible first | exact HK.out | apply KeepBut.set_ | apply keep_drewN | apply keep_drew | apply keep_alloc) | exact HK.out)⟩, ⟨by repeat (first | (with_reducible first | exact HB.out | apply below_alloc | apply pw_below_drewN | apply below_drew1 | refine below_set ?_ (IsS95.ge HI0.out)) | exact HB.out)⟩⟩
    · rw [if_neg c4] at H
      have c4b0 : decide (a1 < 0) = false := decide_eq_false c4
      clear c4
      (first | rw [c4b0] | (simp only [i64_w, i32_w]; rw [c4b0]) | skip)
      replace H := Option.bind_eq_some_iff.mp H
      obtain ⟨⟨t264, t265, t266, t267⟩, A50, H⟩ := H
      replace H : (fill_Reader_Skip.j0 k a1 (decide (a1 > t264)) t265 t266 t267) = some (r1, r2, r3, r4) := H
      have A5 := Aside0.mk A50
      clear A50
      have H' := Aside0.mk H
      clear H
      go_wp2_with (first | (go_at_call 49; (with_reducible refine (fill_Reader_Left.calls g s0_0 s0_1 s0_2 t264 t265 t266 t267 w0 _ ?side1 ?side2 A5.out).mono ?_); (case side1 => repeat (first | (with_reducible first | exact HI0.out | apply IsS95.alloc | apply IsS95.drewN | apply IsS95.drew | apply IsS95.set_1 | apply IsS95.set_2) | exact HI0.out)); (case side2 => repeat (first | (with_reducible first | exact HB.out | apply below_alloc | apply pw_below_drewN | apply below_drew1 | refine below_set ?_ (IsS95.ge HI0.out)) | exact HB.out)); rintro e w6 ⟨rfl, hi, hb, hk⟩; have n0_ := Aside0.mk (KeepBut.trans (by repeat (first | (with_reducible first | exact HK.out | apply KeepBut.set_ | apply keep_drewN | apply keep_drew | apply keep_alloc) | exact HK.out)) hk (.inl rfl)); have n1_ := Aside0.mk (hb); have n2_ := Aside0.mk (hi); clear HK; clear HB; clear HI0; have HK := n0_; have HB := n1_; have HI0 := n2_; clear n0_ n1_ n2_; (try clear hb); (try clear hb2); (try clear hk); (try clear hi)))
      go_meet
      case rel => exact ⟨_, (decide (a1 > t264)), (t265), (t266), (t267), (by first | rfl | (simp; done) | (simp [*]; done)), H', ⟨by first | omega | exact Nat.le_refl _⟩, ⟨by repeat (first | (with_reducible first | exact HI0.out | apply IsS95.alloc | apply IsS95.drewN | apply IsS95.drew | apply IsS95.set_1 | apply IsS95.set_2) | exact HI0.out)⟩, ⟨by repeat (first | (with_reducible first | exact HK.out | apply KeepBut.set_ | apply keep_drewN | apply keep_drew | apply keep_alloc) | exact HK.out)⟩, ⟨by repeat (first | (with_reducible first | exact HB.out | apply below_alloc | apply pw_below_drewN | apply below_drew1 | refine below_set ?_ (IsS95.ge HI0.out)) | exact HB.out)⟩⟩
  case rest =>
    clear HC3
    try clear p2
    try clear c4
    try clear c4b0
    obtain ⟨kq, x12_2, x1000_2, x1001_2, x1002_2, rfl, HA, HJ2, HI0, HK, HB⟩ := hcut
    cases kq with
    | zero => exact absurd HA.out (by simp [fill_Reader_Skip.j0])
    | succ kj2 =>
      have H := HA.out
      clear HA
      simp only [fill_Reader_Skip.j0] at H
      by_cases c7 : x12_2 = true
      · subst c7
        have H1 : (some (false, x1000_2, x1001_2, x1002_2)) = some (r1, r2, r3, r4) := by rw [if_pos rfl] at H; exact H
        clear H
        have H := H1
        clear H1
        simp only [Option.some.injEq, Prod.mk.injEq] at H
        obtain ⟨rfl, rfl, rfl, rfl⟩ := H
        go_wp2
        go_ret
        exact ⟨by first | rfl | (simp [errW_none, errW_some] <;> rfl) | (simp [*, errW_none, errW_some] <;> rfl), by repeat (first | (with_reducible first | exact HI0.out | apply IsS95.alloc | apply IsS95.drewN | apply IsS95.drew | apply IsS95.set_1 | apply IsS95.set_2) | exact HI0.out), by repeat (first | (with_reducible first | exact HB.out | apply below_alloc | apply pw_below_drewN | apply below_drew1 | refine below_set ?_ (IsS95.ge HI0.out)) | exact HB.out), by repeat (first | (with_reducible first | exact HK.out | apply KeepBut.set_ | apply keep_drewN | apply keep_drew | apply keep_alloc) | exact HK.out)⟩
      · replace c7 := Bool.eq_false_iff.mpr c7
        subst c7
        have H1 : (if a1 > x1002_2 then ((fill_Reader_drop.f x1000_2 x1001_2 x1002_2 x1002_2).bind fun bt268 => (if 0 ≤ (wrap64 (Int.tdiv (wrap64 (a1 - x1002_2)) 8)) then (if (wrap64 (Int.tdiv (wrap64 (a1 - x1002_2)) 8)) ≤ (bt268.1.length : Int) then ((fill_Reader_refill.f kj2 (bt268.1.drop ((wrap64 (Int.tdiv (wrap64 (a1 - x1002_2)) 8)) : Int).toNat) bt268.2.1 bt268.2.2).bind fun bt272 => ((fill_Reader_drop.f bt272.1 bt272.2.1 bt272.2.2 (Int.tmod (wrap64 (a1 - x1002_2)) 8)).bind fun bt275 => (some (true, bt275.1, bt275.2.1, bt275.2.2)))) else (none)) else (none))) else ((fill_Reader_drop.f x1000_2 x1001_2 x1002_2 a1).bind fun bt278 => (some (true, bt278.1, bt278.2.1, bt278.2.2)))) = some (r1, r2, r3, r4) := by rw [if_neg (show ¬ (false = true) by decide)] at H; exact H
        clear H
        have H := H1
        clear H1
        by_cases c8 : a1 > x1002_2
        · rw [if_pos c8] at H
          have c8b0 : decide (x1002_2 < a1) = true := decide_eq_true c8
          clear c8
          replace H := Option.bind_eq_some_iff.mp H
          obtain ⟨⟨t268, t269, t270⟩, A90, H⟩ := H
          replace H : (if 0 ≤ (wrap64 (Int.tdiv (wrap64 (a1 - x1002_2)) 8)) then (if (wrap64 (Int.tdiv (wrap64 (a1 - x1002_2)) 8)) ≤ (t268.length : Int) then ((fill_Reader_refill.f kj2 (t268.drop ((wrap64 (Int.tdiv (wrap64 (a1 - x1002_2)) 8)) : Int).toNat) t269 t270).bind fun bt272 => ((fill_Reader_drop.f bt272.1 bt272.2.1 bt272.2.2 (Int.tmod (wrap64 (a1 - x1002_2)) 8)).bind fun bt275 => (some (true, bt275.1, bt275.2.1, bt275.2.2)))) else (none)) else (none)) = some (r1, r2, r3, r4) := H
          have A9 := Aside0.mk A90
          clear A90
          obtain ⟨ji10, hji10⟩ : ∃ j_ : Int, (wrap64 (Int.tdiv (wrap64 (a1 - x1002_2)) 8)) = j_ := ⟨_, rfl⟩
          replace H : (if 0 ≤ (ji10) then (if (ji10) ≤ (t268.length : Int) then ((fill_Reader_refill.f kj2 (t268.drop ((ji10) : Int).toNat) t269 t270).bind fun bt272 => ((fill_Reader_drop.f bt272.1 bt272.2.1 bt272.2.2 (Int.tmod (wrap64 (a1 - x1002_2)) 8)).bind fun bt275 => (some (true, bt275.1, bt275.2.1, bt275.2.2)))) else (none)) else (none)) = some (r1, r2, r3, r4) := by first | (rw [hji10] at H; exact H) | (simp only [hji10] at H ⊢; exact H)
          (try rw [hji10] at A9)
          have hji10w : (IntKind.i64.wrap (Int.tdiv (wrap64 (a1 - x1002_2)) 8)) = ji10 := (i64_w _).trans hji10
          by_cases c11 : 0 ≤ (ji10)
          · rw [if_pos c11] at H
            have c11b0 := eq_true c11
            have c11b1 : decide (0 ≤ (ji10)) = true := decide_eq_true c11
            clear c11
            by_cases c12 : (ji10) ≤ (t268.length : Int)
            · rw [if_pos c12] at H
              have c12b0 := eq_true c12
              have c12b1 : decide ((ji10) ≤ (t268.length : Int)) = true := decide_eq_true c12
              clear c12
              replace H := Option.bind_eq_some_iff.mp H
              obtain ⟨⟨t272, t273, t274⟩, A130, H⟩ := H
              replace H : ((fill_Reader_drop.f t272 t273 t274 (Int.tmod (wrap64 (a1 - x1002_2)) 8)).bind fun bt275 => (some (true, bt275.1, bt275.2.1, bt275.2.2))) = some (r1, r2, r3, r4) := H
              have A13 := Aside0.mk A130
              clear A130
              replace H := Option.bind_eq_some_iff.mp H
              obtain ⟨⟨t275, t276, t277⟩, A140, H⟩ := H
              replace H : (some (true, t275, t276, t277)) = some (r1, r2, r3, r4) := H
              have A14 := Aside0.mk A140
              clear A140
              simp only [Option.some.injEq, Prod.mk.injEq] at H
              obtain ⟨rfl, rfl, rfl, rfl⟩ := H
              obtain ⟨ASz15_0, cSz15_0, HGz15, hgz15, HSz15_0, HLSz15_0⟩ := HI0.out
              have hcz15_0 := cellS95_0 HGz15
              have hcz15_1 := cellS95_1 HGz15
              have hcz15_2 := cellS95_2 HGz15
              have hfz15_0 := blk_frozen HGz15 0
              have hfz15_1 := blk_frozen HGz15 1
              have hfz15_2 := blk_frozen HGz15 2
              clear HGz15 hgz15
              go_wp2_with (first | ((with_reducible refine gate_callee (f := 59) rfl ?_); refine goesL_ (some 30) rfl rfl Try.func59 (by kernel_rfl) rfl #[.pointer (some ⟨g, 0, none⟩), .int .i64 x1002_2] rfl (by (try simp only [List.map_toArray, List.map_cons, List.map_nil]); first | done | rfl | (simp only [List.length_drop, List.length_take]; rfl)) ?_; (with_reducible refine (fill_Reader_drop.calls g x1000_2 x1001_2 x1002_2 x1002_2 t268 t269 t270 w0 _ ?side1 ?side2 A9.out).mono ?_); (case side1 => repeat (first | (with_reducible first | exact HI0.out | apply IsS95.alloc | apply IsS95.drewN | apply IsS95.drew | apply IsS95.set_1 | apply IsS95.set_2) | exact HI0.out)); (case side2 => repeat (first | (with_reducible first | exact HB.out | apply below_alloc | apply pw_below_drewN | apply below_drew1 | refine below_set ?_ (IsS95.ge HI0.out)) | exact HB.out)); rintro e w16 ⟨rfl, hi, hb, hk⟩; refine ⟨_, rfl, ?_⟩; have n0_ := Aside0.mk (KeepBut.trans (by repeat (first | (with_reducible first | exact HK.out | apply KeepBut.set_ | apply keep_drewN | apply keep_drew | apply keep_alloc) | exact HK.out)) hk (.inl rfl)); have n1_ := Aside0.mk (hb); have n2_ := Aside0.mk (hi); clear HK; clear HB; clear HI0; have HK := n0_; have HB := n1_; have HI0 := n2_; clear n0_ n1_ n2_; (try clear hb); (try clear hb2); (try clear hk); (try clear hi); obtain ⟨ASz17_0, cSz17_0, HGz17, hgz17, HSz17_0, HLSz17_0⟩ := HI0.out; have hcz17_0 := cellS95_0 HGz17; have hcz17_1 := cellS95_1 HGz17; have hcz17_2 := cellS95_2 HGz17; have hfz17_0 := blk_frozen HGz17 0; have hfz17_1 := blk_frozen HGz17 1; have hfz17_2 := blk_frozen HGz17 2; clear HGz17 hgz17; obtain ⟨i018, hi018, _, hsz18, _⟩ := info_parts info5; obtain ⟨A18, hcut18, hA18, hC18⟩ := print_drop_of (P := Try.prog) (Value.int .u8) 0 27 5 .i64 Try.underlying27 hi018 hsz18 ASz17_0 cSz17_0 t268 (ji10) (of_decide_eq_true (by first | (with_reducible assumption) | assumption)) (of_decide_eq_true (by first | (with_reducible assumption) | assumption)) HLSz17_0; have HR271 := Aside0.mk (show Kd.C (Kd.int .u8) w0 A18 (t268.drop ((ji10) : Int).toNat).length (t268.drop ((ji10) : Int).toNat) from Kd.C_of_reads (h1 := fun _ => rfl) (hA18 _ (Kd.reads_of_C HSz17_0))); have HC271 := Aside0.mk (show (t268.drop ((ji10) : Int).toNat).length ≤ (cSz17_0 - (ji10).toNat) from hC18); clear hA18 hC18 hi018 hsz18) | ((with_reducible refine gate_callee (f := 58) rfl ?_); refine goesL_ (some 44) rfl rfl Try.func58 (by kernel_rfl) rfl #[.pointer (some ⟨g, 0, none⟩)] rfl (by (try simp only [List.map_toArray, List.map_cons, List.map_nil]); first | done | rfl | (simp only [List.length_drop, List.length_take]; rfl)) ?_; (with_reducible refine (fill_Reader_refill.calls kj2 g (t268.drop ((ji10) : Int).toNat) t269 t270 t272 t273 t274 w0 _ ?side1 ?side2 A13.out).mono ?_); (case side1 => repeat (first | (with_reducible first | exact HI0.out | apply IsS95.alloc | apply IsS95.drewN | apply IsS95.drew | apply IsS95.set_1 | apply IsS95.set_2 | apply IsS95.set_0 (hr_ := HR271.out) (hl_ := HC271.out) | exact List.length_drop.symm | (simp only [List.length_drop, List.length_take]; done)) | exact HI0.out)); (case side2 => repeat (first | (with_reducible first | exact HB.out | apply below_alloc | apply pw_below_drewN | apply below_drew1 | refine below_set ?_ (IsS95.ge HI0.out)) | exact HB.out)); rintro e w19 ⟨rfl, hi, hb, hk⟩; refine ⟨_, rfl, ?_⟩; have n0_ := Aside0.mk (KeepBut.trans (by repeat (first | (with_reducible first | exact HK.out | apply KeepBut.set_ | apply keep_drewN | apply keep_drew | apply keep_alloc) | exact HK.out)) hk (.inl rfl)); have n1_ := Aside0.mk (hb); have n2_ := Aside0.mk (hi); clear HK; clear HB; clear HI0; have HK := n0_; have HB := n1_; have HI0 := n2_; clear n0_ n1_ n2_; (try clear hb); (try clear hb2); (try clear hk); (try clear hi)) | ((with_reducible refine gate_callee (f := 59) rfl ?_); refine goesL_ (some 47) rfl rfl Try.func59 (by kernel_rfl) rfl #[.pointer (some ⟨g, 0, none⟩), .int .i64 (Int.tmod (wrap64 (a1 - x1002_2)) 8)] rfl (by (try simp only [List.map_toArray, List.map_cons, List.map_nil]); first | done | rfl | (simp only [List.length_drop, List.length_take]; rfl)) ?_; (with_reducible refine (fill_Reader_drop.calls g t272 t273 t274 (Int.tmod (wrap64 (a1 - x1002_2)) 8) t275 t276 t277 w0 _ ?side1 ?side2 A14.out).mono ?_); (case side1 => repeat (first | (with_reducible first | exact HI0.out | apply IsS95.alloc | apply IsS95.drewN | apply IsS95.drew | apply IsS95.set_1 | apply IsS95.set_2) | exact HI0.out)); (case side2 => repeat (first | (with_reducible first | exact HB.out | apply below_alloc | apply pw_below_drewN | apply below_drew1 | refine below_set ?_ (IsS95.ge HI0.out)) | exact HB.out)); rintro e w20 ⟨rfl, hi, hb, hk⟩; refine ⟨_, rfl, ?_⟩; have n0_ := Aside0.mk (KeepBut.trans (by repeat (first | (with_reducible first | exact HK.out | apply KeepBut.set_ | apply keep_drewN | apply keep_drew | apply keep_alloc) | exact HK.out)) hk (.inl rfl)); have n1_ := Aside0.mk (hb); have n2_ := Aside0.mk (hi); clear HK; clear HB; clear HI0; have HK := n0_; have HB := n1_; have HI0 := n2_; clear n0_ n1_ n2_; (try clear hb); (try clear hb2); (try clear hk); (try clear hi)))
              go_ret
              exact ⟨by first | rfl | (simp [errW_none, errW_some] <;> rfl) | (simp only [← hji10]; first | rfl | (simp [errW_none, errW_some] <;> rfl)) | (simp [*, errW_none, errW_some] <;> rfl), by repeat (first | (with_reducible first | exact HI0.out | apply IsS95.alloc | apply IsS95.drewN | apply IsS95.drew | apply IsS95.set_1 | apply IsS95.set_2) | exact HI0.out), by repeat (first | (with_reducible first | exact HB.out | apply below_alloc | apply pw_below_drewN | apply below_drew1 | refine below_set ?_ (IsS95.ge HI0.out)) | exact HB.out), by repeat (first | (with_reducible first | exact HK.out | apply KeepBut.set_ | apply keep_drewN | apply keep_drew | apply keep_alloc) | exact HK.out)⟩
            · rw [if_neg c12] at H
              exact absurd H (by simp)
          · rw [if_neg c11] at H
            exact absurd H (by simp)
        · rw [if_neg c8] at H
          have c8b0 : decide (x1002_2 < a1) = false := decide_eq_false c8
          clear c8
          replace H := Option.bind_eq_some_iff.mp H
          obtain ⟨⟨t278, t279, t280⟩, A210, H⟩ := H
          replace H : (some (true, t278, t279, t280)) = some (r1, r2, r3, r4) := H
          have A21 := Aside0.mk A210
          clear A210
          simp only [Option.some.injEq, Prod.mk.injEq] at H
          obtain ⟨rfl, rfl, rfl, rfl⟩ := H
          obtain ⟨ASz22_0, cSz22_0, HGz22, hgz22, HSz22_0, HLSz22_0⟩ := HI0.out
          have hcz22_0 := cellS95_0 HGz22
          have hcz22_1 := cellS95_1 HGz22
          have hcz22_2 := cellS95_2 HGz22
          have hfz22_0 := blk_frozen HGz22 0
          have hfz22_1 := blk_frozen HGz22 1
          have hfz22_2 := blk_frozen HGz22 2
          clear HGz22 hgz22
          go_wp2_with (first | ((with_reducible refine gate_callee (f := 59) rfl ?_); refine goesL_ (some 47) rfl rfl Try.func59 (by kernel_rfl) rfl #[.pointer (some ⟨g, 0, none⟩), .int .i64 a1] rfl (by (try simp only [List.map_toArray, List.map_cons, List.map_nil]); first | done | rfl | (simp only [List.length_drop, List.length_take]; rfl)) ?_; (with_reducible refine (fill_Reader_drop.calls g x1000_2 x1001_2 x1002_2 a1 t278 t279 t280 w0 _ ?side1 ?side2 A21.out).mono ?_); (case side1 => repeat (first | (with_reducible first | exact HI0.out | apply IsS95.alloc | apply IsS95.drewN | apply IsS95.drew | apply IsS95.set_1 | apply IsS95.set_2) | exact HI0.out)); (case side2 => repeat (first | (with_reducible first | exact HB.out | apply below_alloc | apply pw_below_drewN | apply below_drew1 | refine below_set ?_ (IsS95.ge HI0.out)) | exact HB.out)); rintro e w23 ⟨rfl, hi, hb, hk⟩; refine ⟨_, rfl, ?_⟩; have n0_ := Aside0.mk (KeepBut.trans (by repeat (first | (with_reducible first | exact HK.out | apply KeepBut.set_ | apply keep_drewN | apply keep_drew | apply keep_alloc) | exact HK.out)) hk (.inl rfl)); have n1_ := Aside0.mk (hb); have n2_ := Aside0.mk (hi); clear HK; clear HB; clear HI0; have HK := n0_; have HB := n1_; have HI0 := n2_; clear n0_ n1_ n2_; (try clear hb); (try clear hb2); (try clear hk); (try clear hi)))
          go_ret
          exact ⟨by first | rfl | (simp [errW_none, errW_some] <;> rfl) | (simp [*, errW_none, errW_some] <;> rfl), by repeat (first | (with_reducible first | exact HI0.out | apply IsS95.alloc | apply IsS95.drewN | apply IsS95.drew | apply IsS95.set_1 | apply IsS95.set_2) | exact HI0.out), by repeat (first | (with_reducible first | exact HB.out | apply below_alloc | apply pw_below_drewN | apply below_drew1 | refine below_set ?_ (IsS95.ge HI0.out)) | exact HB.out), by repeat (first | (with_reducible first | exact HK.out | apply KeepBut.set_ | apply keep_drewN | apply keep_drew | apply keep_alloc) | exact HK.out)⟩

end Go.Proofs.Ytfpcbnkipdjlhaa.All
