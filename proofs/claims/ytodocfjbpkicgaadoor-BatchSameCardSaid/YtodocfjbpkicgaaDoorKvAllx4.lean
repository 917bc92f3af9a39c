-- copied by a program of the session
import Derived.Test.YtodocfjbpkicgaaDoorKvAllx0
section
namespace Go.Proofs.YtodocfjbpkicgaaDoor.All
open Go.RowKit Go.Proofs.YtodocfjbpkicgaaDoorW.PrintWords Go.Proofs.YtodocfjbpkicgaaDoorW.PrintLast Go.Proofs.YtodocfjbpkicgaaDoorW.PrintMore
attribute [local go_sem] A17 A18 A2o A2p A1y A1z A19 A2a
set_option linter.unusedVariables false
set_option linter.unusedSimpArgs false
theorem eqA30 (d : Nat) (w : World) (x0 y0 : Int) (x1 y1 : Int) (x2 y2 : Int) :
  (Op.equalIn (d + 2) 30 (.agg #[.int .u64 x0, .int .i64 x1, .int .i64 x2]) (.agg #[.int .u64 y0, .int .i64 y1, .int .i64 y2])).run Tryd.prog w = .ok (x0 == y0 && (x1 == y1 && (x2 == y2))) w := by
 refine eqA_of Tryd.underlying30 (by kernel_rfl) ?_
 refine A28 (by rfl) (by go_simp; rfl) (by go_simp; rfl) (by go_simp) ?_
 refine A28 (by rfl) (by go_simp; rfl) (by go_simp; rfl) (by go_simp) ?_
 exact eqf_last (by rfl) (by go_simp; rfl) (by go_simp; rfl) (by go_simp)
theorem eqA32 (d : Nat) (w : World) (x0 y0 : Int) (x1 y1 : Int) (x2 y2 : Int) (x3 y3 : Int) (x4 y4 : Int) (x5 y5 : Int) (x6 y6 : Int) (x7 y7 : Int) :
  (Op.equalIn (d + 3) 32 (.agg #[.int .i64 x0, .int .i64 x1, .int .i64 x2, .int .u64 x3, .int .u64 x4, .int .u64 x5, .int .i64 x6, .int .i64 x7]) (.agg #[.int .i64 y0, .int .i64 y1, .int .i64 y2, .int .u64 y3, .int .u64 y4, .int .u64 y5, .int .i64 y6, .int .i64 y7])).run Tryd.prog w = .ok (x0 == y0 && (x1 == y1 && (x2 == y2 && (x3 == y3 && (x4 == y4 && ((x5 == y5 && (x6 == y6 && (x7 == y7))))))))) w := by
 refine eqA_of Tryd.underlying32 (by kernel_rfl) ?_
 refine A28 (by rfl) (by go_simp; rfl) (by go_simp; rfl) (by go_simp) ?_
 refine A28 (by rfl) (by go_simp; rfl) (by go_simp; rfl) (by go_simp) ?_
 refine A28 (by rfl) (by go_simp; rfl) (by go_simp; rfl) (by go_simp) ?_
 refine A28 (by rfl) (by go_simp; rfl) (by go_simp; rfl) (by go_simp) ?_
 refine A28 (by rfl) (by go_simp; rfl) (by go_simp; rfl) (by go_simp) ?_
 exact eqf_last (by rfl) (by go_simp) (by go_simp) (eqA30 (d + 0) w _ _ _ _ _ _)
theorem eqA42 (d : Nat) (w : World) (x0 y0 : Int) (x1 y1 : Int) :
    (Op.equalIn (d + 2) 42 (.agg #[.int .i64 x0, .int .u64 x1]) (.agg #[.int .i64 y0, .int .u64 y1])).run Tryd.prog w = .ok (x0 == y0 && (x1 == y1)) w := by
  refine eqA_of Tryd.underlying42 (by kernel_rfl) ?_
  refine A28 (by rfl) (by go_simp; rfl) (by go_simp; rfl) (by go_simp) ?_
  exact eqf_last (by rfl) (by go_simp; rfl) (by go_simp; rfl) (by go_simp)
def A0b (w0 W : World) (g : Nat) (f0 : List Int) (f1 : Int) (f2 : Int) : Prop := ∃ A0 c0, W.heap[g]? = some (.cells #[.slice A0 f0.length c0, .int .u64 f1, .int .i64 f2] 93 (0, 0)) ∧ w0.heap.size ≤ g ∧ Kd.C (Kd.int .u8) w0 A0 f0.length f0 ∧ f0.length ≤ c0
theorem A0b.grown {w0 W : World} {g : Nat} {f0 : List Int} {f1 : Int} {f2 : Int} {W1 : World} {row : Option Nat} (h : A0b w0 W g f0 f1 f2) (hw : W.grownBy W1 row) (hne : some g ≠ row) : A0b w0 W1 g f0 f1 f2 := by
 obtain ⟨A0, c0, hb, hg, hr0, hl0⟩ := h
 exact ⟨A0, c0, blk_grown hb hw hne, hg, hr0, hl0⟩
theorem A0b.kept {w0 W : World} {g : Nat} {f0 : List Int} {f1 : Int} {f2 : Int} {W1 : World} {S : Nat → Prop} (h : A0b w0 W g f0 f1 f2) (hk : Kept W W1 S) (hne : ¬ S g) : A0b w0 W1 g f0 f1 f2 := by
 obtain ⟨A0, c0, hb, hg, hr0, hl0⟩ := h
 exact ⟨A0, c0, blk_kept hb hk hne, hg, hr0, hl0⟩
theorem A0b.below {w0 W : World} {g : Nat} {f0 : List Int} {f1 : Int} {f2 : Int} {W1 : World} (h : A0b w0 W g f0 f1 f2) (hw : Below W.heap.size W W1) : A0b w0 W1 g f0 f1 f2 := h.grown (grown_of_below hw none) (by simp)
theorem A0b.alloc {w0 W : World} {g : Nat} {f0 : List Int} {f1 : Int} {f2 : Int} (h : A0b w0 W g f0 f1 f2) (o : Obj) : A0b w0 (W.alloc o) g f0 f1 f2 := h.below (A0i (Below.refl _ _) o)
theorem A0b.drewN {w0 W : World} {g : Nat} {f0 : List Int} {f1 : Int} {f2 : Int} (h : A0b w0 W g f0 f1 f2) (m : Nat) : A0b w0 (W.drewN m) g f0 f1 f2 := h
theorem A0b.drew {w0 W : World} {g : Nat} {f0 : List Int} {f1 : Int} {f2 : Int} (h : A0b w0 W g f0 f1 f2) : A0b w0 W.drew g f0 f1 f2 := h
theorem A0b.at_ {w0 W : World} {g : Nat} {f0 : List Int} {f1 : Int} {f2 : Int} {w' : World} {m : Nat} (hq : W.drewN m = w') (h : A0b w0 W g f0 f1 f2) : A0b w0 w' g f0 f1 f2 := by subst hq; exact A0b.drewN h m
theorem A0b.apart {w0 W : World} {g : Nat} {f0 : List Int} {f1 : Int} {f2 : Int} {α : Type} {d : Kd α} {e : Nat} {base : Nat} {ok : Nat → Prop} {v : Value} {xs : List α} (h : A0b w0 W g f0 f1 f2) (ho : d.R e W base ok v xs) (ht : ∀ q, q ∈ e :: d.E → q ≠ 93) : d.R e W base (fun k => ok k ∧ k ≠ g) v xs := by
 obtain ⟨A0, c0, hb, hg, hr0, hl0⟩ := h
 exact Kd.A1c ho hb ht
theorem A0b.own_ne {w0 W : World} {g : Nat} {f0 : List Int} {f1 : Int} {f2 : Int} {α : Type} {d : Kd α} {e : Nat} {base : Nat} {ok : Nat → Prop} {v : Value} {xs : List α} (h : A0b w0 W g f0 f1 f2) (ho : d.R e W base ok v xs) (ht : e ≠ 93) : some g ≠ v.ownBlock := by
 obtain ⟨A0, c0, hb, hg, hr0, hl0⟩ := h
 exact Kd.R_ne ho hb ht
theorem A0b.lt {w0 W : World} {g : Nat} {f0 : List Int} {f1 : Int} {f2 : Int} (h : A0b w0 W g f0 f1 f2) : g < W.heap.size := by
 obtain ⟨A0, c0, hb, hg, hr0, hl0⟩ := h
 exact A24 hb
theorem A0b.ge {w0 W : World} {g : Nat} {f0 : List Int} {f1 : Int} {f2 : Int} (h : A0b w0 W g f0 f1 f2) : w0.heap.size ≤ g := by
 obtain ⟨A0, c0, hb, hg, hr0, hl0⟩ := h
 exact hg
theorem A0b.ne_blk {w0 W : World} {g : Nat} {f0 : List Int} {f1 : Int} {f2 : Int} {a : Nat} {cs : Array Value} {t : TypeId} {fr : Nat × Nat} (h : A0b w0 W g f0 f1 f2) (hb2 : W.heap[a]? = some (.cells cs t fr)) (ht : t ≠ 93) : g ≠ a := by
 obtain ⟨A0, c0, hb, hg, hr0, hl0⟩ := h
 rintro rfl
 rw [hb] at hb2
 injection hb2 with hb2
 injection hb2 with _ ht2
 exact ht ht2.symm
theorem A0b.far {w0 W : World} {g : Nat} {f0 : List Int} {f1 : Int} {f2 : Int} {p : Addr} (h : A0b w0 W g f0 f1 f2) (hne : g ≠ p.block) (u : Value) : A0b w0 (W.setCell p u) g f0 f1 f2 := by
 obtain ⟨A0, c0, hb, hg, hr0, hl0⟩ := h
 exact ⟨A0, c0, blk_far hb hne u, hg, hr0, hl0⟩
theorem cellS93_0 {W : World} {g : Nat} {A0 : Option Addr} {c0 : Nat} {f0 : List Int} {f1 : Int} {f2 : Int} (h : W.heap[g]? = some (.cells #[.slice A0 f0.length c0, .int .u64 f1, .int .i64 f2] 93 (0, 0))) : W.cell? ⟨g, 0, none⟩ = some (.slice A0 f0.length c0) := (A1v h 0).trans rfl
theorem A0b.set_0 {w0 W : World} {g : Nat} {f0 : List Int} {f1 : Int} {f2 : Int} (h : A0b w0 W g f0 f1 f2) {A_ : Option Addr} {n_ c_ : Nat} {x : List Int} (hr_ : Kd.C (Kd.int .u8) w0 A_ x.length x) (hl_ : x.length ≤ c_) (hn_ : n_ = x.length) : A0b w0 (W.setCell ⟨g, 0, none⟩ (.slice A_ n_ c_)) g x f1 f2 := by
 subst hn_
 obtain ⟨A0, c0, hb, hg, hr0, hl0⟩ := h
 exact ⟨A_, c_, by simpa using blk_set hb 0 (.slice A_ x.length c_), hg, hr_, hl_⟩
theorem cellS93_1 {W : World} {g : Nat} {A0 : Option Addr} {c0 : Nat} {f0 : List Int} {f1 : Int} {f2 : Int} (h : W.heap[g]? = some (.cells #[.slice A0 f0.length c0, .int .u64 f1, .int .i64 f2] 93 (0, 0))) : W.cell? ⟨g, 1, none⟩ = some (.int .u64 f1) := (A1v h 1).trans rfl
theorem A0b.set_1 {w0 W : World} {g : Nat} {f0 : List Int} {f1 : Int} {f2 : Int} (h : A0b w0 W g f0 f1 f2) (x : Int) : A0b w0 (W.setCell ⟨g, 1, none⟩ (.int .u64 x)) g f0 x f2 := by
 obtain ⟨A0, c0, hb, hg, hr0, hl0⟩ := h
 exact ⟨A0, c0, by simpa using blk_set hb 1 (.int .u64 x), hg, hr0, hl0⟩
theorem cellS93_2 {W : World} {g : Nat} {A0 : Option Addr} {c0 : Nat} {f0 : List Int} {f1 : Int} {f2 : Int} (h : W.heap[g]? = some (.cells #[.slice A0 f0.length c0, .int .u64 f1, .int .i64 f2] 93 (0, 0))) : W.cell? ⟨g, 2, none⟩ = some (.int .i64 f2) := (A1v h 2).trans rfl
theorem A0b.set_2 {w0 W : World} {g : Nat} {f0 : List Int} {f1 : Int} {f2 : Int} (h : A0b w0 W g f0 f1 f2) (x : Int) : A0b w0 (W.setCell ⟨g, 2, none⟩ (.int .i64 x)) g f0 f1 x := by
 obtain ⟨A0, c0, hb, hg, hr0, hl0⟩ := h
 exact ⟨A0, c0, by simpa using blk_set hb 2 (.int .i64 x), hg, hr0, hl0⟩
theorem A0b.farA {w0 W : World} {g g' j : Nat} {u : Value} {f0 : List Int} {f1 : Int} {f2 : Int} (h : A0b w0 W g f0 f1 f2) (hne : A0g (g ≠ g')) : A0b w0 (W.setCell ⟨g', j, none⟩ u) g f0 f1 f2 := h.far (by exact hne.out) u
theorem A0b.k {w0 W W' : World} {g : Nat} {f0 f0' : List Int} {f1 f1' : Int} {f2 f2' : Int} (h : A0g (A0b w0 W g f0 f1 f2)) (hh : A0b w0 W g f0 f1 f2 → A0b w0 W' g f0' f1' f2' := by (intro h0_; repeat (first | (with_reducible first | exact h0_ | apply A0b.alloc | apply A0b.drewN | apply A0b.drew | apply A0b.set_1 | apply A0b.set_2 | refine A0b.farA ?_ (by assumption)) | exact h0_))) : A0b w0 W' g f0' f1' f2' := hh h.out
theorem A0b.kl {w W W' : World} (h : A0g (Below w.heap.size w W)) (hh : Below w.heap.size w W → Below w.heap.size w W' := by (intro h0_; repeat (first | (with_reducible first | exact h0_ | apply A0i | apply A0d | apply A0e | refine A0a ?_ (A0b.ge (A0g.out (by assumption))) | refine A0a ?_ (A0g.out (by assumption))) | exact h0_))) : Below w.heap.size w W' := hh h.out
def A2g.f (l0 : List Int) : Option (List Int × Int × Int) := some (l0, 0, 0)
set_option maxHeartbeats 8000000 in
set_option maxRecDepth 100000 in
theorem A2g.calls (A0 : Option Addr) (c0 : Nat) (l0 : List Int) (r1 : List Int) (r2 : Int) (r3 : Int) (w0 w : World) (hB : Below w0.heap.size w0 w) (hr0 : Kd.C (Kd.int .u8) w0 A0 l0.length l0) (hc0 : l0.length ≤ c0) (h : A2g.f l0 = some (r1, r2, r3)) :
  Calls Tryd.prog 12 #[.slice A0 l0.length c0] w fun e w' => ∃ g_ : Nat, e = .returned (.pointer (some ⟨g_, 0, none⟩)) ∧ A0b w0 w' g_ r1 r2 r3 ∧ Below w0.heap.size w0 w' ∧ Below w.heap.size w w' ∧ w.heap.size ≤ g_ := by
 have hu93 := Tryd.underlying93; have af := ak hr0; have ag := ak hc0; clear hr0 hc0; have HBW := ak (Below.refl w.heap.size w); have HW0 := ak hB.size; have HB := ak hB; clear hB; have H : (some (l0, 0, 0)) = some (r1, r2, r3) := h; clear h; simp only [Option.some.injEq, Prod.mk.injEq] at H; obtain ⟨rfl, rfl, rfl⟩ := H
 go_enter Tryd.func12, Tryd.ntmps12
 go_wp2_with (first | ((with_reducible refine A0s (N := 5) rfl ?_); refine bxe 5 #[.slice A0 l0.length c0, .int .u64 0, .int .i64 0] 93 (h := ?_); intro aa hg w2 hbox hb; replace HB := kH HB hb; have ad := ak (hbox); have ac := ak ((by rw [hg]; exact (A0p (by repeat (first | (with_reducible first | exact HBW.out | apply A0i | apply A0d | apply A0e) | exact HBW.out))) : w.heap.size ≤ aa)); have ae := ak ((Nat.le_trans HW0.out (by rw [hg]; exact (A0p (by repeat (first | (with_reducible first | exact HBW.out | apply A0i | apply A0d | apply A0e) | exact HBW.out))) : w.heap.size ≤ aa) : w0.heap.size ≤ aa)); replace HBW := ak (A0n HBW.out hb); clear hb hbox hg))
 go_ret
 exact ⟨_, rfl, (show A0b w0 _ aa l0 0 0 from ⟨_, _, by (with_reducible repeat (first | refine A2u ?_ _ | refine A0o ?_ | refine A2t ?_ _)); exact ad.out, ae.out, af.out, ag.out⟩), (kl HB), (by repeat (first | (with_reducible first | exact HBW.out | apply A0i | apply A0d | apply A0e | refine A0a ?_ ac.out) | exact HBW.out)), ac.out⟩
def A1e.f (aa : List Int) (ad : Int) (ac : Int) : Option (Int × List Int × Int × Int) := some (wrap64 (ac + (wrap64 (8 * (aa.length : Int)))), aa, ad, ac)
set_option maxHeartbeats 8000000 in
set_option maxRecDepth 100000 in
theorem A1e.calls (g : Nat) (aa : List Int) (ad : Int) (ac : Int) (r1 : Int) (r2 : List Int) (r3 : Int) (r4 : Int) (w0 w : World) (hI : A0b w0 w g aa ad ac) (hB : Below w0.heap.size w0 w) (h : A1e.f aa ad ac = some (r1, r2, r3, r4)) :
  Calls Tryd.prog 19 #[.pointer (some ⟨g, 0, none⟩)] w fun e w' => e = .returned (.int .i64 r1) ∧ A0b w0 w' g r2 r3 r4 ∧ Below w0.heap.size w0 w' ∧ A0f w w' g none := by
 have al := ak hI; have HK := ak (A0f.refl w g none); have HL := ak hB.size; clear hI; have HW0 := ak hB.size; have HB := ak hB; clear hB; have H : (some (wrap64 (ac + (wrap64 (8 * (aa.length : Int)))), aa, ad, ac)) = some (r1, r2, r3, r4) := h; clear h; simp only [Option.some.injEq, Prod.mk.injEq] at H; obtain ⟨rfl, rfl, rfl, rfl⟩ := H; obtain ⟨ASz2_0, cSz2_0, HGz2, hgz2, HSz2_0, HLSz2_0⟩ := al.out; have ae := cellS93_0 HGz2; have af := cellS93_1 HGz2; have ag := cellS93_2 HGz2; have ah := A0c HGz2 0; have ai := A0c HGz2 1; have aj := A0c HGz2 2; clear HGz2 hgz2
 go_enter Tryd.func19, Tryd.ntmps19
 go_wp2
 repeat ((first | go_quiet (fail) | go_region); try go_wp2)
 go_ret
 exact ⟨kF, (A0b.k al), (A0b.kl HB), (kk HK)⟩
def A0u.l0 : Nat → List Int → Int → Int → Option (List Int × Int × Int)
 | 0, _, _, _ => none
 | k + 1, aa, ad, ac => if ac ≤ 56 then (if (aa.length : Int) > 0 then (if 0 < (aa.length : Int) then (if 0 ≤ (wrap64 (56 - ac)) then (if 1 ≤ (aa.length : Int) then (A0u.l0 k (aa.drop 1) (Go.bits .or .u64 ad (shl .u64 (IntKind.u64.wrap (rd aa 0)) (wrap64 (56 - ac)))) (wrap64 (ac + 8))) else (none)) else (none)) else (none)) else (some (aa, ad, ac))) else (some (aa, ad, ac))
def A0u.f (k : Nat) (aa : List Int) (ac : Int) (ad : Int) : Option (List Int × Int × Int) := A0u.l0 k aa ac ad
theorem A0u.A2w : ∀ k, (∀ y0 y1 y2, LeO (A0u.l0 k y0 y1 y2) (A0u.l0 (k + 1) y0 y1 y2))
 | 0 => fun _ _ _ r h => by simp [A0u.l0] at h
 | k + 1 => by
  have ih0 := A0u.A2w k <;> intros <;> (first | unfold A0u.l0) <;> (
   repeat' first
   | (with_reducible exact ih0 _ _ _)
   | (with_reducible exact LeO.refl _)
   | (with_reducible exact LeO.none _)
   | (with_reducible refine LeO.ite ?_ ?_)
   | (with_reducible refine LeO.bind ?_ (fun _ => ?_))
   | exact ih0 _ _ _
   | exact LeO.none _
   | refine LeO.ite ?_ ?_
   | refine LeO.bind ?_ (fun _ => ?_))
theorem A0u.mono : ∀ a0 a1 a2 k, LeO (A0u.f k a0 a1 a2) (A0u.f (k + 1) a0 a1 a2) := by
 intro a0 a1 a2 k
 have ih0 := A0u.A2w k
 unfold A0u.f
 repeat' first
   | (with_reducible exact ih0 _ _ _)
   | (with_reducible exact LeO.refl _)
   | (with_reducible exact LeO.none _)
   | (with_reducible refine LeO.ite ?_ ?_)
   | (with_reducible refine LeO.bind ?_ (fun _ => ?_))
   | exact ih0 _ _ _
   | exact LeO.none _
   | refine LeO.ite ?_ ?_
   | refine LeO.bind ?_ (fun _ => ?_)
set_option maxHeartbeats 8000000 in
set_option maxRecDepth 100000 in
theorem A0u.calls (k : Nat) (g : Nat) (ag : List Int) (ah : Int) (ai : Int) (r1 : List Int) (r2 : Int) (r3 : Int) (w0 w : World) (hI : A0b w0 w g ag ah ai) (hB : Below w0.heap.size w0 w) (h : A0u.f k ag ah ai = some (r1, r2, r3)) :
  Calls Tryd.prog 117 #[.pointer (some ⟨g, 0, none⟩)] w fun e w' => e = .returned (.tuple #[]) ∧ A0b w0 w' g r1 r2 r3 ∧ Below w0.heap.size w0 w' ∧ A0f w w' g none := by
 have aj := ak hI; have HK := ak (A0f.refl w g none); have HL := ak hB.size; clear hI; have HW0 := ak hB.size; have HB := ak hB; clear hB; have H : (A0u.l0 k ag ah ai) = some (r1, r2, r3) := h; clear h; have H' := ak H; clear H
 go_enter Tryd.func117, Tryd.ntmps117
 go_wp2
 repeat ((first | go_quiet (fail) | go_region); try go_wp2)
 go_loopg [] k (fun kq w' => ∃ (aa : List Int) (ad : Int) (ac : Int), A0g (A0u.l0 kq aa ad ac = some (r1, r2, r3)) ∧ A0g (kq ≤ k) ∧ A0g (A0b w0 w' g aa ad ac) ∧ A0g (A0f w w' g none) ∧ A0g (Below w0.heap.size w0 w'))
 case atStart => exact ⟨(ag), (ah), (ai), H', ⟨Nat.le_refl _⟩, ⟨(A0b.k aj)⟩, ⟨(kk HK)⟩, ⟨(A0b.kl HB)⟩⟩
 case round =>
  clear H'; obtain ⟨aa, ad, ac, HA, aO, aj, HK, HB⟩ := hrel
  cases gk with
  | zero => exact absurd HA.out (by simp [A0u.l0])
  | succ k1 =>
   have H := HA.out; clear HA; simp only [A0u.l0] at H
   by_cases c2 : ac ≤ 56
   ·rw [if_pos c2] at H; have aD := decide_eq_true c2; clear c2
    by_cases c3 : (aa.length : Int) > 0
    ·rw [if_pos c3] at H; have aE : decide (0 < (aa.length : Int)) = true := decide_eq_true c3; have aF : decide (0 < aa.length) = true := decide_eq_true (by omega); clear c3
     by_cases c4 : 0 < (aa.length : Int)
     ·rw [if_pos c4] at H; have aT : decide (0 < (aa.length : Int)) = true := decide_eq_true c4; have aU : decide (0 < aa.length) = true := decide_eq_true (by omega); clear c4; obtain ⟨an, aq⟩ : ∃ j_ : Int, (wrap64 (56 - ac)) = j_ := ⟨_, rfl⟩
      replace H : (if 0 ≤ (an) then (if 1 ≤ (aa.length : Int) then (A0u.l0 k1 (aa.drop 1) (Go.bits .or .u64 ad (shl .u64 (IntKind.u64.wrap (rd aa 0)) (an))) (wrap64 (ac + 8))) else (none)) else (none)) = some (r1, r2, r3) := by first | (rw [aq] at H; exact H) | (simp only [aq] at H ⊢; exact H)
      have aP : (IntKind.i64.wrap (56 - ac)) = an := (A2b _).trans aq
      by_cases c6 : 0 ≤ (an)
      ·rw [if_pos c6] at H; have aV := eq_true c6; have aW := decide_eq_true c6; clear c6; obtain ⟨az, al⟩ : ∃ j_ : Int, (shl .u64 (IntKind.u64.wrap (rd aa 0)) (an)) = j_ := ⟨_, rfl⟩
       replace H : (if 1 ≤ (aa.length : Int) then (A0u.l0 k1 (aa.drop 1) (Go.bits .or .u64 ad (az)) (wrap64 (ac + 8))) else (none)) = some (r1, r2, r3) := by first | (rw [al] at H; exact H) | (simp only [al] at H ⊢; exact H)
       have aQ : (IntKind.u64.wrap ((IntKind.u64.wrap (rd aa 0)) * 2 ^ min (an).toNat 64)) = az := al; have aR : (an) ≤ 64 → (IntKind.u64.wrap ((IntKind.u64.wrap (rd aa 0)) * 2 ^ (an).toNat)) = az := A3i al
       by_cases c8 : 1 ≤ (aa.length : Int)
       ·rw [if_pos c8] at H; have aX := eq_true c8; have aY : decide (1 ≤ (aa.length : Int)) = true := decide_eq_true c8; clear c8; have H' := ak H; clear H; obtain ⟨ASz9_0, cSz9_0, HGz9, hgz9, HSz9_0, HLSz9_0⟩ := aj.out; have aG := cellS93_0 HGz9; have aH := cellS93_1 HGz9; have aI := cellS93_2 HGz9; have aJ := A0c HGz9 0; have aK := A0c HGz9 1; have aL := A0c HGz9 2; clear HGz9 hgz9; have ar : 0 ≤ (0 : Int) := (by omega); have am : 0 < (aa.length : Int) := kD; obtain ⟨au, aM, ae⟩ := Kd.at_int HSz9_0 0 ar am
        cases aM
        have aS : (0 < aa.length) = True := eq_true (by omega); (try rw [show ((0 : Int)).toNat = 0 from rfl] at ae); (try rw [Addr.add_zero'] at ae); replace ae := pw_cell_below HB.out ae; replace ar := eq_true ar
        (try (have af := am; simp only [List.length_drop, List.length_take] at af; replace af := eq_true af)); replace am := eq_true am
        obtain ⟨aZ, ao, _, ap, _⟩ := info_parts info5; obtain ⟨ba, aN, av, aw⟩ := print_drop_of (P := Tryd.prog) (Value.int .u8) 0 22 5 .i64 Tryd.underlying22 ao ap (some au) cSz9_0 aa 1 (by omega) kD HLSz9_0; have ax := ak (show Kd.C (Kd.int .u8) w0 ba (aa.drop 1).length (aa.drop 1) from Kd.C_of_reads (h1 := fun _ => rfl) (av _ (Kd.reads_of_C HSz9_0))); have ay := ak (show (aa.drop 1).length ≤ (cSz9_0 - 1) from aw); clear av aw ao ap
        go_wp2
        repeat ((first | go_quiet (fail) | go_region); try go_wp2)
        go_roundg k1
        case measure => have := aO.out; omega
        case rel => exact ⟨(aa.drop 1), (Go.bits .or .u64 ad (az)), (wrap64 (ac + 8)), H', ⟨by have := aO.out; omega⟩, ⟨(by repeat (first | (with_reducible first | exact aj.out | apply A0b.alloc | apply A0b.drewN | apply A0b.drew | apply A0b.set_1 | apply A0b.set_2 | apply A0b.set_0 (hr_ := ax.out) (hl_ := ay.out) | exact List.length_drop.symm | (simp only [List.length_drop, List.length_take]; done)) | exact aj.out))⟩, ⟨(kk HK)⟩, ⟨(A0b.kl HB)⟩⟩
       ·rw [if_neg c8] at H
        exact absurd H (by simp)
      ·rw [if_neg c6] at H
       exact absurd H (by simp)
     ·rw [if_neg c4] at H
      exact absurd H (by simp)
    ·rw [if_neg c3] at H; have aE : decide (0 < (aa.length : Int)) = false := decide_eq_false c3; have aF : decide (0 < aa.length) = false := decide_eq_false (by omega); clear c3; simp only [Option.some.injEq, Prod.mk.injEq] at H; obtain ⟨rfl, rfl, rfl⟩ := H; obtain ⟨ASz11_0, cSz11_0, HGz11, hgz11, HSz11_0, HLSz11_0⟩ := aj.out; have a1 := cellS93_0 HGz11; have a2 := cellS93_1 HGz11; have a3 := cellS93_2 HGz11; have a4 := A0c HGz11 0; have a5 := A0c HGz11 1; have a6 := A0c HGz11 2; clear HGz11 hgz11
     go_wp2
     repeat ((first | go_quiet (fail) | go_region); try go_wp2)
     first | go_end0 | ((try simp only [Exit.inBlock, Exit.then]); refine bodyPost_ret (results_none rfl _ _ _) rfl ?_)
     exact ⟨kF, (A0b.k aj), (A0b.kl HB), (kk HK)⟩
   ·rw [if_neg c2] at H; have aD := decide_eq_false c2; clear c2; simp only [Option.some.injEq, Prod.mk.injEq] at H; obtain ⟨rfl, rfl, rfl⟩ := H; obtain ⟨ASz12_0, cSz12_0, HGz12, hgz12, HSz12_0, HLSz12_0⟩ := aj.out; have a7 := cellS93_0 HGz12; have a8 := cellS93_1 HGz12; have a9 := cellS93_2 HGz12; have aA := A0c HGz12 0; have aB := A0c HGz12 1; have aC := A0c HGz12 2; clear HGz12 hgz12
    go_wp2
    repeat ((first | go_quiet (fail) | go_region); try go_wp2)
    first | go_end0 | ((try simp only [Exit.inBlock, Exit.then]); refine bodyPost_ret (results_none rfl _ _ _) rfl ?_)
    exact ⟨kF, (A0b.k aj), (A0b.kl HB), (kk HK)⟩
def A03.f (k : Nat) (ac : List Int) (ad : Int) (ae : Int) (a1 : Int) : Option (Int × List Int × Int × Int) := if a1 < 1 then (some (0, ac, ad, ae)) else (if a1 > 56 then (some (0, ac, ad, ae)) else ((A0u.f k ac ad ae).bind fun aa => (if 0 ≤ (wrap64 (64 - a1)) then (some (shr .u64 aa.2.1 (wrap64 (64 - a1)), aa.1, aa.2.1, aa.2.2)) else (none))))
theorem A03.mono : ∀ a0 a1 a2 a3 k, LeO (A03.f k a0 a1 a2 a3) (A03.f (k + 1) a0 a1 a2 a3) := by
 intro a0 a1 a2 a3 k
 unfold A03.f
 repeat' first
   | (with_reducible exact A0u.mono _ _ _ _)
   | (with_reducible exact LeO.refl _)
   | (with_reducible exact LeO.none _)
   | (with_reducible refine LeO.ite ?_ ?_)
   | (with_reducible refine LeO.bind ?_ (fun _ => ?_))
   | exact A0u.mono _ _ _ _
   | exact LeO.none _
   | refine LeO.ite ?_ ?_
   | refine LeO.bind ?_ (fun _ => ?_)
set_option maxHeartbeats 8000000 in
set_option maxRecDepth 100000 in
theorem A03.calls (k : Nat) (g : Nat) (ad : List Int) (ae : Int) (af : Int) (a1 : Int) (r1 : Int) (r2 : List Int) (r3 : Int) (r4 : Int) (w0 w : World) (hI : A0b w0 w g ad ae af) (hB : Below w0.heap.size w0 w) (h : A03.f k ad ae af a1 = some (r1, r2, r3, r4)) :
  Calls Tryd.prog 100 #[.pointer (some ⟨g, 0, none⟩), .int .i64 a1] w fun e w' => e = .returned (.int .u64 r1) ∧ A0b w0 w' g r2 r3 r4 ∧ Below w0.heap.size w0 w' ∧ A0f w w' g none := by
 have am := ak hI; have HK := ak (A0f.refl w g none); have HL := ak hB.size; clear hI; have HW0 := ak hB.size; have HB := ak hB; clear hB; have H : (if a1 < 1 then (some (0, ad, ae, af)) else (if a1 > 56 then (some (0, ad, ae, af)) else ((A0u.f k ad ae af).bind fun ac => (if 0 ≤ (wrap64 (64 - a1)) then (some (shr .u64 ac.2.1 (wrap64 (64 - a1)), ac.1, ac.2.1, ac.2.2)) else (none))))) = some (r1, r2, r3, r4) := h; clear h
 by_cases c3 : a1 < 1
 ·rw [if_pos c3] at H; have ax : decide (a1 < 1) = true := decide_eq_true c3; clear c3; simp only [Option.some.injEq, Prod.mk.injEq] at H; obtain ⟨rfl, rfl, rfl, rfl⟩ := H
  go_enter Tryd.func100, Tryd.ntmps100
  go_wp2
  go_ret
  exact ⟨kF, (A0b.k am), (A0b.kl HB), (kk HK)⟩
 ·rw [if_neg c3] at H; have ax : decide (a1 < 1) = false := decide_eq_false c3; clear c3
  by_cases c4 : a1 > 56
  ·rw [if_pos c4] at H; have ay : decide (56 < a1) = true := decide_eq_true c4; clear c4; simp only [Option.some.injEq, Prod.mk.injEq] at H; obtain ⟨rfl, rfl, rfl, rfl⟩ := H
   go_enter Tryd.func100, Tryd.ntmps100
   go_wp2
   go_ret
   exact ⟨kF, (A0b.k am), (A0b.kl HB), (kk HK)⟩
  ·rw [if_neg c4] at H; have ay : decide (56 < a1) = false := decide_eq_false c4; clear c4; replace H := bkH H; obtain ⟨⟨aj, aa, al⟩, A5, H⟩ := H; (try dsimp only at H); obtain ⟨ai, ah⟩ : ∃ j_ : Int, (wrap64 (64 - a1)) = j_ := ⟨_, rfl⟩
   replace H : (if 0 ≤ (ai) then (some (shr .u64 aa (ai), aj, aa, al)) else (none)) = some (r1, r2, r3, r4) := by first | (rw [ah] at H; exact H) | (simp only [ah] at H ⊢; exact H)
   (try rw [ah] at A5); have a2 : (IntKind.i64.wrap (64 - a1)) = ai := (A2b _).trans ah
   by_cases c7 : 0 ≤ (ai)
   ·rw [if_pos c7] at H; have a5 := eq_true c7; have a6 := decide_eq_true c7; clear c7; obtain ⟨az, ag⟩ : ∃ j_ : Int, (shr .u64 aa (ai)) = j_ := ⟨_, rfl⟩
    replace H : (some (az, aj, aa, al)) = some (r1, r2, r3, r4) := by first | (rw [ag] at H; exact H) | (simp only [ag] at H ⊢; exact H)
    (try rw [ag] at A5); have a3 : (aa / 2 ^ min (ai).toNat 64) = az := ag; have a4 : (ai) ≤ 64 → (aa / 2 ^ (ai).toNat) = az := shr_small ag; simp only [Option.some.injEq, Prod.mk.injEq] at H; obtain ⟨rfl, rfl, rfl, rfl⟩ := H
    go_enter Tryd.func100, Tryd.ntmps100
    go_wp2_with (first | ((with_reducible refine A0m (f := 117) rfl ?_); refine A07 (some 12) rfl rfl Tryd.func117 (by kernel_rfl) rfl #[.pointer (some ⟨g, 0, none⟩)] rfl km ?_; (with_reducible refine (A0u.calls k g ad ae af aj aa al w0 _ ?an ?ao A5.out).mono ?_); (case an => exact A0b.k am); (case ao => exact A0b.kl HB); rintro e w9 ⟨rfl, hi, hb, hk⟩; refine ⟨_, rfl, ?_⟩; replace HK := ak (A0f.trans (kk HK) hk (.inl rfl)); replace HB := ak (hb); replace am := ak (hi); obtain ⟨ASz10_0, cSz10_0, HGz10, hgz10, HSz10_0, HLSz10_0⟩ := am.out; have ap := cellS93_0 HGz10; have aq := cellS93_1 HGz10; have ar := cellS93_2 HGz10; have au := A0c HGz10 0; have av := A0c HGz10 1; have aw := A0c HGz10 2; clear HGz10 hgz10))
    go_ret
    exact ⟨by first | rfl | (simp [A0k, A0l] <;> rfl) | (simp only [← ah, ← ag]; first | rfl | (simp [A0k, A0l] <;> rfl)) | (simp [*, A0k, A0l] <;> rfl), (A0b.k am), (A0b.kl HB), (kk HK)⟩
   ·rw [if_neg c7] at H
    exact absurd H (by simp)
def A1n.f (aa : List Int) (ac : Int) (ad : Int) (a1 : Int) : Option (List Int × Int × Int) := if 0 ≤ a1 then (some (aa, shl .u64 ac a1, wrap64 (ad - a1))) else (none)
set_option maxHeartbeats 8000000 in
set_option maxRecDepth 100000 in
theorem A1n.calls (g : Nat) (ad : List Int) (aa : Int) (ae : Int) (a1 : Int) (r1 : List Int) (r2 : Int) (r3 : Int) (w0 w : World) (hI : A0b w0 w g ad aa ae) (hB : Below w0.heap.size w0 w) (h : A1n.f ad aa ae a1 = some (r1, r2, r3)) :
  Calls Tryd.prog 116 #[.pointer (some ⟨g, 0, none⟩), .int .i64 a1] w fun e w' => e = .returned (.tuple #[]) ∧ A0b w0 w' g r1 r2 r3 ∧ Below w0.heap.size w0 w' ∧ A0f w w' g none := by
 have an := ak hI; have HK := ak (A0f.refl w g none); have HL := ak hB.size; clear hI; have HW0 := ak hB.size; have HB := ak hB; clear hB; have H : (if 0 ≤ a1 then (some (ad, shl .u64 aa a1, wrap64 (ae - a1))) else (none)) = some (r1, r2, r3) := h; clear h
 by_cases c3 : 0 ≤ a1
 ·rw [if_pos c3] at H; have aq := eq_true c3; have ar : decide (0 ≤ a1) = true := decide_eq_true c3; clear c3; obtain ⟨af, ac⟩ : ∃ j_ : Int, (shl .u64 aa a1) = j_ := ⟨_, rfl⟩
  replace H : (some (ad, af, wrap64 (ae - a1))) = some (r1, r2, r3) := by first | (rw [ac] at H; exact H) | (simp only [ac] at H ⊢; exact H)
  have ao : (IntKind.u64.wrap (aa * 2 ^ min a1.toNat 64)) = af := ac; have ap : a1 ≤ 64 → (IntKind.u64.wrap (aa * 2 ^ a1.toNat)) = af := A3i ac; simp only [Option.some.injEq, Prod.mk.injEq] at H; obtain ⟨rfl, rfl, rfl⟩ := H; obtain ⟨ASz5_0, cSz5_0, HGz5, hgz5, HSz5_0, HLSz5_0⟩ := an.out; have ag := cellS93_0 HGz5; have ah := cellS93_1 HGz5; have ai := cellS93_2 HGz5; have aj := A0c HGz5 0; have al := A0c HGz5 1; have am := A0c HGz5 2; clear HGz5 hgz5
  go_enter Tryd.func116, Tryd.ntmps116
  go_wp2
  first | go_end0 | ((try simp only [Exit.inBlock, Exit.then]); refine bodyPost_ret (results_none rfl _ _ _) rfl ?_)
  exact ⟨by first | rfl | (simp [A0k, A0l] <;> rfl) | (simp only [← ac]; first | rfl | (simp [A0k, A0l] <;> rfl)) | (simp [*, A0k, A0l] <;> rfl), (A0b.k an), (A0b.kl HB), (kk HK)⟩
 ·rw [if_neg c3] at H
  exact absurd H (by simp)
def A0j.j0 : Nat → Int → Bool → List Int → Int → Int → Option (Int × Bool × List Int × Int × Int)
 | 0, _, _, _, _, _ => none
 | k + 1, x1, al, ae, af, ag => if al = true then (some (0, false, ae, af, ag)) else (if x1 ≤ 56 then ((A03.f k ae af ag x1).bind fun aa => ((A1n.f aa.2.1 aa.2.2.1 aa.2.2.2 x1).bind fun ah => (some (aa.1, true, ah.1, ah.2.1, ah.2.2)))) else ((A03.f k ae af ag 32).bind fun ac => ((A1n.f ac.2.1 ac.2.2.1 ac.2.2.2 32).bind fun ai => ((A03.f k ai.1 ai.2.1 ai.2.2 (wrap64 (x1 - 32))).bind fun ad => ((A1n.f ad.2.1 ad.2.2.1 ad.2.2.2 (wrap64 (x1 - 32))).bind fun aj => (if 0 ≤ (wrap64 (x1 - 32)) then (some (Go.bits .or .u64 (shl .u64 ac.1 (wrap64 (x1 - 32))) ad.1, true, aj.1, aj.2.1, aj.2.2)) else (none)))))))
def A0j.f (k : Nat) (ac : List Int) (ad : Int) (ae : Int) (a1 : Int) : Option (Int × Bool × List Int × Int × Int) := if a1 < 0 then (A0j.j0 k a1 true ac ad ae) else (if a1 > 64 then (A0j.j0 k a1 true ac ad ae) else ((A1e.f ac ad ae).bind fun aa => (A0j.j0 k a1 (decide (a1 > aa.1)) aa.2.1 aa.2.2.1 aa.2.2.2)))
theorem A0j.A2w : ∀ k, (∀ y0 y1 y2 y3 y4, LeO (A0j.j0 k y0 y1 y2 y3 y4) (A0j.j0 (k + 1) y0 y1 y2 y3 y4))
 | 0 => fun _ _ _ _ _ r h => by simp [A0j.j0] at h
 | k + 1 => by
  have ih0 := A0j.A2w k <;> intros <;> (first | unfold A0j.j0) <;> (
   repeat' first
   | (with_reducible exact ih0 _ _ _ _ _)
   | (with_reducible exact A03.mono _ _ _ _ _)
   | (with_reducible exact LeO.refl _)
   | (with_reducible exact LeO.none _)
   | (with_reducible refine LeO.ite ?_ ?_)
   | (with_reducible refine LeO.bind ?_ (fun _ => ?_))
   | exact ih0 _ _ _ _ _
   | exact A03.mono _ _ _ _ _
   | exact LeO.none _
   | refine LeO.ite ?_ ?_
   | refine LeO.bind ?_ (fun _ => ?_))
theorem A0j.mono : ∀ a0 a1 a2 a3 k, LeO (A0j.f k a0 a1 a2 a3) (A0j.f (k + 1) a0 a1 a2 a3) := by
 intro a0 a1 a2 a3 k
 have ih0 := A0j.A2w k
 unfold A0j.f
 repeat' first
   | (with_reducible exact ih0 _ _ _ _ _)
   | (with_reducible exact A03.mono _ _ _ _ _)
   | (with_reducible exact LeO.refl _)
   | (with_reducible exact LeO.none _)
   | (with_reducible refine LeO.ite ?_ ?_)
   | (with_reducible refine LeO.bind ?_ (fun _ => ?_))
   | exact ih0 _ _ _ _ _
   | exact A03.mono _ _ _ _ _
   | exact LeO.none _
   | refine LeO.ite ?_ ?_
   | refine LeO.bind ?_ (fun _ => ?_)
set_option maxHeartbeats 8000000 in
set_option maxRecDepth 100000 in
theorem A0j.calls (k : Nat) (g : Nat) (al : List Int) (am : Int) (an : Int) (a1 : Int) (r1 : Int) (r2 : Bool) (r3 : List Int) (r4 : Int) (r5 : Int) (w0 w : World) (hI : A0b w0 w g al am an) (hB : Below w0.heap.size w0 w) (h : A0j.f k al am an a1 = some (r1, r2, r3, r4, r5)) :
  Calls Tryd.prog 98 #[.pointer (some ⟨g, 0, none⟩), .int .i64 a1] w fun e w' => e = .returned (.tuple #[.int .u64 r1, .bool r2]) ∧ A0b w0 w' g r3 r4 r5 ∧ Below w0.heap.size w0 w' ∧ A0f w w' g none := by
 have aj := ak hI; have HK := ak (A0f.refl w g none); have HL := ak hB.size; clear hI; have HW0 := ak hB.size; have HB := ak hB; clear hB; have H : (if a1 < 0 then (A0j.j0 k a1 true al am an) else (if a1 > 64 then (A0j.j0 k a1 true al am an) else ((A1e.f al am an).bind fun ao => (A0j.j0 k a1 (decide (a1 > ao.1)) ao.2.1 ao.2.2.1 ao.2.2.2)))) = some (r1, r2, r3, r4, r5) := h; clear h; have aI := ak H; clear H
 go_enter Tryd.func98, Tryd.ntmps98
 go_upto_region 1 with (fail)
 go_cut [20] (fun aZ wc => ∃ (kq : Nat) (ap : Bool) (ae : List Int) (af : Int) (ag : Int), aZ = .bool ap ∧ A0g (A0j.j0 kq a1 ap ae af ag = some (r1, r2, r3, r4, r5)) ∧ A0g (kq ≤ k) ∧ A0g (A0b w0 wc g ae af ag) ∧ A0g (A0f w wc g none) ∧ A0g (Below w0.heap.size w0 wc))
 case first =>
  have H := aI.out; clear aI
  by_cases c4 : a1 < 0
  ·rw [if_pos c4] at H; have aq : decide (a1 < 0) = true := decide_eq_true c4; clear c4
   (first | rw [aq] | (simp only [A2b, A25]; rw [aq]) | skip)
   have H' := ak H; clear H
   go_wp2
   go_meet
   case rel => exact ⟨_, (true), (al), (am), (an), kE, H', ⟨by first | omega | exact Nat.le_refl _⟩, ⟨(A0b.k aj)⟩, ⟨(kk HK)⟩, ⟨(A0b.kl HB)⟩⟩
  ·rw [if_neg c4] at H; have aq : decide (a1 < 0) = false := decide_eq_false c4; clear c4
   (first | rw [aq] | (simp only [A2b, A25]; rw [aq]) | skip)
   by_cases c5 : a1 > 64
   ·rw [if_pos c5] at H; have aJ : decide (64 < a1) = true := decide_eq_true c5; clear c5; have H' := ak H; clear H
    go_wp2
    go_meet
    case rel => exact ⟨_, (true), (al), (am), (an), kE, H', ⟨by first | omega | exact Nat.le_refl _⟩, ⟨(A0b.k aj)⟩, ⟨(kk HK)⟩, ⟨(A0b.kl HB)⟩⟩
   ·rw [if_neg c5] at H; have aJ : decide (64 < a1) = false := decide_eq_false c5; clear c5; replace H := bkH H; obtain ⟨⟨az, a2, a3, a4⟩, A6, H⟩ := H; (try dsimp only at H); have H' := ak H; clear H
    go_wp2_with (first | (go_at_call 19; (with_reducible refine (A1e.calls g al am an az a2 a3 a4 w0 _ ?aa ?ac A6.out).mono ?_); (case aa => exact A0b.k aj); (case ac => exact A0b.kl HB); rintro e w7 ⟨rfl, hi, hb, hk⟩; replace HK := ak (A0f.trans (kk HK) hk (.inl rfl)); replace HB := ak (hb); replace aj := ak (hi); ))
    go_meet
    case rel => exact ⟨_, (decide (a1 > az)), (a2), (a3), (a4), kE, H', ⟨by first | omega | exact Nat.le_refl _⟩, ⟨(A0b.k aj)⟩, ⟨(kk HK)⟩, ⟨(A0b.kl HB)⟩⟩
 case rest =>
  clear aI; obtain ⟨kq, ap, ae, af, ag, rfl, HA, bc, aj, HK, HB⟩ := hcut
  cases kq with
  | zero => exact absurd HA.out (by simp [A0j.j0])
  | succ aK =>
   have H := HA.out; clear HA; simp only [A0j.j0] at H
   by_cases c8 : ap = true
   ·subst c8
    rw [if_pos rfl] at H; simp only [Option.some.injEq, Prod.mk.injEq] at H; obtain ⟨rfl, rfl, rfl, rfl, rfl⟩ := H
    go_wp2
    go_ret2
    exact ⟨kF, (A0b.k aj), (A0b.kl HB), (kk HK)⟩
   ·replace c8 := Bool.eq_false_iff.mpr c8; subst c8
    rw [if_neg (show ¬ (false = true) by decide)] at H
    by_cases c9 : a1 ≤ 56
    ·rw [if_pos c9] at H; have aL := decide_eq_true c9; clear c9; replace H := bkH H; obtain ⟨⟨aM, a5, a6, a7⟩, ba, H⟩ := H; (try dsimp only at H); replace H := bkH H; obtain ⟨⟨aN, aO, aP⟩, bb, H⟩ := H; (try dsimp only at H); simp only [Option.some.injEq, Prod.mk.injEq] at H; obtain ⟨rfl, rfl, rfl, rfl, rfl⟩ := H
     go_wp2_with (first | ((with_reducible refine A0m (f := 100) rfl ?_); refine A07 (some 25) rfl rfl Tryd.func100 (by kernel_rfl) rfl #[.pointer (some ⟨g, 0, none⟩), .int .i64 a1] rfl km ?_; (with_reducible refine (A03.calls aK g ae af ag a1 aM a5 a6 a7 w0 _ ?aa ?ac ba.out).mono ?_); (case aa => exact A0b.k aj); (case ac => exact A0b.kl HB); rintro e be ⟨rfl, hi, hb, hk⟩; refine ⟨_, rfl, ?_⟩; replace HK := ak (A0f.trans (kk HK) hk (.inl rfl)); replace HB := ak (hb); replace aj := ak (hi); ) | ((with_reducible refine A0m (f := 116) rfl ?_); refine A07 (some 28) rfl rfl Tryd.func116 (by kernel_rfl) rfl #[.pointer (some ⟨g, 0, none⟩), .int .i64 a1] rfl km ?_; (with_reducible refine (A1n.calls g a5 a6 a7 a1 aN aO aP w0 _ ?aa ?ac bb.out).mono ?_); (case aa => exact A0b.k aj); (case ac => exact A0b.kl HB); rintro e bf ⟨rfl, hi, hb, hk⟩; refine ⟨_, rfl, ?_⟩; replace HK := ak (A0f.trans (kk HK) hk (.inl rfl)); replace HB := ak (hb); replace aj := ak (hi); ))
     go_ret2
     exact ⟨kF, (A0b.k aj), (A0b.kl HB), (kk HK)⟩
    ·rw [if_neg c9] at H; have aL := decide_eq_false c9; clear c9; replace H := bkH H; obtain ⟨⟨ar, a8, a9, aA⟩, aQ, H⟩ := H; (try dsimp only at H); replace H := bkH H; obtain ⟨⟨aB, aC, aD⟩, aR, H⟩ := H; (try dsimp only at H); replace H := bkH H; obtain ⟨⟨au, aE, aF, aG⟩, aS, H⟩ := H; (try dsimp only at H); replace H := bkH H; obtain ⟨⟨av, aw, ax⟩, aT, H⟩ := H; (try dsimp only at H); obtain ⟨ai, ad⟩ : ∃ j_ : Int, (wrap64 (a1 - 32)) = j_ := ⟨_, rfl⟩
     replace H : (if 0 ≤ (ai) then (some (Go.bits .or .u64 (shl .u64 ar (ai)) au, true, av, aw, ax)) else (none)) = some (r1, r2, r3, r4, r5) := by first | (rw [ad] at H; exact H) | (simp only [ad] at H ⊢; exact H)
     (try rw [ad] at aQ); (try rw [ad] at aR); (try rw [ad] at aS); (try rw [ad] at aT); have aU : (IntKind.i64.wrap (a1 - 32)) = ai := (A2b _).trans ad
     by_cases aH : 0 ≤ (ai)
     ·rw [if_pos aH] at H; have aX := eq_true aH; have aY := decide_eq_true aH; clear aH; obtain ⟨ay, ah⟩ : ∃ j_ : Int, (shl .u64 ar (ai)) = j_ := ⟨_, rfl⟩
      replace H : (some (Go.bits .or .u64 (ay) au, true, av, aw, ax)) = some (r1, r2, r3, r4, r5) := by first | (rw [ah] at H; exact H) | (simp only [ah] at H ⊢; exact H)
      (try rw [ah] at aQ); (try rw [ah] at aR); (try rw [ah] at aS); (try rw [ah] at aT); have aV : (IntKind.u64.wrap (ar * 2 ^ min (ai).toNat 64)) = ay := ah; have aW : (ai) ≤ 64 → (IntKind.u64.wrap (ar * 2 ^ (ai).toNat)) = ay := A3i ah; simp only [Option.some.injEq, Prod.mk.injEq] at H; obtain ⟨rfl, rfl, rfl, rfl, rfl⟩ := H
      go_wp2_with (first | ((with_reducible refine A0m (f := 100) rfl ?_); refine A07 (some 31) rfl rfl Tryd.func100 (by kernel_rfl) rfl #[.pointer (some ⟨g, 0, none⟩), .int .i64 32] rfl km ?_; (with_reducible refine (A03.calls aK g ae af ag 32 ar a8 a9 aA w0 _ ?aa ?ac aQ.out).mono ?_); (case aa => exact A0b.k aj); (case ac => exact A0b.kl HB); rintro e bg ⟨rfl, hi, hb, hk⟩; refine ⟨_, rfl, ?_⟩; replace HK := ak (A0f.trans (kk HK) hk (.inl rfl)); replace HB := ak (hb); replace aj := ak (hi); ) | ((with_reducible refine A0m (f := 116) rfl ?_); refine A07 (some 33) rfl rfl Tryd.func116 (by kernel_rfl) rfl #[.pointer (some ⟨g, 0, none⟩), .int .i64 32] rfl km ?_; (with_reducible refine (A1n.calls g a8 a9 aA 32 aB aC aD w0 _ ?aa ?ac aR.out).mono ?_); (case aa => exact A0b.k aj); (case ac => exact A0b.kl HB); rintro e bh ⟨rfl, hi, hb, hk⟩; refine ⟨_, rfl, ?_⟩; replace HK := ak (A0f.trans (kk HK) hk (.inl rfl)); replace HB := ak (hb); replace aj := ak (hi); ) | ((with_reducible refine A0m (f := 100) rfl ?_); refine A07 (some 37) rfl rfl Tryd.func100 (by kernel_rfl) rfl #[.pointer (some ⟨g, 0, none⟩), .int .i64 ai] rfl (by (try simp only [List.map_toArray, List.map_cons, List.map_nil]); first | done | (simp only [ad]; rfl) | rfl | (simp only [List.length_drop, List.length_take]; rfl)) ?_; (with_reducible refine (A03.calls aK g aB aC aD ai au aE aF aG w0 _ ?aa ?ac aS.out).mono ?_); (case aa => exact A0b.k aj); (case ac => exact A0b.kl HB); rintro e bi ⟨rfl, hi, hb, hk⟩; refine ⟨_, rfl, ?_⟩; replace HK := ak (A0f.trans (kk HK) hk (.inl rfl)); replace HB := ak (hb); replace aj := ak (hi); ) | ((with_reducible refine A0m (f := 116) rfl ?_); refine A07 (some 41) rfl rfl Tryd.func116 (by kernel_rfl) rfl #[.pointer (some ⟨g, 0, none⟩), .int .i64 ai] rfl (by (try simp only [List.map_toArray, List.map_cons, List.map_nil]); first | done | (simp only [ad]; rfl) | rfl | (simp only [List.length_drop, List.length_take]; rfl)) ?_; (with_reducible refine (A1n.calls g aE aF aG ai av aw ax w0 _ ?aa ?ac aT.out).mono ?_); (case aa => exact A0b.k aj); (case ac => exact A0b.kl HB); rintro e bj ⟨rfl, hi, hb, hk⟩; refine ⟨_, rfl, ?_⟩; replace HK := ak (A0f.trans (kk HK) hk (.inl rfl)); replace HB := ak (hb); replace aj := ak (hi); ))
      go_ret2
      exact ⟨by first | rfl | (simp [A0k, A0l] <;> rfl) | (simp only [← ad, ← ah]; first | rfl | (simp [A0k, A0l] <;> rfl)) | (simp [*, A0k, A0l] <;> rfl), (A0b.k aj), (A0b.kl HB), (kk HK)⟩
     ·rw [if_neg aH] at H
      exact absurd H (by simp)
end Go.Proofs.YtodocfjbpkicgaaDoor.All
end
