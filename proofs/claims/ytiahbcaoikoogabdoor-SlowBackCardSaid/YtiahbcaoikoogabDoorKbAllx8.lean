-- declarations that this claim needs, copied by a program of the session
import Derived.Test.YtiahbcaoikoogabDoorKbAllx2
namespace Go.Proofs.YtiahbcaoikoogabDoor.All
open Go.RowKit Go.Proofs.YtiahbcaoikoogabDoorW.PrintWords Go.Proofs.YtiahbcaoikoogabDoorW.PrintLast Go.Proofs.YtiahbcaoikoogabDoorW.PrintMore
attribute [local go_sem] max2_int min2_int max_two min_two max_three min_three max_four min_four   
set_option linter.unusedVariables false
set_option linter.unusedSimpArgs false
def xor_Get_1.f (a0 : Int) : Option (Int × Int × Int × Int × Int × Option Int) := some (0, 0, 0, 0, 0, some a0)
set_option maxHeartbeats 8000000 in
set_option maxRecDepth 100000 in
theorem xor_Get_1.calls (a0 : Int) (r1 : Int) (r2 : Int) (r3 : Int) (r4 : Int) (r5 : Int) (r6 : Option Int) (w : World) (h : xor_Get_1.f a0 = some (r1, r2, r3, r4, r5, r6)) :
  Calls Tryd.prog 61 #[.int .i64 a0] w fun e w' => e = .returned (.tuple #[.int .u64 r1, .agg #[.int .u64 r2, .int .i64 r3, .int .i64 r4], .int .i64 r5, errW r6]) ∧ Below w.heap.size w w' := by
 have hu42 := Tryd.underlying42; have hu27 := Tryd.underlying27; have hu54 := Tryd.underlying54; have HB := Aside0.mk (Below.refl w.heap.size w); have H : (some (0, 0, 0, 0, 0, some a0)) = some (r1, r2, r3, r4, r5, r6) := h; clear h; simp only [Option.some.injEq, Prod.mk.injEq] at H; obtain ⟨rfl, rfl, rfl, rfl, rfl, rfl⟩ := H
 go_enter Tryd.func61, Tryd.ntmps61
 go_wp2_with (first | ((with_reducible refine gate_dst (N := 3) rfl ?_); refine box_event ?hg (N := 3) ?hd (cs := #[.int .u64 0, .int .i64 0, .int .i64 0]) (t := 42) ?hr ?_; (case hd => rfl); (case hg => rfl); (case hr => first | (go_simp; done) | (go_simp; rfl)); intro gb164 hg w2 hbox hb; have BK164 := Aside0.mk (hbox); have GW164 := kG hg HB; have GE164 := kG hg HB; replace HB := kH HB hb; clear hb hbox hg; have hcz3_0 : w2.cell? ⟨gb164, 0, none⟩ = some (.int .u64 0) := (blk_cell BK164.out 0).trans rfl; have hcz3_1 : w2.cell? ⟨gb164, 1, none⟩ = some (.int .i64 0) := (blk_cell BK164.out 1).trans rfl; have hcz3_2 : w2.cell? ⟨gb164, 2, none⟩ = some (.int .i64 0) := (blk_cell BK164.out 2).trans rfl; have hfz3_0 := blk_frozen BK164.out 0; have hfz3_1 := blk_frozen BK164.out 1; have hfz3_2 := blk_frozen BK164.out 2))
 refine bodyPost_ret (results_list (rs := [.tmp 2, .cell 3 42, .tmp 4, .tmp 5]) rfl (by simp) (.tmp (.cell gb164 42 #[.int .u64 0, .int .i64 0, .int .i64 0] (0, 0) _ rfl (kb BK164) Tryd.underlying42 rfl (by kernel_rfl) (.tmp (.tmp .nil))))) rfl ?_
 exact ⟨by first | rfl | (simp [errW_none, errW_some] <;> rfl) | (simp [*, errW_none, errW_some] <;> rfl), (kl HB)⟩
def IsS121 (w0 W : World) (g : Nat) (f0 : List Int) (f1 : Int) (f2 : Bool) : Prop := ∃ A0 c0, W.heap[g]? = some (.cells #[.slice A0 f0.length c0, .int .i64 f1, .bool f2] 121 (0, 0)) ∧ w0.heap.size ≤ g ∧ Kd.C (Kd.int .u8) w0 A0 f0.length f0 ∧ f0.length ≤ c0
theorem IsS121.grown {w0 W : World} {g : Nat} {f0 : List Int} {f1 : Int} {f2 : Bool} {W1 : World} {row : Option Nat} (h : IsS121 w0 W g f0 f1 f2) (hw : W.grownBy W1 row) (hne : some g ≠ row) : IsS121 w0 W1 g f0 f1 f2 := by
 obtain ⟨A0, c0, hb, hg, hr0, hl0⟩ := h
 exact ⟨A0, c0, blk_grown hb hw hne, hg, hr0, hl0⟩
theorem IsS121.kept {w0 W : World} {g : Nat} {f0 : List Int} {f1 : Int} {f2 : Bool} {W1 : World} {S : Nat → Prop} (h : IsS121 w0 W g f0 f1 f2) (hk : Kept W W1 S) (hne : ¬ S g) : IsS121 w0 W1 g f0 f1 f2 := by
 obtain ⟨A0, c0, hb, hg, hr0, hl0⟩ := h
 exact ⟨A0, c0, blk_kept hb hk hne, hg, hr0, hl0⟩
theorem IsS121.below {w0 W : World} {g : Nat} {f0 : List Int} {f1 : Int} {f2 : Bool} {W1 : World} (h : IsS121 w0 W g f0 f1 f2) (hw : Below W.heap.size W W1) : IsS121 w0 W1 g f0 f1 f2 := h.grown (grown_of_below hw none) (by simp)
theorem IsS121.alloc {w0 W : World} {g : Nat} {f0 : List Int} {f1 : Int} {f2 : Bool} (h : IsS121 w0 W g f0 f1 f2) (o : Obj) : IsS121 w0 (W.alloc o) g f0 f1 f2 := h.below (below_alloc (Below.refl _ _) o)
theorem IsS121.drewN {w0 W : World} {g : Nat} {f0 : List Int} {f1 : Int} {f2 : Bool} (h : IsS121 w0 W g f0 f1 f2) (m : Nat) : IsS121 w0 (W.drewN m) g f0 f1 f2 := h
theorem IsS121.drew {w0 W : World} {g : Nat} {f0 : List Int} {f1 : Int} {f2 : Bool} (h : IsS121 w0 W g f0 f1 f2) : IsS121 w0 W.drew g f0 f1 f2 := h
theorem IsS121.at_ {w0 W : World} {g : Nat} {f0 : List Int} {f1 : Int} {f2 : Bool} {w' : World} {m : Nat} (hq : W.drewN m = w') (h : IsS121 w0 W g f0 f1 f2) : IsS121 w0 w' g f0 f1 f2 := by subst hq; exact IsS121.drewN h m
theorem IsS121.apart {w0 W : World} {g : Nat} {f0 : List Int} {f1 : Int} {f2 : Bool} {α : Type} {d : Kd α} {e : Nat} {base : Nat} {ok : Nat → Prop} {v : Value} {xs : List α} (h : IsS121 w0 W g f0 f1 f2) (ho : d.R e W base ok v xs) (ht : ∀ q, q ∈ e :: d.E → q ≠ 121) : d.R e W base (fun k => ok k ∧ k ≠ g) v xs := by
 obtain ⟨A0, c0, hb, hg, hr0, hl0⟩ := h
 exact Kd.R_types ho hb ht
theorem IsS121.own_ne {w0 W : World} {g : Nat} {f0 : List Int} {f1 : Int} {f2 : Bool} {α : Type} {d : Kd α} {e : Nat} {base : Nat} {ok : Nat → Prop} {v : Value} {xs : List α} (h : IsS121 w0 W g f0 f1 f2) (ho : d.R e W base ok v xs) (ht : e ≠ 121) : some g ≠ v.ownBlock := by
 obtain ⟨A0, c0, hb, hg, hr0, hl0⟩ := h
 exact Kd.R_ne ho hb ht
theorem IsS121.lt {w0 W : World} {g : Nat} {f0 : List Int} {f1 : Int} {f2 : Bool} (h : IsS121 w0 W g f0 f1 f2) : g < W.heap.size := by
 obtain ⟨A0, c0, hb, hg, hr0, hl0⟩ := h
 exact blk_lt hb
theorem IsS121.ge {w0 W : World} {g : Nat} {f0 : List Int} {f1 : Int} {f2 : Bool} (h : IsS121 w0 W g f0 f1 f2) : w0.heap.size ≤ g := by
 obtain ⟨A0, c0, hb, hg, hr0, hl0⟩ := h
 exact hg
theorem IsS121.far {w0 W : World} {g : Nat} {f0 : List Int} {f1 : Int} {f2 : Bool} {p : Addr} (h : IsS121 w0 W g f0 f1 f2) (hne : g ≠ p.block) (u : Value) : IsS121 w0 (W.setCell p u) g f0 f1 f2 := by
 obtain ⟨A0, c0, hb, hg, hr0, hl0⟩ := h
 exact ⟨A0, c0, blk_far hb hne u, hg, hr0, hl0⟩
theorem cellS121_0 {W : World} {g : Nat} {A0 : Option Addr} {c0 : Nat} {f0 : List Int} {f1 : Int} {f2 : Bool} (h : W.heap[g]? = some (.cells #[.slice A0 f0.length c0, .int .i64 f1, .bool f2] 121 (0, 0))) : W.cell? ⟨g, 0, none⟩ = some (.slice A0 f0.length c0) := (blk_cell h 0).trans rfl
theorem cellS121_1 {W : World} {g : Nat} {A0 : Option Addr} {c0 : Nat} {f0 : List Int} {f1 : Int} {f2 : Bool} (h : W.heap[g]? = some (.cells #[.slice A0 f0.length c0, .int .i64 f1, .bool f2] 121 (0, 0))) : W.cell? ⟨g, 1, none⟩ = some (.int .i64 f1) := (blk_cell h 1).trans rfl
theorem IsS121.set_1 {w0 W : World} {g : Nat} {f0 : List Int} {f1 : Int} {f2 : Bool} (h : IsS121 w0 W g f0 f1 f2) (x : Int) : IsS121 w0 (W.setCell ⟨g, 1, none⟩ (.int .i64 x)) g f0 x f2 := by
 obtain ⟨A0, c0, hb, hg, hr0, hl0⟩ := h
 exact ⟨A0, c0, by simpa using blk_set hb 1 (.int .i64 x), hg, hr0, hl0⟩
theorem cellS121_2 {W : World} {g : Nat} {A0 : Option Addr} {c0 : Nat} {f0 : List Int} {f1 : Int} {f2 : Bool} (h : W.heap[g]? = some (.cells #[.slice A0 f0.length c0, .int .i64 f1, .bool f2] 121 (0, 0))) : W.cell? ⟨g, 2, none⟩ = some (.bool f2) := (blk_cell h 2).trans rfl
theorem IsS121.set_2 {w0 W : World} {g : Nat} {f0 : List Int} {f1 : Int} {f2 : Bool} (h : IsS121 w0 W g f0 f1 f2) (x : Bool) : IsS121 w0 (W.setCell ⟨g, 2, none⟩ (.bool x)) g f0 f1 x := by
 obtain ⟨A0, c0, hb, hg, hr0, hl0⟩ := h
 exact ⟨A0, c0, by simpa using blk_set hb 2 (.bool x), hg, hr0, hl0⟩
theorem IsS121.farA {w0 W : World} {g g' j : Nat} {u : Value} {f0 : List Int} {f1 : Int} {f2 : Bool} (h : IsS121 w0 W g f0 f1 f2) (hne : Aside0 (g ≠ g')) : IsS121 w0 (W.setCell ⟨g', j, none⟩ u) g f0 f1 f2 := h.far (by exact hne.out) u
theorem IsS121.k {w0 W W' : World} {g : Nat} {f0 f0' : List Int} {f1 f1' : Int} {f2 f2' : Bool} (h : Aside0 (IsS121 w0 W g f0 f1 f2)) (hh : IsS121 w0 W g f0 f1 f2 → IsS121 w0 W' g f0' f1' f2' := by (intro h0_; repeat (first | (with_reducible first | exact h0_ | apply IsS121.alloc | apply IsS121.drewN | apply IsS121.drew | apply IsS121.set_1 | apply IsS121.set_2 | refine IsS121.farA ?_ (by assumption)) | exact h0_))) : IsS121 w0 W' g f0' f1' f2' := hh h.out
theorem IsS121.kl {w W W' : World} (h : Aside0 (Below w.heap.size w W)) (hh : Below w.heap.size w W → Below w.heap.size w W' := by (intro h0_; repeat (first | (with_reducible first | exact h0_ | apply below_alloc | apply pw_below_drewN | apply below_drew1 | refine below_set ?_ (IsS121.ge (Aside0.out (by assumption))) | refine below_set ?_ (Aside0.out (by assumption))) | exact h0_))) : Below w.heap.size w W' := hh h.out
def xor_reader_take.f (k : Nat) (s0_0 : List Int) (s0_1 : Int) (s0_2 : Bool) (a1 : Int) : Option (Int × List Int × Int × Bool) := (bits_Take.f k s0_0 s0_1 a1).bind fun bt165 => (if s0_2 = true then (some (bt165.1, s0_0, wrap64 (s0_1 + a1), bt165.2)) else (some (bt165.1, s0_0, wrap64 (s0_1 + a1), false)))
theorem xor_reader_take.mono : ∀ a0 a1 a2 a3 k, LeO (xor_reader_take.f k a0 a1 a2 a3) (xor_reader_take.f (k + 1) a0 a1 a2 a3) := by
 intro a0 a1 a2 a3 k
 unfold xor_reader_take.f
 repeat' first
   | (with_reducible exact bits_Take.mono _ _ _ _)
   | (with_reducible exact LeO.refl _)
   | (with_reducible exact LeO.none _)
   | (with_reducible refine LeO.ite ?_ ?_)
   | (with_reducible refine LeO.bind ?_ (fun _ => ?_))
   | exact bits_Take.mono _ _ _ _
   | exact LeO.none _
   | refine LeO.ite ?_ ?_
   | refine LeO.bind ?_ (fun _ => ?_)
set_option maxHeartbeats 8000000 in
set_option maxRecDepth 100000 in
theorem xor_reader_take.calls (k : Nat) (g : Nat) (s0_0 : List Int) (s0_1 : Int) (s0_2 : Bool) (a1 : Int) (r1 : Int) (r2 : List Int) (r3 : Int) (r4 : Bool) (w0 w : World) (hI : IsS121 w0 w g s0_0 s0_1 s0_2) (hB : Below w0.heap.size w0 w) (h : xor_reader_take.f k s0_0 s0_1 s0_2 a1 = some (r1, r2, r3, r4)) :
  Calls Tryd.prog 62 #[.pointer (some ⟨g, 0, none⟩), .int .i64 a1] w fun e w' => e = .returned (.int .u64 r1) ∧ IsS121 w0 w' g r2 r3 r4 ∧ Below w0.heap.size w0 w' ∧ KeepBut w w' g none := by
 have HI0 := Aside0.mk hI; have HK := Aside0.mk (KeepBut.refl w g none); have HL := Aside0.mk hB.size; clear hI; have HW0 := Aside0.mk hB.size; have HB := Aside0.mk hB; clear hB; have H : ((bits_Take.f k s0_0 s0_1 a1).bind fun bt165 => (if s0_2 = true then (some (bt165.1, s0_0, wrap64 (s0_1 + a1), bt165.2)) else (some (bt165.1, s0_0, wrap64 (s0_1 + a1), false)))) = some (r1, r2, r3, r4) := h; clear h; replace H := Option.bind_eq_some_iff.mp H; obtain ⟨⟨t165, t166⟩, A30, H⟩ := H; replace H : (if s0_2 = true then (some (t165, s0_0, wrap64 (s0_1 + a1), t166)) else (some (t165, s0_0, wrap64 (s0_1 + a1), false))) = some (r1, r2, r3, r4) := H; have A3 := Aside0.mk A30; clear A30
 by_cases c4 : s0_2 = true
 ·subst c4
  have H1 : (some (t165, s0_0, wrap64 (s0_1 + a1), t166)) = some (r1, r2, r3, r4) := by rw [if_pos rfl] at H; exact H
  clear H; have H := H1; clear H1; simp only [Option.some.injEq, Prod.mk.injEq] at H; obtain ⟨rfl, rfl, rfl, rfl⟩ := H; obtain ⟨ASz5_0, cSz5_0, HGz5, hgz5, HSz5_0, HLSz5_0⟩ := HI0.out; have hcz5_0 := cellS121_0 HGz5; have hcz5_1 := cellS121_1 HGz5; have hcz5_2 := cellS121_2 HGz5; have hfz5_0 := blk_frozen HGz5 0; have hfz5_1 := blk_frozen HGz5 1; have hfz5_2 := blk_frozen HGz5 2; clear HGz5 hgz5
  go_enter Tryd.func62, Tryd.ntmps62
  go_wp2_with (first | (go_at_call 24; (with_reducible refine (bits_Take.calls k _ _ s0_0 s0_1 a1 t165 t166 _ ?side1 ?side2 A3.out).mono ?_); (case side1 => exact Kd.C_below HSz5_0 (IsS121.kl HB)); (case side2 => exact HLSz5_0); rintro e w' ⟨rfl, ⟨nd, rfl⟩⟩; (try first | exact ⟨rfl, _, World.drewN_drewN _ _ _⟩ | exact ⟨rfl, _, Eq.trans (World.drewN_drewN _ _ _) (congrArg (World.drewN _) (Nat.add_assoc _ _ _))⟩)))
  repeat (go_quiet (first | (go_at_call 24; (with_reducible refine (bits_Take.calls k _ _ s0_0 s0_1 a1 t165 t166 _ ?side1 ?side2 A3.out).mono ?_); (case side1 => exact Kd.C_below HSz5_0 (IsS121.kl HB)); (case side2 => exact HLSz5_0); rintro e w' ⟨rfl, ⟨nd, rfl⟩⟩; (try first | exact ⟨rfl, _, World.drewN_drewN _ _ _⟩ | exact ⟨rfl, _, Eq.trans (World.drewN_drewN _ _ _) (congrArg (World.drewN _) (Nat.add_assoc _ _ _))⟩))); try go_wp2_with (first | (go_at_call 24; (with_reducible refine (bits_Take.calls k _ _ s0_0 s0_1 a1 t165 t166 _ ?side1 ?side2 A3.out).mono ?_); (case side1 => exact Kd.C_below HSz5_0 (IsS121.kl HB)); (case side2 => exact HLSz5_0); rintro e w' ⟨rfl, ⟨nd, rfl⟩⟩; (try first | exact ⟨rfl, _, World.drewN_drewN _ _ _⟩ | exact ⟨rfl, _, Eq.trans (World.drewN_drewN _ _ _) (congrArg (World.drewN _) (Nat.add_assoc _ _ _))⟩))))
  go_ret
  exact ⟨by first | rfl | (simp [errW_none, errW_some] <;> rfl) | (simp [*, errW_none, errW_some] <;> rfl), (IsS121.k HI0), (IsS121.kl HB), (kk HK)⟩
 ·replace c4 := Bool.eq_false_iff.mpr c4; subst c4
  have H1 : (some (t165, s0_0, wrap64 (s0_1 + a1), false)) = some (r1, r2, r3, r4) := by rw [if_neg (show ¬ (false = true) by decide)] at H; exact H
  clear H; have H := H1; clear H1; simp only [Option.some.injEq, Prod.mk.injEq] at H; obtain ⟨rfl, rfl, rfl, rfl⟩ := H; obtain ⟨ASz6_0, cSz6_0, HGz6, hgz6, HSz6_0, HLSz6_0⟩ := HI0.out; have hcz6_0 := cellS121_0 HGz6; have hcz6_1 := cellS121_1 HGz6; have hcz6_2 := cellS121_2 HGz6; have hfz6_0 := blk_frozen HGz6 0; have hfz6_1 := blk_frozen HGz6 1; have hfz6_2 := blk_frozen HGz6 2; clear HGz6 hgz6
  go_enter Tryd.func62, Tryd.ntmps62
  go_wp2_with (first | (go_at_call 24; (with_reducible refine (bits_Take.calls k _ _ s0_0 s0_1 a1 t165 t166 _ ?side1 ?side2 A3.out).mono ?_); (case side1 => exact Kd.C_below HSz6_0 (IsS121.kl HB)); (case side2 => exact HLSz6_0); rintro e w' ⟨rfl, ⟨nd, rfl⟩⟩; (try first | exact ⟨rfl, _, World.drewN_drewN _ _ _⟩ | exact ⟨rfl, _, Eq.trans (World.drewN_drewN _ _ _) (congrArg (World.drewN _) (Nat.add_assoc _ _ _))⟩)))
  repeat (go_quiet (first | (go_at_call 24; (with_reducible refine (bits_Take.calls k _ _ s0_0 s0_1 a1 t165 t166 _ ?side1 ?side2 A3.out).mono ?_); (case side1 => exact Kd.C_below HSz6_0 (IsS121.kl HB)); (case side2 => exact HLSz6_0); rintro e w' ⟨rfl, ⟨nd, rfl⟩⟩; (try first | exact ⟨rfl, _, World.drewN_drewN _ _ _⟩ | exact ⟨rfl, _, Eq.trans (World.drewN_drewN _ _ _) (congrArg (World.drewN _) (Nat.add_assoc _ _ _))⟩))); try go_wp2_with (first | (go_at_call 24; (with_reducible refine (bits_Take.calls k _ _ s0_0 s0_1 a1 t165 t166 _ ?side1 ?side2 A3.out).mono ?_); (case side1 => exact Kd.C_below HSz6_0 (IsS121.kl HB)); (case side2 => exact HLSz6_0); rintro e w' ⟨rfl, ⟨nd, rfl⟩⟩; (try first | exact ⟨rfl, _, World.drewN_drewN _ _ _⟩ | exact ⟨rfl, _, Eq.trans (World.drewN_drewN _ _ _) (congrArg (World.drewN _) (Nat.add_assoc _ _ _))⟩))))
  go_ret
  exact ⟨by first | rfl | (simp [errW_none, errW_some] <;> rfl) | (simp [*, errW_none, errW_some] <;> rfl), (IsS121.k HI0), (IsS121.kl HB), (kk HK)⟩
end Go.Proofs.YtiahbcaoikoogabDoor.All
