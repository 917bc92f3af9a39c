-- copied by a program of the session
import Derived.Test.YtiahbcaoikoogaaDoorKtAllx33
namespace Go.Proofs.YtiahbcaoikoogaaDoor.All
open Go.RowKit Go.Proofs.YtiahbcaoikoogaaDoorW.PrintWords Go.Proofs.YtiahbcaoikoogaaDoorW.PrintLast Go.Proofs.YtiahbcaoikoogaaDoorW.PrintMore
attribute [local go_sem] A2f A2g A2w A2x A18 A19 A2h A2i
set_option linter.unusedVariables false
set_option linter.unusedSimpArgs false
def A22.f (a0 : Int) : Option (Int × Int × Int × Int × Int × Option Int) := some (0, 0, 0, 0, 0, some a0)
set_option maxHeartbeats 8000000 in
set_option maxRecDepth 100000 in
theorem A22.calls (a0 : Int) (r1 : Int) (r2 : Int) (r3 : Int) (r4 : Int) (r5 : Int) (r6 : Option Int) (w : World) (h : A22.f a0 = some (r1, r2, r3, r4, r5, r6)) :
  Calls Tryd.prog 47 #[.int .i64 a0] w fun e w' => e = .returned (.tuple #[.int .u64 r1, .agg #[.int .u64 r2, .int .i64 r3, .int .i64 r4], .int .i64 r5, errW r6]) ∧ Below w.heap.size w w' := by
 have hu24 := Tryd.underlying24; have hu37 := Tryd.underlying37; have hu95 := Tryd.underlying95; have HB := ak (Below.refl w.heap.size w); have H : (some (0, 0, 0, 0, 0, some a0)) = some (r1, r2, r3, r4, r5, r6) := h; clear h; simp only [Option.some.injEq, Prod.mk.injEq] at H; obtain ⟨rfl, rfl, rfl, rfl, rfl, rfl⟩ := H
 go_enter Tryd.func47, Tryd.ntmps47
 go_wp2_with (first | ((with_reducible refine A0q (N := 3) rfl ?_); refine bxe 3 #[.int .u64 0, .int .i64 0, .int .i64 0] 24 (h := ?_); intro ac hg w2 hbox hb; have aa := ak (hbox); have aj := kG hg HB; have al := kG hg HB; replace HB := kH HB hb; clear hb hbox hg; obtain ⟨ad, ae, af⟩ := kc3 aa; obtain ⟨ag, ah, ai⟩ := kf3 aa))
 refine bodyPost_ret (A07 (rs := [.tmp 2, .cell 3 24, .tmp 4, .tmp 5]) rfl (by simp) (.tmp (.cell ac 24 #[.int .u64 0, .int .i64 0, .int .i64 0] (0, 0) _ rfl (kb aa) Tryd.underlying24 rfl (by kernel_rfl) (.tmp (.tmp .nil))))) rfl ?_
 exact ⟨kF, (kl HB)⟩
def A0r (w0 W : World) (g : Nat) (f0 : List Int) (f1 : Int) (f2 : Bool) : Prop := ∃ A0 c0, W.heap[g]? = some (.cells #[.slice A0 f0.length c0, .int .i64 f1, .bool f2] 99 (0, 0)) ∧ w0.heap.size ≤ g ∧ Kd.C (Kd.int .u8) w0 A0 f0.length f0 ∧ f0.length ≤ c0
theorem A0r.grown {w0 W : World} {g : Nat} {f0 : List Int} {f1 : Int} {f2 : Bool} {W1 : World} {row : Option Nat} (h : A0r w0 W g f0 f1 f2) (hw : W.grownBy W1 row) (hne : some g ≠ row) : A0r w0 W1 g f0 f1 f2 := by
 obtain ⟨A0, c0, hb, hg, hr0, hl0⟩ := h
 exact ⟨A0, c0, A1x hb hw hne, hg, hr0, hl0⟩
theorem A0r.kept {w0 W : World} {g : Nat} {f0 : List Int} {f1 : Int} {f2 : Bool} {W1 : World} {S : Nat → Prop} (h : A0r w0 W g f0 f1 f2) (hk : Kept W W1 S) (hne : ¬ S g) : A0r w0 W1 g f0 f1 f2 := by
 obtain ⟨A0, c0, hb, hg, hr0, hl0⟩ := h
 exact ⟨A0, c0, blk_kept hb hk hne, hg, hr0, hl0⟩
theorem A0r.below {w0 W : World} {g : Nat} {f0 : List Int} {f1 : Int} {f2 : Bool} {W1 : World} (h : A0r w0 W g f0 f1 f2) (hw : Below W.heap.size W W1) : A0r w0 W1 g f0 f1 f2 := h.grown (grown_of_below hw none) (by simp)
theorem A0r.alloc {w0 W : World} {g : Nat} {f0 : List Int} {f1 : Int} {f2 : Bool} (h : A0r w0 W g f0 f1 f2) (o : Obj) : A0r w0 (W.alloc o) g f0 f1 f2 := h.below (A0x (Below.refl _ _) o)
theorem A0r.drewN {w0 W : World} {g : Nat} {f0 : List Int} {f1 : Int} {f2 : Bool} (h : A0r w0 W g f0 f1 f2) (m : Nat) : A0r w0 (W.drewN m) g f0 f1 f2 := h
theorem A0r.drew {w0 W : World} {g : Nat} {f0 : List Int} {f1 : Int} {f2 : Bool} (h : A0r w0 W g f0 f1 f2) : A0r w0 W.drew g f0 f1 f2 := h
theorem A0r.at_ {w0 W : World} {g : Nat} {f0 : List Int} {f1 : Int} {f2 : Bool} {w' : World} {m : Nat} (hq : W.drewN m = w') (h : A0r w0 W g f0 f1 f2) : A0r w0 w' g f0 f1 f2 := by subst hq; exact A0r.drewN h m
theorem A0r.apart {w0 W : World} {g : Nat} {f0 : List Int} {f1 : Int} {f2 : Bool} {α : Type} {d : Kd α} {e : Nat} {base : Nat} {ok : Nat → Prop} {v : Value} {xs : List α} (h : A0r w0 W g f0 f1 f2) (ho : d.R e W base ok v xs) (ht : ∀ q, q ∈ e :: d.E → q ≠ 99) : d.R e W base (fun k => ok k ∧ k ≠ g) v xs := by
 obtain ⟨A0, c0, hb, hg, hr0, hl0⟩ := h
 exact Kd.A1a ho hb ht
theorem A0r.own_ne {w0 W : World} {g : Nat} {f0 : List Int} {f1 : Int} {f2 : Bool} {α : Type} {d : Kd α} {e : Nat} {base : Nat} {ok : Nat → Prop} {v : Value} {xs : List α} (h : A0r w0 W g f0 f1 f2) (ho : d.R e W base ok v xs) (ht : e ≠ 99) : some g ≠ v.ownBlock := by
 obtain ⟨A0, c0, hb, hg, hr0, hl0⟩ := h
 exact Kd.R_ne ho hb ht
theorem A0r.lt {w0 W : World} {g : Nat} {f0 : List Int} {f1 : Int} {f2 : Bool} (h : A0r w0 W g f0 f1 f2) : g < W.heap.size := by
 obtain ⟨A0, c0, hb, hg, hr0, hl0⟩ := h
 exact blk_lt hb
theorem A0r.ge {w0 W : World} {g : Nat} {f0 : List Int} {f1 : Int} {f2 : Bool} (h : A0r w0 W g f0 f1 f2) : w0.heap.size ≤ g := by
 obtain ⟨A0, c0, hb, hg, hr0, hl0⟩ := h
 exact hg
theorem A0r.far {w0 W : World} {g : Nat} {f0 : List Int} {f1 : Int} {f2 : Bool} {p : Addr} (h : A0r w0 W g f0 f1 f2) (hne : g ≠ p.block) (u : Value) : A0r w0 (W.setCell p u) g f0 f1 f2 := by
 obtain ⟨A0, c0, hb, hg, hr0, hl0⟩ := h
 exact ⟨A0, c0, blk_far hb hne u, hg, hr0, hl0⟩
theorem A3u {W : World} {g : Nat} {A0 : Option Addr} {c0 : Nat} {f0 : List Int} {f1 : Int} {f2 : Bool} (h : W.heap[g]? = some (.cells #[.slice A0 f0.length c0, .int .i64 f1, .bool f2] 99 (0, 0))) : W.cell? ⟨g, 0, none⟩ = some (.slice A0 f0.length c0) := (A0e h 0).trans rfl
theorem A3v {W : World} {g : Nat} {A0 : Option Addr} {c0 : Nat} {f0 : List Int} {f1 : Int} {f2 : Bool} (h : W.heap[g]? = some (.cells #[.slice A0 f0.length c0, .int .i64 f1, .bool f2] 99 (0, 0))) : W.cell? ⟨g, 1, none⟩ = some (.int .i64 f1) := (A0e h 1).trans rfl
theorem A0r.set_1 {w0 W : World} {g : Nat} {f0 : List Int} {f1 : Int} {f2 : Bool} (h : A0r w0 W g f0 f1 f2) (x : Int) : A0r w0 (W.setCell ⟨g, 1, none⟩ (.int .i64 x)) g f0 x f2 := by
 obtain ⟨A0, c0, hb, hg, hr0, hl0⟩ := h
 exact ⟨A0, c0, by simpa using blk_set hb 1 (.int .i64 x), hg, hr0, hl0⟩
theorem A3w {W : World} {g : Nat} {A0 : Option Addr} {c0 : Nat} {f0 : List Int} {f1 : Int} {f2 : Bool} (h : W.heap[g]? = some (.cells #[.slice A0 f0.length c0, .int .i64 f1, .bool f2] 99 (0, 0))) : W.cell? ⟨g, 2, none⟩ = some (.bool f2) := (A0e h 2).trans rfl
theorem A0r.set_2 {w0 W : World} {g : Nat} {f0 : List Int} {f1 : Int} {f2 : Bool} (h : A0r w0 W g f0 f1 f2) (x : Bool) : A0r w0 (W.setCell ⟨g, 2, none⟩ (.bool x)) g f0 f1 x := by
 obtain ⟨A0, c0, hb, hg, hr0, hl0⟩ := h
 exact ⟨A0, c0, by simpa using blk_set hb 2 (.bool x), hg, hr0, hl0⟩
theorem A0r.farA {w0 W : World} {g g' j : Nat} {u : Value} {f0 : List Int} {f1 : Int} {f2 : Bool} (h : A0r w0 W g f0 f1 f2) (hne : A0b (g ≠ g')) : A0r w0 (W.setCell ⟨g', j, none⟩ u) g f0 f1 f2 := h.far (by exact hne.out) u
theorem A0r.k {w0 W W' : World} {g : Nat} {f0 f0' : List Int} {f1 f1' : Int} {f2 f2' : Bool} (h : A0b (A0r w0 W g f0 f1 f2)) (hh : A0r w0 W g f0 f1 f2 → A0r w0 W' g f0' f1' f2' := by (intro h0_; repeat (first | (with_reducible first | exact h0_ | apply A0r.alloc | apply A0r.drewN | apply A0r.drew | apply A0r.set_1 | apply A0r.set_2 | refine A0r.farA ?_ (by assumption)) | exact h0_))) : A0r w0 W' g f0' f1' f2' := hh h.out
theorem A0r.kl {w W W' : World} (h : A0b (Below w.heap.size w W)) (hh : Below w.heap.size w W → Below w.heap.size w W' := by (intro h0_; repeat (first | (with_reducible first | exact h0_ | apply A0x | apply A0p | apply A0j | refine A0i ?_ (A0r.ge (A0b.out (by assumption))) | refine A0i ?_ (A0b.out (by assumption))) | exact h0_))) : Below w.heap.size w W' := hh h.out
def A14.f (k : Nat) (ac : List Int) (ad : Int) (ae : Bool) (a1 : Int) : Option (Int × List Int × Int × Bool) := (A01.f k ac ad a1).bind fun aa => (if ae = true then (some (aa.1, ac, wrap64 (ad + a1), aa.2)) else (some (aa.1, ac, wrap64 (ad + a1), false)))
set_option maxHeartbeats 8000000 in
set_option maxRecDepth 100000 in
theorem A14.calls (k : Nat) (g : Nat) (ad : List Int) (ae : Int) (ai : Bool) (a1 : Int) (r1 : Int) (r2 : List Int) (r3 : Int) (r4 : Bool) (w0 w : World) (hI : A0r w0 w g ad ae ai) (hB : Below w0.heap.size w0 w) (h : A14.f k ad ae ai a1 = some (r1, r2, r3, r4)) :
  Calls Tryd.prog 48 #[.pointer (some ⟨g, 0, none⟩), .int .i64 a1] w fun e w' => e = .returned (.int .u64 r1) ∧ A0r w0 w' g r2 r3 r4 ∧ Below w0.heap.size w0 w' ∧ A15 w w' g none := by
 have aj := ak hI; have HK := ak (A15.refl w g none); have HL := ak hB.size; clear hI; have HW0 := ak hB.size; have HB := ak hB; clear hB; have H : ((A01.f k ad ae a1).bind fun ah => (if ai = true then (some (ah.1, ad, wrap64 (ae + a1), ah.2)) else (some (ah.1, ad, wrap64 (ae + a1), false)))) = some (r1, r2, r3, r4) := h; clear h; replace H := bkH H; obtain ⟨⟨af, ag⟩, A3, H⟩ := H; (try dsimp only at H)
 by_cases c4 : ai = true
 ·subst c4
  rw [if_pos rfl] at H; simp only [Option.some.injEq, Prod.mk.injEq] at H; obtain ⟨rfl, rfl, rfl, rfl⟩ := H; obtain ⟨ASz5_0, cSz5_0, HGz5, hgz5, HSz5_0, HLSz5_0⟩ := aj.out; have al := A3u HGz5; have am := A3v HGz5; have an := A3w HGz5; have ao := A0c HGz5 0; have ap := A0c HGz5 1; have aq := A0c HGz5 2; clear HGz5 hgz5
  go_enter Tryd.func48, Tryd.ntmps48
  go_wp2_with (first | (go_at_call 49; (with_reducible refine (A01.calls k _ _ ad ae a1 af ag _ ?aa ?ac A3.out).mono ?_); (case aa => exact Kd.A1j HSz5_0 (A0r.kl HB)); (case ac => exact HLSz5_0); rintro e w' ⟨rfl, ⟨nd, rfl⟩⟩; (try first | exact ⟨rfl, _, World.drewN_drewN _ _ _⟩ | exact ⟨rfl, _, Eq.trans (World.drewN_drewN _ _ _) (congrArg (World.drewN _) (Nat.add_assoc _ _ _))⟩)))
  repeat (go_quiet (first | (go_at_call 49; (with_reducible refine (A01.calls k _ _ ad ae a1 af ag _ ?aa ?ac A3.out).mono ?_); (case aa => exact Kd.A1j HSz5_0 (A0r.kl HB)); (case ac => exact HLSz5_0); rintro e w' ⟨rfl, ⟨nd, rfl⟩⟩; (try first | exact ⟨rfl, _, World.drewN_drewN _ _ _⟩ | exact ⟨rfl, _, Eq.trans (World.drewN_drewN _ _ _) (congrArg (World.drewN _) (Nat.add_assoc _ _ _))⟩))); try go_wp2_with (first | (go_at_call 49; (with_reducible refine (A01.calls k _ _ ad ae a1 af ag _ ?aa ?ac A3.out).mono ?_); (case aa => exact Kd.A1j HSz5_0 (A0r.kl HB)); (case ac => exact HLSz5_0); rintro e w' ⟨rfl, ⟨nd, rfl⟩⟩; (try first | exact ⟨rfl, _, World.drewN_drewN _ _ _⟩ | exact ⟨rfl, _, Eq.trans (World.drewN_drewN _ _ _) (congrArg (World.drewN _) (Nat.add_assoc _ _ _))⟩))))
  go_ret
  exact ⟨kF, (A0r.k aj), (A0r.kl HB), (kk HK)⟩
 ·replace c4 := Bool.eq_false_iff.mpr c4; subst c4
  rw [if_neg (show ¬ (false = true) by decide)] at H; simp only [Option.some.injEq, Prod.mk.injEq] at H; obtain ⟨rfl, rfl, rfl, rfl⟩ := H; obtain ⟨ASz6_0, cSz6_0, HGz6, hgz6, HSz6_0, HLSz6_0⟩ := aj.out; have ar := A3u HGz6; have au := A3v HGz6; have av := A3w HGz6; have aw := A0c HGz6 0; have ax := A0c HGz6 1; have ay := A0c HGz6 2; clear HGz6 hgz6
  go_enter Tryd.func48, Tryd.ntmps48
  go_wp2_with (first | (go_at_call 49; (with_reducible refine (A01.calls k _ _ ad ae a1 af ag _ ?aa ?ac A3.out).mono ?_); (case aa => exact Kd.A1j HSz6_0 (A0r.kl HB)); (case ac => exact HLSz6_0); rintro e w' ⟨rfl, ⟨nd, rfl⟩⟩; (try first | exact ⟨rfl, _, World.drewN_drewN _ _ _⟩ | exact ⟨rfl, _, Eq.trans (World.drewN_drewN _ _ _) (congrArg (World.drewN _) (Nat.add_assoc _ _ _))⟩)))
  repeat (go_quiet (first | (go_at_call 49; (with_reducible refine (A01.calls k _ _ ad ae a1 af ag _ ?aa ?ac A3.out).mono ?_); (case aa => exact Kd.A1j HSz6_0 (A0r.kl HB)); (case ac => exact HLSz6_0); rintro e w' ⟨rfl, ⟨nd, rfl⟩⟩; (try first | exact ⟨rfl, _, World.drewN_drewN _ _ _⟩ | exact ⟨rfl, _, Eq.trans (World.drewN_drewN _ _ _) (congrArg (World.drewN _) (Nat.add_assoc _ _ _))⟩))); try go_wp2_with (first | (go_at_call 49; (with_reducible refine (A01.calls k _ _ ad ae a1 af ag _ ?aa ?ac A3.out).mono ?_); (case aa => exact Kd.A1j HSz6_0 (A0r.kl HB)); (case ac => exact HLSz6_0); rintro e w' ⟨rfl, ⟨nd, rfl⟩⟩; (try first | exact ⟨rfl, _, World.drewN_drewN _ _ _⟩ | exact ⟨rfl, _, Eq.trans (World.drewN_drewN _ _ _) (congrArg (World.drewN _) (Nat.add_assoc _ _ _))⟩))))
  go_ret
  exact ⟨kF, (A0r.k aj), (A0r.kl HB), (kk HK)⟩
end Go.Proofs.YtiahbcaoikoogaaDoor.All
