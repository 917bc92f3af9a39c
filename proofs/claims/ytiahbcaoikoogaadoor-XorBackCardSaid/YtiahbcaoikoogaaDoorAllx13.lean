-- written by a program of the session out of the translation; Lean checks it
import Derived.Test.YtiahbcaoikoogaaDoorAllx0
import Derived.Test.YtiahbcaoikoogaaDoorAllx18
namespace Go.Proofs.YtiahbcaoikoogaaDoor.All
open Go.RowKit Go.Proofs.YtiahbcaoikoogaaDoorW.PrintWords Go.Proofs.YtiahbcaoikoogaaDoorW.PrintLast Go.Proofs.YtiahbcaoikoogaaDoorW.PrintMore
attribute [local go_sem] max2_int min2_int max_two min_two max_three min_three max_four min_four   -- for this text's walks alone
set_option linter.unusedVariables false
set_option linter.unusedSimpArgs false

/-! ### gaiterlaw00_Xor: function 12 -/
def gaiterlaw00_Xor.f (a0_0 : Int) (a0_1 : Int) (a0_2 : Int) : Option (Int × Int × Int) := some (a0_0, a0_1, a0_2)
set_option maxHeartbeats 8000000 in
set_option maxRecDepth 100000 in
theorem gaiterlaw00_Xor.calls (a0_0 : Int) (a0_1 : Int) (a0_2 : Int) (r1 : Int) (r2 : Int) (r3 : Int) (w : World) (h : gaiterlaw00_Xor.f a0_0 a0_1 a0_2 = some (r1, r2, r3)) :
    Calls Tryd.prog 12 #[.agg #[.int .u64 a0_0, .int .i64 a0_1, .int .i64 a0_2]] w fun e w' => e = .returned (.agg #[.int .u64 r1, .int .i64 r2, .int .i64 r3]) ∧ Below w.heap.size w w' := by
  have hu24 := Tryd.underlying24
  have hu27 := Tryd.underlying27
  have HB := Aside0.mk (Below.refl w.heap.size w)
  have H : (some (a0_0, a0_1, a0_2)) = some (r1, r2, r3) := h
  clear h
  simp only [Option.some.injEq, Prod.mk.injEq] at H
  obtain ⟨rfl, rfl, rfl⟩ := H
  go_enter Tryd.func12, Tryd.ntmps12
  go_wp2_with (first | ((with_reducible refine gate_dst (N := 1) rfl ?_); refine box_event ?hg (N := 1) ?hd (cs := #[.int .u64 a0_0, .int .i64 a0_1, .int .i64 a0_2]) (t := 24) ?hr ?_; (case hd => rfl); (case hg => rfl); (case hr => first | (go_simp; done) | (go_simp; rfl)); intro gb252 hg w2 hbox hb; have BK252 := Aside0.mk (hbox); have GW252 := kG hg HB; have GE252 := kG hg HB; replace HB := kH HB hb; clear hb hbox hg) | ((with_reducible refine gate_dst (N := 2) rfl ?_); refine box_event ?hg (N := 2) ?hd (cs := #[.int .u64 0, .int .i64 0, .int .i64 0]) (t := 27) ?hr ?_; (case hd => rfl); (case hg => rfl); (case hr => first | (go_simp; done) | (go_simp; rfl)); intro gb253 hg w3 hbox hb; have BK253 := Aside0.mk (hbox); have GW253 := kG hg HB; have GE253 := kG hg HB; replace HB := kH HB hb; obtain ⟨NB252_253, NB253_252⟩ := kN hg BK252; replace BK252 := kB BK252 hb; clear hb hbox hg; have hnb4 := NB252_253.out; have hnc4 := NB253_252.out; have hcz5_0 : w3.cell? ⟨gb252, 0, none⟩ = some (.int .u64 a0_0) := (blk_cell BK252.out 0).trans rfl; have hcz5_1 : w3.cell? ⟨gb252, 1, none⟩ = some (.int .i64 a0_1) := (blk_cell BK252.out 1).trans rfl; have hcz5_2 : w3.cell? ⟨gb252, 2, none⟩ = some (.int .i64 a0_2) := (blk_cell BK252.out 2).trans rfl; have hfz5_0 := blk_frozen BK252.out 0; have hfz5_1 := blk_frozen BK252.out 1; have hfz5_2 := blk_frozen BK252.out 2; have hcz6_0 : w3.cell? ⟨gb253, 0, none⟩ = some (.int .u64 0) := (blk_cell BK253.out 0).trans rfl; have hcz6_1 : w3.cell? ⟨gb253, 1, none⟩ = some (.int .i64 0) := (blk_cell BK253.out 1).trans rfl; have hcz6_2 : w3.cell? ⟨gb253, 2, none⟩ = some (.int .i64 0) := (blk_cell BK253.out 2).trans rfl; have hfz6_0 := blk_frozen BK253.out 0; have hfz6_1 := blk_frozen BK253.out 1; have hfz6_2 := blk_frozen BK253.out 2))
  refine bodyPost_ret (results_cell_row rfl _ _ gb253 27 #[.int .u64 a0_0, .int .i64 a0_1, .int .i64 a0_2] (0, 0) _ rfl (kb BK253) Tryd.underlying27 rfl (by kernel_rfl)) rfl ?_
  exact ⟨by first | rfl | (simp [errW_none, errW_some] <;> rfl) | (simp [*, errW_none, errW_some] <;> rfl), by repeat (first | (with_reducible first | exact HB.out | apply below_alloc | apply pw_below_drewN | apply below_drew1 | refine below_set ?_ GE252.out | refine below_set ?_ GE253.out) | exact HB.out)⟩

/-! ### gaiterlaw00_Rest: function 18 -/
def gaiterlaw00_Rest.f (k : Nat) (l0 : List Int) (a1 : Int) : Option (List Int) := (gaiterref01_Flat.f k l0).bind fun t333 => (if a1 < 0 then (some ([] : List Int)) else (if a1 > (t333.length : Int) then (some ([] : List Int)) else (if 0 ≤ a1 then (if a1 ≤ (t333.length : Int) then (some (t333.drop (a1 : Int).toNat)) else (none)) else (none))))
theorem gaiterlaw00_Rest.mono : ∀ a0 a1 k, LeO (gaiterlaw00_Rest.f k a0 a1) (gaiterlaw00_Rest.f (k + 1) a0 a1) := by
  intro a0 a1 k
  unfold gaiterlaw00_Rest.f
  repeat' first
      | (with_reducible exact gaiterref01_Flat.mono _ _)
      | (with_reducible exact LeO.refl _)
      | (with_reducible exact LeO.none _)
      | (with_reducible refine LeO.ite ?_ ?_)
      | (with_reducible refine LeO.bind ?_ (fun _ => ?_))
      | exact gaiterref01_Flat.mono _ _
      | exact LeO.none _
      | refine LeO.ite ?_ ?_
      | refine LeO.bind ?_ (fun _ => ?_)
set_option maxHeartbeats 8000000 in
set_option maxRecDepth 100000 in
theorem gaiterlaw00_Rest.calls (k : Nat) (A0 : Option Addr) (c0 : Nat) (l0 : List Int) (a1 : Int) (r : List Int) (w : World) (hr0 : Kd.C (Kd.int .u8) w A0 l0.length l0) (hc0 : l0.length ≤ c0) (h : gaiterlaw00_Rest.f k l0 a1 = some r) :
    Calls Tryd.prog 18 #[.slice A0 l0.length c0, .int .i64 a1] w fun e w' => ∃ v0_ : Value, e = .returned (v0_) ∧ Kd.Q (Kd.int .u8) 5 w' w.heap.size (fun _ => True) v0_ r ∧ Below w.heap.size w w' := by
  have HR0 := Aside0.mk hr0
  have HC0 := Aside0.mk hc0
  clear hr0 hc0
  have HB := Aside0.mk (Below.refl w.heap.size w)
  have H : ((gaiterref01_Flat.f k l0).bind fun t333 => (if a1 < 0 then (some ([] : List Int)) else (if a1 > (t333.length : Int) then (some ([] : List Int)) else (if 0 ≤ a1 then (if a1 ≤ (t333.length : Int) then (some (t333.drop (a1 : Int).toNat)) else (none)) else (none))))) = some r := h
  clear h
  replace H := Option.bind_eq_some_iff.mp H
  obtain ⟨t333, A30, H⟩ := H
  replace H : (if a1 < 0 then (some ([] : List Int)) else (if a1 > (t333.length : Int) then (some ([] : List Int)) else (if 0 ≤ a1 then (if a1 ≤ (t333.length : Int) then (some (t333.drop (a1 : Int).toNat)) else (none)) else (none)))) = some r := H
  have A3 := Aside0.mk A30
  clear A30
  by_cases c4 : a1 < 0
  · rw [if_pos c4] at H
    have c4b0 : decide (a1 < 0) = true := decide_eq_true c4
    clear c4
    obtain rfl := Option.some.inj H
    go_enter Tryd.func18, Tryd.ntmps18
    go_wp2_with (first | ((with_reducible refine gate_callee (f := 23) rfl ?_); refine goesL_ (some 7) rfl rfl Tryd.func23 (by kernel_rfl) rfl #[.slice A0 l0.length c0] rfl km ?_; (with_reducible refine (gaiterref01_Flat.calls k _ _ l0 t333 _ ?side1 ?side2 A3.out).mono ?_); (case side1 => repeat (first | exact HR0.out | (with_reducible refine Kd.C_alloc ?_ _) | (with_reducible refine Kd.C_drewN ?_ _) | (with_reducible refine Kd.C_drew ?_))); (case side2 => exact HC0.out); rintro e w5 ⟨v334, rfl, ho0, hb⟩; refine ⟨_, rfl, ?_⟩; have HO335 := Aside0.mk (Kd.R_lower ho0 (below_size (kl HB))); replace HB := kH HB hb; (try clear hb); (try clear hb2); (try clear hk); (try clear hi); (try clear ho0)))
    go_ret
    exact ⟨_, by first | rfl | (simp [errW_none, errW_some] <;> rfl) | (simp [*, errW_none, errW_some] <;> rfl), Kd.Q_of_R (by first | exact Kd.R_nil _ _ _ _ _ | exact Kd.N_nil _ _ _ _ _ | exact Kd.V_nil _ _ _ _ _ | exact Kd.Q_nil _ _ _ _ _ | exact Kd.S_nil _ _ _ _ _), by repeat (first | (with_reducible first | exact HB.out | apply below_alloc | apply pw_below_drewN | apply below_drew1) | exact HB.out)⟩
  · rw [if_neg c4] at H
    have c4b0 : decide (a1 < 0) = false := decide_eq_false c4
    clear c4
    by_cases c6 : a1 > (t333.length : Int)
    · rw [if_pos c6] at H
      have c6b0 : decide ((t333.length : Int) < a1) = true := decide_eq_true c6
      clear c6
      obtain rfl := Option.some.inj H
      go_enter Tryd.func18, Tryd.ntmps18
      go_wp2_with (first | ((with_reducible refine gate_callee (f := 23) rfl ?_); refine goesL_ (some 7) rfl rfl Tryd.func23 (by kernel_rfl) rfl #[.slice A0 l0.length c0] rfl km ?_; (with_reducible refine (gaiterref01_Flat.calls k _ _ l0 t333 _ ?side1 ?side2 A3.out).mono ?_); (case side1 => repeat (first | exact HR0.out | (with_reducible refine Kd.C_alloc ?_ _) | (with_reducible refine Kd.C_drewN ?_ _) | (with_reducible refine Kd.C_drew ?_))); (case side2 => exact HC0.out); rintro e w7 ⟨v334, rfl, ho0, hb⟩; refine ⟨_, rfl, ?_⟩; have HO335 := Aside0.mk (Kd.R_lower ho0 (below_size (kl HB))); replace HB := kH HB hb; (try clear hb); (try clear hb2); (try clear hk); (try clear hi); (try clear ho0); obtain ⟨Ao8, co8, eo8⟩ := Kd.R_slice HO335.out; subst eo8))
      go_ret
      exact ⟨_, by first | rfl | (simp [errW_none, errW_some] <;> rfl) | (simp [*, errW_none, errW_some] <;> rfl), Kd.Q_of_R (by first | exact Kd.R_nil _ _ _ _ _ | exact Kd.N_nil _ _ _ _ _ | exact Kd.V_nil _ _ _ _ _ | exact Kd.Q_nil _ _ _ _ _ | exact Kd.S_nil _ _ _ _ _), by repeat (first | (with_reducible first | exact HB.out | apply below_alloc | apply pw_below_drewN | apply below_drew1) | exact HB.out)⟩
    · rw [if_neg c6] at H
      have c6b0 : decide ((t333.length : Int) < a1) = false := decide_eq_false c6
      clear c6
      by_cases c9 : 0 ≤ a1
      · rw [if_pos c9] at H
        have c9b0 := eq_true c9
        have c9b1 : decide (0 ≤ a1) = true := decide_eq_true c9
        clear c9
        by_cases c10 : a1 ≤ (t333.length : Int)
        · rw [if_pos c10] at H
          have c10b0 := eq_true c10
          have c10b1 : decide (a1 ≤ (t333.length : Int)) = true := decide_eq_true c10
          clear c10
          obtain ⟨y336, hy336⟩ : ∃ y_ : List Int, y_ = (t333.drop (a1 : Int).toNat) := ⟨_, rfl⟩
          replace H : (some y336) = some r := by first | (rw [hy336]; with_reducible exact H) | (have H2_ := (Option.bind_some _ _).symm.trans H; rw [hy336]; with_reducible exact H2_) | (have H2_ := (Option.bind_some _ _).symm.trans H; with_reducible exact H2_) | with_reducible exact H | (rw [hy336]; exact H) | exact H
          have Ny336 := Aside0.mk hy336
          clear hy336
          obtain rfl := Option.some.inj H
          go_enter Tryd.func18, Tryd.ntmps18
          go_wp2_with (first | ((with_reducible refine gate_callee (f := 23) rfl ?_); refine goesL_ (some 7) rfl rfl Tryd.func23 (by kernel_rfl) rfl #[.slice A0 l0.length c0] rfl km ?_; (with_reducible refine (gaiterref01_Flat.calls k _ _ l0 t333 _ ?side1 ?side2 A3.out).mono ?_); (case side1 => repeat (first | exact HR0.out | (with_reducible refine Kd.C_alloc ?_ _) | (with_reducible refine Kd.C_drewN ?_ _) | (with_reducible refine Kd.C_drew ?_))); (case side2 => exact HC0.out); rintro e w11 ⟨v334, rfl, ho0, hb⟩; refine ⟨_, rfl, ?_⟩; have HO335 := Aside0.mk (Kd.R_lower ho0 (below_size (kl HB))); replace HB := kH HB hb; (try clear hb); (try clear hb2); (try clear hk); (try clear hi); (try clear ho0); obtain ⟨Ao12, co12, eo12⟩ := Kd.R_slice HO335.out; subst eo12; have q13 : (a1 : Int) ≤ ((t333.length : Int) : Int) := of_decide_eq_true (by first | (with_reducible assumption) | assumption); obtain ⟨i013, hi013, _, hsz13, _⟩ := info_parts info5; have hcut13 := cut_from (P := Tryd.prog) 25 5 .i64 Tryd.underlying25 hi013 1 hsz13 Ao12 t333.length co12 a1 (of_decide_eq_true (by first | (with_reducible assumption) | assumption)) q13; have hr13 := Kd.Q_drop (k := (a1 : Int).toNat) (Kd.Q_of_R HO335.out) (by omega); obtain ⟨A13, hA13⟩ : ∃ A1, A1 = (if co12 = (a1 : Int).toNat then Ao12 else (Ao12 : Option Addr).map (·.add ((a1 : Int).toNat * 1))) := ⟨_, rfl⟩; obtain ⟨c13, hc13⟩ : ∃ c1, c1 = co12 - (a1 : Int).toNat := ⟨_, rfl⟩; have hy13 : y336.length = t333.length - (a1 : Int).toNat := (by rw [Ny336.out, List.length_drop]); rw [← Ny336.out] at hr13; rw [← hy13, ← hA13, ← hc13] at hcut13; replace hr13 : Kd.Q (Kd.int .u8) 5 w11 w.heap.size (fun _ => True) (.slice A13 y336.length c13) y336 := (by rw [hA13, hc13, hy13]; exact hr13); have HE13 : Aside0 ((Value.slice A13 y336.length c13).ownBlock = (.slice Ao12 t333.length co12 : Value).ownBlock) := ⟨by rw [hA13]; split <;> (cases (Ao12 : Option Addr) <;> first | rfl | (simp only [Option.map, Value.ownBlock, Addr.add]; split <;> rfl))⟩; clear hy13 hi013 hsz13 HO335 hA13 hc13; have HO338 := Aside0.mk hr13; clear hr13; (try (have q13s := q13; simp only [List.length_drop, List.length_take] at q13s; replace q13s := eq_true q13s)); replace q13 := eq_true q13))
          go_ret
          exact ⟨_, by first | rfl | (simp [errW_none, errW_some] <;> rfl) | (simp [*, errW_none, errW_some] <;> rfl), by (with_reducible repeat (first | apply Kd.Q_alloc | apply Kd.Q_drewN | apply Kd.Q_drew)); exact HO338.out, by repeat (first | (with_reducible first | exact HB.out | apply below_alloc | apply pw_below_drewN | apply below_drew1) | exact HB.out)⟩
        · rw [if_neg c10] at H
          exact absurd H (by simp)
      · rw [if_neg c9] at H
        exact absurd H (by simp)

/-! ### gaiterlaw00_Bits: function 21 -/
def gaiterlaw00_Bits.l0 : Nat → List Int → List Int → Int → Option (List Int × Int)
  | 0, _, _, _ => none
  | k + 1, x0, x3, x4 => if x4 < (x0.length : Int) then (if 0 ≤ x4 then (if x3.length < 140737488355328 then (gaiterlaw00_Bits.l0 k x0 (x3 ++ [Int.tmod (rd x0 x4) 2]) (wrap64 (x4 + 1))) else (none)) else (none)) else ((gaiterref01_Bytes.f k x3).bind fun t398 => (some (t398, (x0.length : Int))))
def gaiterlaw00_Bits.f (k : Nat) (l0 : List Int) : Option (List Int × Int) := gaiterlaw00_Bits.l0 k l0 ([] : List Int) 0
theorem gaiterlaw00_Bits.mono_l : ∀ k, (∀ y0 y1 y2, LeO (gaiterlaw00_Bits.l0 k y0 y1 y2) (gaiterlaw00_Bits.l0 (k + 1) y0 y1 y2))
  | 0 => fun _ _ _ r h => by simp [gaiterlaw00_Bits.l0] at h
  | k + 1 => by
    have ih0 := gaiterlaw00_Bits.mono_l k
    · intro y0 y1 y2
      unfold gaiterlaw00_Bits.l0
      repeat' first
      | (with_reducible exact ih0 _ _ _)
      | (with_reducible exact gaiterref01_Bytes.mono _ _)
      | (with_reducible exact LeO.refl _)
      | (with_reducible exact LeO.none _)
      | (with_reducible refine LeO.ite ?_ ?_)
      | (with_reducible refine LeO.bind ?_ (fun _ => ?_))
      | exact ih0 _ _ _
      | exact gaiterref01_Bytes.mono _ _
      | exact LeO.none _
      | refine LeO.ite ?_ ?_
      | refine LeO.bind ?_ (fun _ => ?_)
theorem gaiterlaw00_Bits.mono : ∀ a0 k, LeO (gaiterlaw00_Bits.f k a0) (gaiterlaw00_Bits.f (k + 1) a0) := by
  intro a0 k
  have ih0 := gaiterlaw00_Bits.mono_l k
  unfold gaiterlaw00_Bits.f
  repeat' first
      | (with_reducible exact ih0 _ _ _)
      | (with_reducible exact gaiterref01_Bytes.mono _ _)
      | (with_reducible exact LeO.refl _)
      | (with_reducible exact LeO.none _)
      | (with_reducible refine LeO.ite ?_ ?_)
      | (with_reducible refine LeO.bind ?_ (fun _ => ?_))
      | exact ih0 _ _ _
      | exact gaiterref01_Bytes.mono _ _
      | exact LeO.none _
      | refine LeO.ite ?_ ?_
      | refine LeO.bind ?_ (fun _ => ?_)
set_option maxHeartbeats 8000000 in
set_option maxRecDepth 100000 in
theorem gaiterlaw00_Bits.calls (k : Nat) (A0 : Option Addr) (c0 : Nat) (l0 : List Int) (r1 : List Int) (r2 : Int) (w : World) (hr0 : Kd.C (Kd.int .u8) w A0 l0.length l0) (hc0 : l0.length ≤ c0) (h : gaiterlaw00_Bits.f k l0 = some (r1, r2)) :
    Calls Tryd.prog 21 #[.slice A0 l0.length c0] w fun e w' => ∃ v0_ : Value, e = .returned (.agg #[v0_, .int .i64 r2]) ∧ Kd.R (Kd.int .u8) 5 w' w.heap.size (fun _ => True) v0_ r1 ∧ Below w.heap.size w w' := by
  have hu31 := Tryd.underlying31
  have HR0 := Aside0.mk hr0
  have HC0 := Aside0.mk hc0
  clear hr0 hc0
  have HB := Aside0.mk (Below.refl w.heap.size w)
  have H : (gaiterlaw00_Bits.l0 k l0 ([] : List Int) 0) = some (r1, r2) := h
  clear h
  have H' := Aside0.mk H
  clear H
  go_enter Tryd.func21, Tryd.ntmps21
  go_wp2_with (first | ((with_reducible refine gate_dst (N := 2) rfl ?_); refine box_event ?hg (N := 2) ?hd (cs := #[.slice none 0 0, .int .i64 0]) (t := 31) ?hr ?_; (case hd => rfl); (case hg => rfl); (case hr => first | (go_simp; done) | (go_simp; rfl)); intro gb393 hg w2 hbox hb; have BK393 := Aside0.mk (hbox); have GW393 := kG hg HB; have GE393 := kG hg HB; replace HB := kH HB hb; clear hb hbox hg))
  go_loopg [3, 4] k (fun kq v3 v4 w' => ∃ (x3_1 : List Int) (x4_1 : Int), v4 = .int .i64 x4_1 ∧ Aside0 (gaiterlaw00_Bits.l0 kq l0 x3_1 x4_1 = some (r1, r2)) ∧ Aside0 (kq ≤ k) ∧ Aside0 (Kd.R (Kd.int .u8) 5 w' w.heap.size (fun _ => True) v3 x3_1) ∧ Aside0 (w'.heap[gb393]? = some (.cells #[(.slice none 0 0), .int .i64 0] 31 (0, 0))) ∧ Aside0 (Below w.heap.size w w'))
  case atStart => exact ⟨(([] : List Int)), (0), (by first | rfl | (simp; done) | (simp [*]; done)), H', ⟨Nat.le_refl _⟩, ⟨by first | exact Kd.R_nil _ _ _ _ _ | exact Kd.N_nil _ _ _ _ _ | exact Kd.V_nil _ _ _ _ _ | exact Kd.Q_nil _ _ _ _ _ | exact Kd.S_nil _ _ _ _ _⟩, ⟨by (with_reducible repeat (first | refine blk_drewN ?_ _ | refine blk_drew ?_ | refine blk_alloc ?_ _)); exact BK393.out⟩, ⟨by repeat (first | (with_reducible first | exact HB.out | apply below_alloc | apply pw_below_drewN | apply below_drew1 | refine below_set ?_ GE393.out) | exact HB.out)⟩⟩
  case round =>
    clear H'
    try clear c2
    try clear p2
    obtain ⟨x3_1, x4_1, rfl, HA, HK1, HO_3, BK393, HB⟩ := hrel
    cases gk with
    | zero => exact absurd HA.out (by simp [gaiterlaw00_Bits.l0])
    | succ k1 =>
      have H := HA.out
      clear HA
      simp only [gaiterlaw00_Bits.l0] at H
      by_cases c3 : x4_1 < (l0.length : Int)
      · rw [if_pos c3] at H
        have c3b0 : decide (x4_1 < (l0.length : Int)) = true := decide_eq_true c3
        clear c3
        by_cases c4 : 0 ≤ x4_1
        · rw [if_pos c4] at H
          have c4b0 : decide (0 ≤ x4_1) = true := decide_eq_true c4
          clear c4
          by_cases c5 : x3_1.length < 140737488355328
          · rw [if_pos c5] at H
            have LMc5 := Aside0.mk c5
            clear c5
            obtain ⟨y395, hy395⟩ : ∃ y_ : List Int, y_ = (x3_1 ++ [Int.tmod (rd l0 x4_1) 2]) := ⟨_, rfl⟩
            replace H : (gaiterlaw00_Bits.l0 k1 l0 y395 (wrap64 (x4_1 + 1))) = some (r1, r2) := by first | (rw [hy395]; with_reducible exact H) | (have H2_ := (Option.bind_some _ _).symm.trans H; rw [hy395]; with_reducible exact H2_) | (have H2_ := (Option.bind_some _ _).symm.trans H; with_reducible exact H2_) | with_reducible exact H | (rw [hy395]; exact H) | exact H
            have Ny395 := Aside0.mk hy395
            clear hy395
            have H' := Aside0.mk H
            clear H
            have p394 : 0 ≤ (x4_1 : Int) := of_decide_eq_true (by first | (with_reducible assumption) | assumption)
            have q394 : x4_1 < (l0.length : Int) := of_decide_eq_true (by first | (with_reducible assumption) | assumption)
            obtain ⟨ad394, e394, hx394_0⟩ := Kd.at_int HR0.out x4_1 p394 q394
            cases e394
            replace hx394_0 := (HB.out.cell (World.block_lt_of_cell? w _ hx394_0)).trans hx394_0
            replace p394 := eq_true p394
            (try (have q394s := q394; simp only [List.length_drop, List.length_take] at q394s; replace q394s := eq_true q394s)); replace q394 := eq_true q394
            go_wp2_with (first | ((with_reducible refine gate_builtin (b := .append) (xs := #[.tmp 11, .tmp 17]) rfl ?_); at_builtin; refine Kd.R_append (Kd.int .u8) (w0 := w) w.heap.size rfl (.tmp 11) (.tmp 17) 25 5 (.int .u8 0) 1 rfl Tryd.underlying25 info5 rfl (by decide) (by omega) u3 x3_1 (Int.tmod (rd l0 x4_1) 2) [.int .u8 (Int.tmod (rd l0 x4_1) 2)] (fun _ => True) (fun _ => False) rfl rfl ?aP (fun _ hk => hk.elim) ?aF ?aO ?aB ?aS ?aL ?_; (case aP => exact rfl); (case aB => exact (kl HB)); (case aF => exact (fun _ _ => trivial)); (case aO => exact (kr HO_3)); (case aS => exact (below_size (kl HB))); (case aL => have := LMc5.out; omega); intro v396 w6 ho hb hg hat; rw [← Ny395.out] at ho; have n0_ := Aside0.mk (blk_grown (g := gb393) (o := .cells #[.slice none 0 0, .int .i64 0] 31 (0, 0)) (kb BK393) hg (Kd.R_ne HO_3.out BK393.out (by decide))); have n1_ := Aside0.mk (hb); have n2_ := Aside0.mk (ho); clear BK393; clear HB; clear HO_3; have BK393 := n0_; have HB := n1_; have HO397 := n2_; clear n0_ n1_ n2_; clear ho hb hg hat))
            go_roundg k1
            case measure => have := HK1.out; omega
            case rel => exact ⟨(y395), (wrap64 (x4_1 + 1)), (by first | rfl | (simp; done) | (simp [*]; done)), H', ⟨by have := HK1.out; omega⟩, ⟨by (with_reducible repeat (first | apply Kd.R_alloc | apply Kd.R_drewN | apply Kd.R_drew)); exact HO397.out⟩, ⟨by (with_reducible repeat (first | refine blk_drewN ?_ _ | refine blk_drew ?_ | refine blk_alloc ?_ _)); exact BK393.out⟩, ⟨by repeat (first | (with_reducible first | exact HB.out | apply below_alloc | apply pw_below_drewN | apply below_drew1 | refine below_set ?_ GE393.out) | exact HB.out)⟩⟩
          · rw [if_neg c5] at H
            exact absurd H (by simp)
        · rw [if_neg c4] at H
          exact absurd H (by simp)
      · rw [if_neg c3] at H
        have c3b0 : decide (x4_1 < (l0.length : Int)) = false := decide_eq_false c3
        clear c3
        replace H := Option.bind_eq_some_iff.mp H
        obtain ⟨t398, A70, H⟩ := H
        replace H : (some (t398, (l0.length : Int))) = some (r1, r2) := H
        have A7 := Aside0.mk A70
        clear A70
        simp only [Option.some.injEq, Prod.mk.injEq] at H
        obtain ⟨rfl, rfl⟩ := H
        obtain ⟨Ao8, co8, eo8⟩ := Kd.R_slice HO_3.out
        subst eo8
        go_wp2_with (first | ((with_reducible refine gate_callee (f := 51) rfl ?_); refine goesL_ (some 20) rfl rfl Tryd.func51 (by kernel_rfl) rfl #[.slice Ao8 x3_1.length co8] rfl km ?_; (with_reducible refine (gaiterref01_Bytes.calls k1 _ _ x3_1 t398 _ ?side1 ?side2 A7.out).mono ?_); (case side1 => repeat (first | exact (Kd.R_reads' HO_3.out).2.2 | (with_reducible refine Kd.C_alloc ?_ _) | (with_reducible refine Kd.C_drewN ?_ _) | (with_reducible refine Kd.C_drew ?_))); (case side2 => exact (Kd.R_reads' HO_3.out).2.1); rintro e w9 ⟨v399, rfl, ho0, hb⟩; refine ⟨_, rfl, ?_⟩; have HO400 := Aside0.mk (Kd.R_lower (Kd.R_new' ho0 (Kd.R_lt (kr HO_3))) (below_size (kl HB))); replace HO_3 := Aside0.mk (Kd.R_elder' (kr HO_3) (Kd.R_base ho0) hb); replace BK393 := kB BK393 hb; replace HB := kH HB hb; (try clear hb); (try clear hb2); (try clear hk); (try clear hi); (try clear ho0); obtain ⟨Ao10, co10, eo10⟩ := Kd.R_slice HO400.out; subst eo10; have hcz11_0 : w9.cell? ⟨gb393, 0, none⟩ = some (.slice none 0 0) := (blk_cell BK393.out 0).trans rfl; have hcz11_1 : w9.cell? ⟨gb393, 1, none⟩ = some (.int .i64 0) := (blk_cell BK393.out 1).trans rfl; have hfz11_0 := blk_frozen BK393.out 0; have hfz11_1 := blk_frozen BK393.out 1))
        refine bodyPost_ret (results_cell_row rfl _ _ gb393 31 #[.slice Ao10 t398.length co10, .int .i64 (l0.length : Int)] (0, 0) _ rfl (kb BK393) Tryd.underlying31 rfl (by kernel_rfl)) rfl ?_
        exact ⟨_, by first | rfl | (simp [errW_none, errW_some] <;> rfl) | (simp [*, errW_none, errW_some] <;> rfl), by (with_reducible repeat (first | apply Kd.R_alloc | apply Kd.R_drewN | apply Kd.R_drew)); exact Kd.R_mono (Kd.R_far (p := ⟨gb393, 1, none⟩) (Kd.R_far (p := ⟨gb393, 0, none⟩) (Kd.R_types HO400.out BK393.out (by decide)) (fun _ hk => hk.2) (.slice Ao10 t398.length co10)) (fun _ hk => hk.2) (.int .i64 (l0.length : Int))) (fun _ hk => trivial), by repeat (first | (with_reducible first | exact HB.out | apply below_alloc | apply pw_below_drewN | apply below_drew1 | refine below_set ?_ GE393.out) | exact HB.out)⟩

/-! ### gaiterlaw00_State: function 27 -/
def gaiterlaw00_State.f (a0_0 : Int) (a0_1 : Int) (a0_2 : Int) (a0_3 : Int) (a0_4 : Int) (a0_5 : Int) (a0_6 : Int) (a0_7 : Int) : Option (Int × Int × Int × Int × Int × Int × Int × Int) := (gaiterlaw00_Xor.f a0_5 a0_6 a0_7).bind fun bt685 => (some (a0_0, a0_1, a0_2, a0_3, a0_4, bt685.1, bt685.2.1, bt685.2.2))
def gaiterlaw00_State.T1 : Bool × List (List Nat × List Nat) := (true, [([], []), ([0], [0]), ([], []), ([2], [2]), ([], []), ([4], [4]), ([], []), ([6], [6]), ([], []), ([8], [8]), ([], []), ([10], [10]), ([11], [11]), ([1, 3, 5, 7, 9, 12], [1, 3, 5, 7, 9, 12]), ([13, 12, 0, 1, 2, 3, 4, 5, 6, 7, 8, 9, 10, 11, 12, 13], [13])])
def gaiterlaw00_State.B1 : List Nat := [0, 1, 0, 4, 0, 16, 0, 64, 0, 256, 0, 1024, 3072, 8191, 16383]
theorem gaiterlaw00_State.tab1 : rtab .any (opsOf Tryd.f27 1) = gaiterlaw00_State.T1 := by kernel_rfl
theorem gaiterlaw00_State.bits1 : waitsOk gaiterlaw00_State.T1.2 gaiterlaw00_State.B1 = true := by kernel_rfl
set_option maxHeartbeats 8000000 in
set_option maxRecDepth 100000 in
theorem gaiterlaw00_State.calls (a0_0 : Int) (a0_1 : Int) (a0_2 : Int) (a0_3 : Int) (a0_4 : Int) (a0_5 : Int) (a0_6 : Int) (a0_7 : Int) (r1 : Int) (r2 : Int) (r3 : Int) (r4 : Int) (r5 : Int) (r6 : Int) (r7 : Int) (r8 : Int) (w : World) (h : gaiterlaw00_State.f a0_0 a0_1 a0_2 a0_3 a0_4 a0_5 a0_6 a0_7 = some (r1, r2, r3, r4, r5, r6, r7, r8)) :
    Calls Tryd.prog 27 #[.agg #[.int .i64 a0_0, .int .i64 a0_1, .int .i64 a0_2, .int .u64 a0_3, .int .u64 a0_4, .int .u64 a0_5, .int .i64 a0_6, .int .i64 a0_7]] w fun e w' => e = .returned (.agg #[.int .i64 r1, .int .i64 r2, .int .i64 r3, .int .u64 r4, .int .u64 r5, .int .u64 r6, .int .i64 r7, .int .i64 r8]) ∧ Below w.heap.size w w' := by
  have hu53 := Tryd.underlying53
  have hu55 := Tryd.underlying55
  have hu24 := Tryd.underlying24
  have HB := Aside0.mk (Below.refl w.heap.size w)
  have H : ((gaiterlaw00_Xor.f a0_5 a0_6 a0_7).bind fun bt685 => (some (a0_0, a0_1, a0_2, a0_3, a0_4, bt685.1, bt685.2.1, bt685.2.2))) = some (r1, r2, r3, r4, r5, r6, r7, r8) := h
  clear h
  replace H := Option.bind_eq_some_iff.mp H
  obtain ⟨⟨t685, t686, t687⟩, A20, H⟩ := H
  replace H : (some (a0_0, a0_1, a0_2, a0_3, a0_4, t685, t686, t687)) = some (r1, r2, r3, r4, r5, r6, r7, r8) := H
  have A2 := Aside0.mk A20
  clear A20
  simp only [Option.some.injEq, Prod.mk.injEq] at H
  obtain ⟨rfl, rfl, rfl, rfl, rfl, rfl, rfl, rfl⟩ := H
  go_enter Tryd.func27, Tryd.ntmps27
  try go_wp2_with (first | ((with_reducible refine gate_dst (N := 1) rfl ?_); refine box_event ?hg (N := 1) ?hd (cs := #[.int .i64 a0_0, .int .i64 a0_1, .int .i64 a0_2, .int .u64 a0_3, .int .u64 a0_4, .int .u64 a0_5, .int .i64 a0_6, .int .i64 a0_7]) (t := 53) ?hr ?_; (case hd => rfl); (case hg => rfl); (case hr => first | (go_simp; done) | (go_simp; rfl)); intro gb683 hg w3 hbox hb; have BK683 := Aside0.mk (hbox); have GW683 := kG hg HB; have GE683 := kG hg HB; replace HB := kH HB hb; clear hb hbox hg) | ((with_reducible refine gate_dst (N := 2) rfl ?_); refine box_event ?hg (N := 2) ?hd (cs := #[.int .i64 0, .int .i64 0, .int .i64 0, .int .u64 0, .int .u64 0, .int .u64 0, .int .i64 0, .int .i64 0]) (t := 55) ?hr ?_; (case hd => rfl); (case hg => rfl); (case hr => first | (go_simp; done) | (go_simp; rfl)); intro gb684 hg w4 hbox hb; have BK684 := Aside0.mk (hbox); have GW684 := kG hg HB; have GE684 := kG hg HB; replace HB := kH HB hb; obtain ⟨NB683_684, NB684_683⟩ := kN hg BK683; replace BK683 := kB BK683 hb; clear hb hbox hg))
  replace BK683 := Aside0.mk (blk_drew BK683.out)
  replace BK684 := Aside0.mk (blk_drew BK684.out)
  replace HB := Aside0.mk (below_drew1 HB.out)
  refine start_ (n := 15) (S := fun w' => w'.cell? ⟨gb683, 0, none⟩ = some (.int .i64 a0_0) ∧ w'.cell? ⟨gb683, 1, none⟩ = some (.int .i64 a0_1) ∧ w'.cell? ⟨gb683, 2, none⟩ = some (.int .i64 a0_2) ∧ w'.cell? ⟨gb683, 3, none⟩ = some (.int .u64 a0_3) ∧ w'.cell? ⟨gb683, 4, none⟩ = some (.int .u64 a0_4) ∧ w'.cell? ⟨gb683, 5, none⟩ = some (.int .u64 a0_5) ∧ w'.cell? ⟨gb683, 6, none⟩ = some (.int .i64 a0_6) ∧ w'.cell? ⟨gb683, 7, none⟩ = some (.int .i64 a0_7)) (ds := []) (bl 15 0) (by kernel_rfl) rfl rfl kz (fun hHeld => ?_); refine with_tabW gaiterlaw00_State.tab1 gaiterlaw00_State.bits1 (fun HT_ HW_ => ?_)
  generalize w4.drew = w5 at BK683 BK684 HB hHeld ⊢
  refine pu 0 (some 3) (bl 15 1) (h := ?_)
  refine pu 2 (some 5) (bl 15 5) (h := ?_)
  refine pu 4 (some 7) (bl 15 21) (h := ?_)
  refine pu 6 (some 9) (bl 15 85) (h := ?_)
  refine pu 8 (some 11) (bl 15 341) (h := ?_)
  refine pu 10 (some 13) (bl 15 1365) (h := ?_)
  refine ta 1 (some 4) (bl 15 1367) (h := ?_)
  refine ta 3 (some 6) (bl 15 1375) (h := ?_)
  refine ta 5 (some 8) (bl 15 1407) (h := ?_)
  refine ta 7 (some 10) (bl 15 1535) (h := ?_)
  refine ta 9 (some 12) (bl 15 2047) (h := ?_)
  refine ta 11 (some 14) (bl 15 4095) (h := ?_)
  refine one_ (i := 12) (N := some 15) #[true, true, true, true, true, true, true, true, true, true, true, true, true, false, false] rfl rfl (one_of HT_.out (by kernel_rfl)) (by decide) (fun K hK => ?_)
  refine goes_ Tryd.func12 (by kernel_rfl) rfl #[.agg #[.int .u64 a0_5, .int .i64 a0_6, .int .i64 a0_7]] (by rfl) rfl rfl km ?_
  with_reducible refine (gaiterlaw00_Xor.calls a0_5 a0_6 a0_7 t685 t686 t687 _ A2.out).mono ?_
  rintro e w6 ⟨rfl, hb⟩
  refine ⟨_, rfl, ?_⟩
  replace BK683 := kB BK683 hb
  replace BK684 := kB BK684 hb
  replace HB := kH HB hb
  (try clear hb)
  (try clear hb2)
  (try clear hk)
  (try clear hi)
  refine hK.out _ _ kz (fun hHeld => ?_)
  clear hK K
  refine norm_ (a' := ?_) ?_ ?_
  rotate_left
  · show Act.put _ (some 15) _ = _
    simp only [Act.put, List.setIfInBounds_toArray, List.set_cons_zero, List.set_cons_succ, i64_w, i32_w]
    rfl
  refine pu 13 (some 16) (bl 15 16383) (h := ?_)
  refine one_ (i := 14) (N := none) #[true, true, true, true, true, true, true, true, true, true, true, true, true, true, true] rfl rfl (one_of HT_.out (by kernel_rfl)) (by decide) (fun K hK => ?_)
  have hs7 : w6.cell? ⟨gb684, 0, none⟩ = some (.int .i64 0) := (blk_cell BK684.out 0).trans rfl
  have hfs7 := blk_frozen BK684.out 0
  have hns7_0 := NB683_684.out
  have hms7_0 := NB684_683.out
  have hs8 : w6.cell? ⟨gb684, 1, none⟩ = some (.int .i64 0) := (blk_cell BK684.out 1).trans rfl
  have hfs8 := blk_frozen BK684.out 1
  have hs9 : w6.cell? ⟨gb684, 2, none⟩ = some (.int .i64 0) := (blk_cell BK684.out 2).trans rfl
  have hfs9 := blk_frozen BK684.out 2
  have hs10 : w6.cell? ⟨gb684, 3, none⟩ = some (.int .u64 0) := (blk_cell BK684.out 3).trans rfl
  have hfs10 := blk_frozen BK684.out 3
  have hs11 : w6.cell? ⟨gb684, 4, none⟩ = some (.int .u64 0) := (blk_cell BK684.out 4).trans rfl
  have hfs11 := blk_frozen BK684.out 4
  have hs12 : w6.cell? ⟨gb684, 5, none⟩ = some (.int .u64 0) := (blk_cell BK684.out 5).trans rfl
  have hfs12 := blk_frozen BK684.out 5
  have hs13 : w6.cell? ⟨gb684, 6, none⟩ = some (.int .i64 0) := (blk_cell BK684.out 6).trans rfl
  have hfs13 := blk_frozen BK684.out 6
  have hs14 : w6.cell? ⟨gb684, 7, none⟩ = some (.int .i64 0) := (blk_cell BK684.out 7).trans rfl
  have hfs14 := blk_frozen BK684.out 7
  refine skip_ (w1 := ?_) (by rfl) rfl ?_ ?_
  rotate_left
  · go_simp
    rfl
  refine hK.out _ _ (ks hHeld) (fun hHeld => ?_)
  clear hK K
  refine done_ (done_of HT_.out (by kernel_rfl)) ?_
  try go_wp2
  refine bodyPost_ret (results_cell_row rfl _ _ gb684 55 #[.int .i64 a0_0, .int .i64 a0_1, .int .i64 a0_2, .int .u64 a0_3, .int .u64 a0_4, .int .u64 t685, .int .i64 t686, .int .i64 t687] (0, 0) _ rfl (kb BK684) Tryd.underlying55 rfl (by kernel_rfl)) rfl ?_
  exact ⟨by first | rfl | (simp [errW_none, errW_some] <;> rfl) | (simp [*, errW_none, errW_some] <;> rfl), by repeat (first | (with_reducible first | exact HB.out | apply below_alloc | apply pw_below_drewN | apply below_drew1 | refine below_set ?_ GE683.out | refine below_set ?_ GE684.out) | exact HB.out)⟩

end Go.Proofs.YtiahbcaoikoogaaDoor.All
