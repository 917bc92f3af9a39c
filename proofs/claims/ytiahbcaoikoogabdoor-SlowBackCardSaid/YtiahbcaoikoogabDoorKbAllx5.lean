-- declarations that this claim needs, copied by a program of the session
import Derived.Test.YtiahbcaoikoogabDoorKbAllx2
namespace Go.Proofs.YtiahbcaoikoogabDoor.All
open Go.RowKit Go.Proofs.YtiahbcaoikoogabDoorW.PrintWords Go.Proofs.YtiahbcaoikoogabDoorW.PrintLast Go.Proofs.YtiahbcaoikoogabDoorW.PrintMore
attribute [local go_sem] max2_int min2_int max_two min_two max_three min_three max_four min_four   
set_option linter.unusedVariables false
set_option linter.unusedSimpArgs false
mutual
def bits_Put.j0 : Nat → Int → Int → Bool → List Int → Int → Option (List Int × Int)
 | 0, _, _, _, _, _ => none
 | k + 1, x1, x2, x17, x116000, x116001 => if x17 = true then (some (x116000, x116001)) else (bits_Put.l0 k x1 (wrap64 (x2 - 1)) x116000 x116001)
def bits_Put.l0 : Nat → Int → Int → List Int → Int → Option (List Int × Int)
 | 0, _, _, _, _ => none
 | k + 1, x1, x7, x116000, x116001 => if x7 ≥ 0 then (if (Int.tmod x116001 8) = 0 then (if x116000.length < 140737488355328 then ((some (x116000 ++ [0] : List Int)).bind fun y120 => (if 0 ≤ (wrap64 (Int.tdiv x116001 8)) then (if (wrap64 (Int.tdiv x116001 8)) < (y120.length : Int) then (if 0 ≤ x7 then (if 0 ≤ (wrap64 (7 - (Int.tmod x116001 8))) then (bits_Put.l0 k x1 (wrap64 (x7 - 1)) (y120.set ((wrap64 (Int.tdiv x116001 8)) : Int).toNat (Go.bits .or .u8 (rd y120 (wrap64 (Int.tdiv x116001 8))) (shl .u8 ((Go.bits .and .u64 (shr .u64 x1 x7) 1) % 256) (wrap64 (7 - (Int.tmod x116001 8)))))) (wrap64 (x116001 + 1))) else (none)) else (none)) else (none)) else (none))) else (none)) else (if 0 ≤ (wrap64 (Int.tdiv x116001 8)) then (if (wrap64 (Int.tdiv x116001 8)) < (x116000.length : Int) then (if 0 ≤ x7 then (if 0 ≤ (wrap64 (7 - (Int.tmod x116001 8))) then (bits_Put.l0 k x1 (wrap64 (x7 - 1)) (x116000.set ((wrap64 (Int.tdiv x116001 8)) : Int).toNat (Go.bits .or .u8 (rd x116000 (wrap64 (Int.tdiv x116001 8))) (shl .u8 ((Go.bits .and .u64 (shr .u64 x1 x7) 1) % 256) (wrap64 (7 - (Int.tmod x116001 8)))))) (wrap64 (x116001 + 1))) else (none)) else (none)) else (none)) else (none))) else (some (x116000, x116001))
end
def bits_Put.f (k : Nat) (l0_0 : List Int) (a0_1 : Int) (a1 : Int) (a2 : Int) : Option (List Int × Int) := (slices_Clone_byte_byte.f l0_0).bind fun t117 => (if a2 < 0 then (bits_Put.j0 k a1 a2 true t117 a0_1) else (bits_Put.j0 k a1 a2 (decide (a2 > 64)) t117 a0_1))
theorem bits_Put.mono_l : ∀ k, (∀ y0 y1 y2 y3 y4, LeO (bits_Put.j0 k y0 y1 y2 y3 y4) (bits_Put.j0 (k + 1) y0 y1 y2 y3 y4)) ∧ (∀ y0 y1 y2 y3, LeO (bits_Put.l0 k y0 y1 y2 y3) (bits_Put.l0 (k + 1) y0 y1 y2 y3))
 | 0 => ⟨fun _ _ _ _ _ r h => by simp [bits_Put.j0] at h, fun _ _ _ _ r h => by simp [bits_Put.l0] at h⟩
 | k + 1 => by
  obtain ⟨ih0, ih1⟩ := bits_Put.mono_l k
  refine ⟨?_, ?_⟩
  ·intro y0 y1 y2 y3 y4
   unfold bits_Put.j0
   repeat' first
   | (with_reducible exact ih0 _ _ _ _ _)
   | (with_reducible exact ih1 _ _ _ _)
   | (with_reducible exact LeO.refl _)
   | (with_reducible exact LeO.none _)
   | (with_reducible refine LeO.ite ?_ ?_)
   | (with_reducible refine LeO.bind ?_ (fun _ => ?_))
   | exact ih0 _ _ _ _ _
   | exact ih1 _ _ _ _
   | exact LeO.none _
   | refine LeO.ite ?_ ?_
   | refine LeO.bind ?_ (fun _ => ?_)
  ·intro y0 y1 y2 y3
   unfold bits_Put.l0
   repeat' first
   | (with_reducible exact ih0 _ _ _ _ _)
   | (with_reducible exact ih1 _ _ _ _)
   | (with_reducible exact LeO.refl _)
   | (with_reducible exact LeO.none _)
   | (with_reducible refine LeO.ite ?_ ?_)
   | (with_reducible refine LeO.bind ?_ (fun _ => ?_))
   | exact ih0 _ _ _ _ _
   | exact ih1 _ _ _ _
   | exact LeO.none _
   | refine LeO.ite ?_ ?_
   | refine LeO.bind ?_ (fun _ => ?_)
theorem bits_Put.mono : ∀ a0 a1 a2 a3 k, LeO (bits_Put.f k a0 a1 a2 a3) (bits_Put.f (k + 1) a0 a1 a2 a3) := by
 intro a0 a1 a2 a3 k
 obtain ⟨ih0, ih1⟩ := bits_Put.mono_l k
 unfold bits_Put.f
 repeat' first
   | (with_reducible exact ih0 _ _ _ _ _)
   | (with_reducible exact ih1 _ _ _ _)
   | (with_reducible exact LeO.refl _)
   | (with_reducible exact LeO.none _)
   | (with_reducible refine LeO.ite ?_ ?_)
   | (with_reducible refine LeO.bind ?_ (fun _ => ?_))
   | exact ih0 _ _ _ _ _
   | exact ih1 _ _ _ _
   | exact LeO.none _
   | refine LeO.ite ?_ ?_
   | refine LeO.bind ?_ (fun _ => ?_)
def bits_Put.T9 : Bool × List (List Nat × List Nat) := (true, [([], []), ([0], [0]), ([], []), ([2], [2]), ([3], [3]), ([1, 4], [1, 4]), ([5], [5]), ([], []), ([], []), ([7, 8], [7, 8]), ([9], [9]), ([10], [10]), ([], []), ([12], [12]), ([13], [13]), ([14], [14]), ([11, 15], [11, 15]), ([6, 16], [6, 16]), ([1, 4, 0, 1, 2, 3, 4, 5, 6, 7, 8, 9, 10, 11, 12, 13, 14, 15, 16, 17], [1, 4]), ([18, 17, 0, 1, 2, 3, 4, 5, 6, 7, 8, 9, 10, 11, 12, 13, 14, 15, 16, 17], [17, 18])])
def bits_Put.B9 : List Nat := [0, 1, 0, 4, 12, 31, 63, 0, 0, 384, 896, 1920, 0, 4096, 12288, 28672, 65408, 131071, 262143, 524287]
theorem bits_Put.tab9 : rtab .any (opsOf Tryd.f34 9) = bits_Put.T9 := by kernel_rfl
theorem bits_Put.bits9 : waitsOk bits_Put.T9.2 bits_Put.B9 = true := by kernel_rfl
set_option maxHeartbeats 8000000 in
set_option maxRecDepth 100000 in
theorem bits_Put.calls (k : Nat) (A0_0 : Option Addr) (c0_0 : Nat) (l0_0 : List Int) (a0_1 : Int) (a1 : Int) (a2 : Int) (r1 : List Int) (r2 : Int) (w : World) (hr0_0 : Kd.C (Kd.int .u8) w A0_0 l0_0.length l0_0) (hc0_0 : l0_0.length ≤ c0_0) (h : bits_Put.f k l0_0 a0_1 a1 a2 = some (r1, r2)) :
  Calls Tryd.prog 34 #[.agg #[.slice A0_0 l0_0.length c0_0, .int .i64 a0_1], .int .u64 a1, .int .i64 a2] w fun e w' => ∃ v0_ : Value, e = .returned (.agg #[v0_, .int .i64 r2]) ∧ Kd.R (Kd.int .u8) 5 w' w.heap.size (fun _ => True) v0_ r1 ∧ Below w.heap.size w w' := by
 have hu56 := Tryd.underlying56; have HR0_0 := Aside0.mk hr0_0; have HC0_0 := Aside0.mk hc0_0; clear hr0_0 hc0_0; have HB := Aside0.mk (Below.refl w.heap.size w); have H : ((slices_Clone_byte_byte.f l0_0).bind fun t117 => (if a2 < 0 then (bits_Put.j0 k a1 a2 true t117 a0_1) else (bits_Put.j0 k a1 a2 (decide (a2 > 64)) t117 a0_1))) = some (r1, r2) := h; clear h; replace H := Option.bind_eq_some_iff.mp H; obtain ⟨t117, A40, H⟩ := H; replace H : (if a2 < 0 then (bits_Put.j0 k a1 a2 true t117 a0_1) else (bits_Put.j0 k a1 a2 (decide (a2 > 64)) t117 a0_1)) = some (r1, r2) := H; have A4 := Aside0.mk A40; clear A40; have HC5 := Aside0.mk H; clear H
 go_enter Tryd.func34, Tryd.ntmps34
 go_upto_region 2 with (first | ((with_reducible refine gate_dst (N := 3) rfl ?_); refine box_event ?hg (N := 3) ?hd (cs := #[.slice A0_0 l0_0.length c0_0, .int .i64 a0_1]) (t := 56) ?hr ?_; (case hd => rfl); (case hg => rfl); (case hr => first | (go_simp; done) | (go_simp; rfl)); intro gb115 hg w6 hbox hb; have BK115 := Aside0.mk (hbox); have GW115 := kG hg HB; have GE115 := kG hg HB; replace HB := kH HB hb; clear hb hbox hg) | ((with_reducible refine gate_dst (N := 6) rfl ?_); refine box_event ?hg (N := 6) ?hd (cs := #[.slice none 0 0, .int .i64 0]) (t := 56) ?hr ?_; (case hd => rfl); (case hg => rfl); (case hr => first | (go_simp; done) | (go_simp; rfl)); intro gb116 hg w7 hbox hb; have BK116 := Aside0.mk (hbox); have GW116 := kG hg HB; have GE116 := kG hg HB; replace HB := kH HB hb; obtain ⟨NB115_116, NB116_115⟩ := kN hg BK115; replace BK115 := kB BK115 hb; clear hb hbox hg; have hnb8 := NB115_116.out; have hnc8 := NB116_115.out; have hcz9_0 : w7.cell? ⟨gb115, 0, none⟩ = some (.slice A0_0 l0_0.length c0_0) := (blk_cell BK115.out 0).trans rfl; have hcz9_1 : w7.cell? ⟨gb115, 1, none⟩ = some (.int .i64 a0_1) := (blk_cell BK115.out 1).trans rfl; have hfz9_0 := blk_frozen BK115.out 0; have hfz9_1 := blk_frozen BK115.out 1) | ((with_reducible refine gate_callee (f := 38) rfl ?_); refine goesL_ (some 10) rfl rfl Tryd.func38 (by kernel_rfl) rfl #[.slice A0_0 l0_0.length c0_0] rfl km ?_; (with_reducible refine (slices_Clone_byte_byte.calls _ _ l0_0 t117 _ ?side1 ?side2 A4.out).mono ?_); (case side1 => repeat (first | exact (Kd.C_below HR0_0.out HB.out) | (with_reducible refine Kd.C_alloc ?_ _) | (with_reducible refine Kd.C_drewN ?_ _) | (with_reducible refine Kd.C_drew ?_))); (case side2 => exact HC0_0.out); rintro e w10 ⟨v118, rfl, ho0, hb⟩; refine ⟨_, rfl, ?_⟩; have HO119 := Aside0.mk (Kd.R_lower ho0 (below_size (kl HB))); replace BK115 := kB BK115 hb; replace BK116 := kB BK116 hb; replace HB := kH HB hb; (try clear hb); (try clear hb2); (try clear hk); (try clear hi); (try clear hgw); (try clear ho0); obtain ⟨Ao11, co11, eo11⟩ := Kd.R_slice HO119.out; subst eo11; have hcz12_0 : w10.cell? ⟨gb115, 0, none⟩ = some (.slice A0_0 l0_0.length c0_0) := (blk_cell BK115.out 0).trans rfl; have hcz12_1 : w10.cell? ⟨gb115, 1, none⟩ = some (.int .i64 a0_1) := (blk_cell BK115.out 1).trans rfl; have hfz12_0 := blk_frozen BK115.out 0; have hfz12_1 := blk_frozen BK115.out 1))
 (try simp only [Act.put, List.setIfInBounds_toArray, List.set_cons_zero, List.set_cons_succ])
 go_cut [17] (fun v17 wc => ∃ (kq : Nat) (x17_4 : Bool), v17 = .bool x17_4 ∧ Aside0 (bits_Put.j0 kq a1 a2 x17_4 t117 a0_1 = some (r1, r2)) ∧ Aside0 (kq ≤ k) ∧ Aside0 (Kd.R (Kd.int .u8) 5 wc w.heap.size (fun _ => True) (.slice Ao11 t117.length co11) t117) ∧ Aside0 (wc.heap[gb115]? = some (.cells #[(.slice Ao11 t117.length co11), .int .i64 a0_1] 56 (0, 0))) ∧ Aside0 (wc.heap[gb116]? = some (.cells #[(.slice none 0 0), .int .i64 0] 56 (0, 0))) ∧ Aside0 (Below w.heap.size w wc))
 case first =>
  have H := HC5.out; clear HC5
  by_cases c13 : a2 < 0
  ·rw [if_pos c13] at H; have c13b0 : decide (a2 < 0) = true := decide_eq_true c13; clear c13
   (first | rw [c13b0] | (simp only [i64_w, i32_w]; rw [c13b0]) | skip)
   have H' := Aside0.mk H; clear H
   go_wp2
   go_meet
   case rel => exact ⟨_, (true), (by first | rfl | (simp; done) | (simp [*]; done)), H', ⟨by first | omega | exact Nat.le_refl _⟩, ⟨by (with_reducible repeat (first | apply Kd.R_alloc | apply Kd.R_drewN | apply Kd.R_drew)); exact Kd.R_mono (Kd.R_far (p := ⟨gb115, 0, none⟩) (Kd.R_types HO119.out BK115.out (by decide)) (fun _ hk => hk.2) (.slice Ao11 t117.length co11)) (fun _ hk => trivial)⟩, ⟨(kb BK115)⟩, ⟨(kb BK116)⟩, ⟨(kl HB)⟩⟩
  ·rw [if_neg c13] at H; have c13b0 : decide (a2 < 0) = false := decide_eq_false c13; clear c13
   (first | rw [c13b0] | (simp only [i64_w, i32_w]; rw [c13b0]) | skip)
   have H' := Aside0.mk H; clear H
   go_wp2
   go_meet
   case rel => exact ⟨_, (decide (a2 > 64)), (by first | rfl | (simp; done) | (simp [*]; done)), H', ⟨by first | omega | exact Nat.le_refl _⟩, ⟨by (with_reducible repeat (first | apply Kd.R_alloc | apply Kd.R_drewN | apply Kd.R_drew)); exact Kd.R_mono (Kd.R_far (p := ⟨gb115, 0, none⟩) (Kd.R_types HO119.out BK115.out (by decide)) (fun _ hk => hk.2) (.slice Ao11 t117.length co11)) (fun _ hk => trivial)⟩, ⟨(kb BK115)⟩, ⟨(kb BK116)⟩, ⟨(kl HB)⟩⟩
 case rest =>
  clear HC5; (try clear c1); (try clear p2); (try clear c3); (try clear c8); (try clear c13); (try clear c13b0); (try clear hcz12_0); (try clear hcz12_1); (try clear hcz9_0); (try clear hcz9_1); (try clear hfz12_0); (try clear hfz12_1); (try clear hfz9_0); (try clear hfz9_1); obtain ⟨kq, x17_4, rfl, HA, HJ4, HO_116000, BK115, BK116, HB⟩ := hcut
  cases kq with
  | zero => exact absurd HA.out (by simp [bits_Put.j0])
  | succ kj4 =>
   have H := HA.out; clear HA; simp only [bits_Put.j0] at H
   by_cases c14 : x17_4 = true
   ·subst c14
    have H1 : (some (t117, a0_1)) = some (r1, r2) := by rw [if_pos rfl] at H; exact H
    clear H; have H := H1; clear H1; simp only [Option.some.injEq, Prod.mk.injEq] at H; obtain ⟨rfl, rfl⟩ := H; have hnb15 := NB115_116.out; have hnc15 := NB116_115.out; obtain ⟨hcz16_0, hcz16_1⟩ := kc2 BK115; obtain ⟨hfz16_0, hfz16_1⟩ := kf2 BK115; obtain ⟨hcz17_0, hcz17_1⟩ := kc2 BK116; obtain ⟨hfz17_0, hfz17_1⟩ := kf2 BK116
    go_wp2
    refine bodyPost_ret (results_cell_row rfl _ _ gb116 56 #[.slice Ao11 t117.length co11, .int .i64 a0_1] (0, 0) _ rfl (kb BK116) Tryd.underlying56 rfl (by kernel_rfl)) rfl ?_
    exact ⟨_, by first | rfl | (simp [errW_none, errW_some] <;> rfl) | (simp [*, errW_none, errW_some] <;> rfl), by (with_reducible repeat (first | apply Kd.R_alloc | apply Kd.R_drewN | apply Kd.R_drew)); exact Kd.R_mono (Kd.R_far (p := ⟨gb116, 1, none⟩) (Kd.R_far (p := ⟨gb116, 0, none⟩) (Kd.R_types HO_116000.out BK116.out (by decide)) (fun _ hk => hk.2) (.slice Ao11 t117.length co11)) (fun _ hk => hk.2) (.int .i64 a0_1)) (fun _ hk => trivial), (kl HB)⟩
   ·replace c14 := Bool.eq_false_iff.mpr c14; subst c14
    have H1 : (bits_Put.l0 kj4 a1 (wrap64 (a2 - 1)) t117 a0_1) = some (r1, r2) := by rw [if_neg (show ¬ (false = true) by decide)] at H; exact H
    clear H; have H := H1; clear H1; have H' := Aside0.mk H; clear H
    go_wp2
    go_loopg [7] kj4 (fun kq v7 w' => ∃ (x7_2 : Int) (x116000_2 : List Int) (x116001_2 : Int) (u116000 : Value), v7 = .int .i64 x7_2 ∧ Aside0 (bits_Put.l0 kq a1 x7_2 x116000_2 x116001_2 = some (r1, r2)) ∧ Aside0 (kq ≤ kj4) ∧ Aside0 (Kd.R (Kd.int .u8) 5 w' w.heap.size (fun _ => True) u116000 x116000_2) ∧ Aside0 (w'.heap[gb115]? = some (.cells #[u116000, .int .i64 x116001_2] 56 (0, 0))) ∧ Aside0 (w'.heap[gb116]? = some (.cells #[(.slice none 0 0), .int .i64 0] 56 (0, 0))) ∧ Aside0 (Below w.heap.size w w'))
    case atStart => exact ⟨(wrap64 (a2 - 1)), (t117), (a0_1), (.slice Ao11 t117.length co11), (by first | rfl | (simp; done) | (simp [*]; done)), H', ⟨Nat.le_refl _⟩, ⟨kr HO_116000⟩, ⟨kb BK115⟩, ⟨kb BK116⟩, ⟨(kl HB)⟩⟩
    case round =>
     clear H'; (try clear c1); (try clear p2); (try clear c3); (try clear p6); (try clear c8); (try clear c13); (try clear c13b0); (try clear c14); (try clear c15); (try clear hcz12_0); (try clear hcz12_1); (try clear hcz16_0); (try clear hcz16_1); (try clear hcz17_0); (try clear hcz17_1); (try clear hcz9_0); (try clear hcz9_1); (try clear hfz12_0); (try clear hfz12_1); (try clear hfz16_0); (try clear hfz16_1); (try clear hfz17_0); (try clear hfz17_1); (try clear hfz9_0); (try clear hfz9_1); (try clear p2); obtain ⟨x7_2, x116000_2, x116001_2, u116000, rfl, HA, HK2, HO_116000, BK115, BK116, HB⟩ := hrel
     cases gk with
     | zero => exact absurd HA.out (by simp [bits_Put.l0])
     | succ k2 =>
      have H := HA.out; clear HA; simp only [bits_Put.l0] at H
      by_cases c18 : x7_2 ≥ 0
      ·rw [if_pos c18] at H; have c18b0 : decide (0 ≤ x7_2) = true := decide_eq_true c18; clear c18
       by_cases c19 : (Int.tmod x116001_2 8) = 0
       ·rw [if_pos c19] at H; have c19b0 : ((Int.tmod x116001_2 8) == 0) = true := beq_iff_eq.mpr c19; have c19b1 : ((Int.tmod x116001_2 8) != 0) = false := bne_eq_false_iff_eq.mpr c19; clear c19
        by_cases c20 : x116000_2.length < 140737488355328
        ·rw [if_pos c20] at H; have LMc20 := Aside0.mk c20; clear c20; obtain ⟨y120, hy120⟩ : ∃ y_ : List Int, y_ = (x116000_2 ++ [0]) := ⟨_, rfl⟩
         replace H : (if 0 ≤ (wrap64 (Int.tdiv x116001_2 8)) then (if (wrap64 (Int.tdiv x116001_2 8)) < (y120.length : Int) then (if 0 ≤ x7_2 then (if 0 ≤ (wrap64 (7 - (Int.tmod x116001_2 8))) then (bits_Put.l0 k2 a1 (wrap64 (x7_2 - 1)) (y120.set ((wrap64 (Int.tdiv x116001_2 8)) : Int).toNat (Go.bits .or .u8 (rd y120 (wrap64 (Int.tdiv x116001_2 8))) (shl .u8 ((Go.bits .and .u64 (shr .u64 a1 x7_2) 1) % 256) (wrap64 (7 - (Int.tmod x116001_2 8)))))) (wrap64 (x116001_2 + 1))) else (none)) else (none)) else (none)) else (none)) = some (r1, r2) := by first | (rw [hy120]; with_reducible exact H) | (have H2_ := (Option.bind_some _ _).symm.trans H; rw [hy120]; with_reducible exact H2_) | (have H2_ := (Option.bind_some _ _).symm.trans H; with_reducible exact H2_) | with_reducible exact H | (rw [hy120]; exact H) | exact H
         have Ny120 := Aside0.mk hy120; clear hy120; obtain ⟨ji21, hji21⟩ : ∃ j_ : Int, (wrap64 (Int.tdiv x116001_2 8)) = j_ := ⟨_, rfl⟩
         replace H : (if 0 ≤ (ji21) then (if (ji21) < (y120.length : Int) then (if 0 ≤ x7_2 then (if 0 ≤ (wrap64 (7 - (Int.tmod x116001_2 8))) then (bits_Put.l0 k2 a1 (wrap64 (x7_2 - 1)) (y120.set ((ji21) : Int).toNat (Go.bits .or .u8 (rd y120 (ji21)) (shl .u8 ((Go.bits .and .u64 (shr .u64 a1 x7_2) 1) % 256) (wrap64 (7 - (Int.tmod x116001_2 8)))))) (wrap64 (x116001_2 + 1))) else (none)) else (none)) else (none)) else (none)) = some (r1, r2) := by first | (rw [hji21] at H; exact H) | (simp only [hji21] at H ⊢; exact H)
         have hji21w : (IntKind.i64.wrap (Int.tdiv x116001_2 8)) = ji21 := (i64_w _).trans hji21
         by_cases c22 : 0 ≤ (ji21)
         ·rw [if_pos c22] at H; have c22b0 : decide (0 ≤ (ji21)) = true := decide_eq_true c22; clear c22
          by_cases c23 : (ji21) < (y120.length : Int)
          ·rw [if_pos c23] at H; have c23b0 : decide ((ji21) < (y120.length : Int)) = true := decide_eq_true c23; clear c23
           by_cases c24 : 0 ≤ x7_2
           ·rw [if_pos c24] at H; have c24b0 := eq_true c24; have c24b1 : decide (0 ≤ x7_2) = true := decide_eq_true c24; clear c24; obtain ⟨ji25, hji25⟩ : ∃ j_ : Int, (shr .u64 a1 x7_2) = j_ := ⟨_, rfl⟩
            replace H : (if 0 ≤ (wrap64 (7 - (Int.tmod x116001_2 8))) then (bits_Put.l0 k2 a1 (wrap64 (x7_2 - 1)) (y120.set ((ji21) : Int).toNat (Go.bits .or .u8 (rd y120 (ji21)) (shl .u8 ((Go.bits .and .u64 (ji25) 1) % 256) (wrap64 (7 - (Int.tmod x116001_2 8)))))) (wrap64 (x116001_2 + 1))) else (none)) = some (r1, r2) := by first | (rw [hji25] at H; exact H) | (simp only [hji25] at H ⊢; exact H)
            have hji25_ : (a1 / 2 ^ min x7_2.toNat 64) = ji25 := hji25; have hji25z : x7_2 ≤ 64 → (a1 / 2 ^ x7_2.toNat) = ji25 := shr_small hji25; obtain ⟨ji26, hji26⟩ : ∃ j_ : Int, (wrap64 (7 - (Int.tmod x116001_2 8))) = j_ := ⟨_, rfl⟩
            replace H : (if 0 ≤ (ji26) then (bits_Put.l0 k2 a1 (wrap64 (x7_2 - 1)) (y120.set ((ji21) : Int).toNat (Go.bits .or .u8 (rd y120 (ji21)) (shl .u8 ((Go.bits .and .u64 (ji25) 1) % 256) (ji26)))) (wrap64 (x116001_2 + 1))) else (none)) = some (r1, r2) := by first | (rw [hji26] at H; exact H) | (simp only [hji26] at H ⊢; exact H)
            have hji26w : (IntKind.i64.wrap (7 - (Int.tmod x116001_2 8))) = ji26 := (i64_w _).trans hji26
            by_cases c27 : 0 ≤ (ji26)
            ·rw [if_pos c27] at H; have c27b0 := eq_true c27; have c27b1 : decide (0 ≤ (ji26)) = true := decide_eq_true c27; clear c27; obtain ⟨ji28, hji28⟩ : ∃ j_ : Int, (shl .u8 ((Go.bits .and .u64 (ji25) 1) % 256) (ji26)) = j_ := ⟨_, rfl⟩
             replace H : (bits_Put.l0 k2 a1 (wrap64 (x7_2 - 1)) (y120.set ((ji21) : Int).toNat (Go.bits .or .u8 (rd y120 (ji21)) (ji28))) (wrap64 (x116001_2 + 1))) = some (r1, r2) := by first | (rw [hji28] at H; exact H) | (simp only [hji28] at H ⊢; exact H)
             have hji28_ : (IntKind.u8.wrap (((Go.bits .and .u64 (ji25) 1) % 256) * 2 ^ min (ji26).toNat 8)) = ji28 := hji28; have hji28z : (ji26) ≤ 8 → (IntKind.u8.wrap (((Go.bits .and .u64 (ji25) 1) % 256) * 2 ^ (ji26).toNat)) = ji28 := shl_small hji28; have hji28m : (((Go.bits .and .u64 (ji25) 1) % 256) * 2 ^ min (ji26).toNat 8) % 256 = ji28 := (IntKind.wrap_u8 _).symm.trans hji28_
             have hji28n : (ji26) ≤ 8 → (((Go.bits .and .u64 (ji25) 1) % 256) * 2 ^ (ji26).toNat) % 256 = ji28 := fun h_ => (IntKind.wrap_u8 _).symm.trans (hji28z h_)
             have hji28k : IntKind.u8.wrap (IntKind.u8.wrap (Go.bits .and .u64 (ji25) 1) * 2 ^ min (ji26).toNat 8) = ji28 := by rw [IntKind.wrap_u8, IntKind.wrap_u8]; exact hji28m
             have hji28l : (ji26) ≤ 8 → IntKind.u8.wrap (IntKind.u8.wrap (Go.bits .and .u64 (ji25) 1) * 2 ^ (ji26).toNat) = ji28 := fun h_ => by rw [IntKind.wrap_u8, IntKind.wrap_u8]; exact hji28n h_
             obtain ⟨y124, hy124⟩ : ∃ y_ : List Int, y_ = (y120.set ((ji21) : Int).toNat (Go.bits .or .u8 (rd y120 (ji21)) (ji28))) := ⟨_, rfl⟩
             replace H : (bits_Put.l0 k2 a1 (wrap64 (x7_2 - 1)) y124 (wrap64 (x116001_2 + 1))) = some (r1, r2) := by first | (rw [hy124]; with_reducible exact H) | (have H2_ := (Option.bind_some _ _).symm.trans H; rw [hy124]; with_reducible exact H2_) | (have H2_ := (Option.bind_some _ _).symm.trans H; with_reducible exact H2_) | with_reducible exact H | (rw [hy124]; exact H) | exact H
             have Ny124 := Aside0.mk hy124; clear hy124; have H' := Aside0.mk H; clear H; have hnb30 := NB115_116.out; have hnc30 := NB116_115.out; obtain ⟨hcz31_0, hcz31_1⟩ := kc2 BK115; obtain ⟨hfz31_0, hfz31_1⟩ := kf2 BK115
             try go_wp2_with (first | ((with_reducible refine gate_builtin (b := .append) (xs := #[.tmp 30, .tmp 31]) rfl ?_); at_builtin; refine Kd.R_append (Kd.int .u8) (w0 := w) w.heap.size rfl (.tmp 30) (.tmp 31) 23 5 (.int .u8 0) 1 rfl Tryd.underlying23 info5 rfl (by decide) (by omega) u116000 x116000_2 0 [.int .u8 0] (fun _ => True) (fun _ => False) rfl rfl ?aP (fun _ hk => hk.elim) ?aF ?aO ?aB ?aS ?aL ?_; (case aP => exact rfl); (case aB => exact (kl HB)); (case aF => exact (fun _ _ => trivial)); (case aO => exact (kr HO_116000)); (case aS => exact (below_size (kl HB))); (case aL => have := LMc20.out; omega); intro v121 w32 ho hb hg hat; rw [← Ny120.out] at ho; have n0_ := Aside0.mk (blk_grown (g := gb115) (o := .cells #[u116000, .int .i64 x116001_2] 56 (0, 0)) (kb BK115) hg (Kd.R_ne HO_116000.out BK115.out (by decide))); have n1_ := Aside0.mk (blk_grown (g := gb116) (o := .cells #[.slice none 0 0, .int .i64 0] 56 (0, 0)) (kb BK116) hg (Kd.R_ne HO_116000.out BK116.out (by decide))); have n2_ := Aside0.mk (hb); have n3_ := Aside0.mk (ho); clear BK115; clear BK116; clear HB; clear HO_116000; have BK115 := n0_; have BK116 := n1_; have HB := n2_; have HO122 := n3_; clear n0_ n1_ n2_ n3_; clear ho hb hg hat; obtain ⟨Ao33, co33, eo33⟩ := Kd.R_slice HO122.out; subst eo33; have hcz34_0 : w32.cell? ⟨gb115, 0, none⟩ = some (u116000) := (blk_cell BK115.out 0).trans rfl; have hcz34_1 : w32.cell? ⟨gb115, 1, none⟩ = some (.int .i64 x116001_2) := (blk_cell BK115.out 1).trans rfl; have hfz34_0 := blk_frozen BK115.out 0; have hfz34_1 := blk_frozen BK115.out 1))
             generalize hw_ : (w32.setCell ⟨gb115, 0, none⟩ (.slice Ao33 y120.length co33)) = w35; have n0_ : Aside0 (Kd.R (Kd.int .u8) 5 w35 w.heap.size (fun _ => True) (.slice Ao33 y120.length co33) y120) := ⟨by rw [← hw_]; (with_reducible repeat (first | apply Kd.R_alloc | apply Kd.R_drewN | apply Kd.R_drew)); exact Kd.R_mono (Kd.R_far (p := ⟨gb115, 0, none⟩) (Kd.R_types HO122.out BK115.out (by decide)) (fun _ hk => hk.2) (.slice Ao33 y120.length co33)) (fun _ hk => trivial)⟩; have n1_ : Aside0 (w35.heap[gb115]? = some (.cells #[.slice Ao33 y120.length co33, .int .i64 x116001_2] 56 (0, 0))) := ⟨by rw [← hw_]; exact kb BK115⟩; have n2_ : Aside0 (w35.heap[gb116]? = some (.cells #[.slice none 0 0, .int .i64 0] 56 (0, 0))) := ⟨by rw [← hw_]; exact kb BK116⟩; have n3_ : Aside0 (Below w.heap.size w w35) := ⟨by rw [← hw_]; repeat (first | (with_reducible first | exact HB.out | apply below_alloc | apply pw_below_drewN | apply below_drew1 | refine below_set ?_ GE115.out | refine below_set ?_ GE116.out) | exact HB.out)⟩; (try clear HO122); (try clear BK115); (try clear BK116); (try clear HB); clear hw_; have HO122 := n0_; have BK115 := n1_; have BK116 := n2_; have HB := n3_; clear n0_ n1_ n2_ n3_; replace HO122 := Aside0.mk (Kd.R_drew HO122.out); replace BK115 := Aside0.mk (blk_drew BK115.out); replace BK116 := Aside0.mk (blk_drew BK116.out); replace HB := Aside0.mk (below_drew1 HB.out); have p123 : 0 ≤ ((ji21) : Int) := of_decide_eq_true (by first | (with_reducible assumption) | assumption); have q123 : (ji21) < (y120.length : Int) := of_decide_eq_true (by first | (with_reducible assumption) | assumption); obtain ⟨ad123, e123, hx123_0⟩ := Kd.at_int (Kd.R_reads' HO122.out).2.2 (ji21) p123 q123
             cases e123
             replace p123 := eq_true p123
             (try (have q123s := q123; simp only [List.length_drop, List.length_take] at q123s; replace q123s := eq_true q123s)); replace q123 := eq_true q123
             have p29 : 0 ≤ ((ji21) : Int) := of_decide_eq_true (by first | (with_reducible assumption) | assumption); have q29 : ((ji21) : Int) < ((y120.length : Int) : Int) := of_decide_eq_true (by first | (with_reducible assumption) | assumption); obtain ⟨go29, co29, eo29, gb29, gl29, cl29, HG29⟩ := Kd.R_form HO122.out (by omega)
             (first | cases eo29 | (injection eo29 with ea_ en_ ec_; (first | subst ea_ | (injection ea_ with ea_; subst ea_)); subst ec_; clear en_))
             have GB29 := Aside0.mk gb29; have GG29 := Aside0.mk HG29; clear gb29 gl29 HG29
             (first | simp only [add_plain] at hx123_0 | skip)
             obtain ⟨hx29_0, hf29_0⟩ := Kd.R_celln 0 HO122.out ((ji21) : Int) p29 q29; replace p29 := eq_true p29
             (try (have q29s := q29; simp only [List.length_drop, List.length_take] at q29s; replace q29s := eq_true q29s)); replace q29 := eq_true q29
             have HP37 := Kd.R_putn HO122.out ((ji21) : Int) (Go.bits .or .u8 (rd y120 (ji21)) (ji28)); rw [← Ny124.out] at HP37; have HQ37 := Aside0.mk HP37; clear HP37
             refine start_ (n := 20) (S := fun w' => w'.cell? ⟨gb115, 0, none⟩ = some (.slice (some ⟨go29, 0, none⟩) y120.length co33) ∧ w'.cell? ⟨gb115, 1, none⟩ = some (.int .i64 x116001_2) ∧ w'.cell? ⟨go29, ((ji21)).toNat, none⟩ = some (.int .u8 (rd y120 (ji21)))) (ds := [19]) (bl 20 0) (by kernel_rfl) rfl rfl ⟨(blk_cell BK115.out 0).trans rfl, (blk_cell BK115.out 1).trans rfl, hx123_0⟩ (fun hHeld => ?_); refine with_tabW bits_Put.tab9 bits_Put.bits9 (fun HT_ HW_ => ?_)
             generalize w35.drew = w36 at HO122 BK115 BK116 HB GG29 HQ37 hf29_0 hx123_0 hx29_0 hHeld ⊢; refine pu 0 (some 34) (bl 20 1) (h := ?_); refine pu 2 (some 36) (bl 20 5) (h := ?_); refine pu 7 (some 41) (bl 20 133) (h := ?_); refine pu 8 (some 42) (bl 20 389) (h := ?_); refine pu 9 (some 43) (bl 20 901) (h := ?_); refine pu 10 (some 44) (bl 20 1925) (h := ?_); refine pu 11 (some 45) (bl 20 3973) (h := ?_); refine pu 12 (some 46) (bl 20 8069) (h := ?_); refine ta 1 (some 35) (bl 20 8071) (h := ?_); refine ta 3 (some 37) (bl 20 8079) (h := ?_); refine pu 4 (some 38) (bl 20 8095) (h := ?_); refine pu 5 (some 39) (bl 20 8127) (h := ?_); refine ta 6 (some 40) (bl 20 8191) (h := ?_); refine ta 13 (some 47) (bl 20 16383) (h := ?_); refine pu 14 (some 48) (bl 20 32767) (h := ?_); refine pu 15 (some 49) (bl 20 65535) (h := ?_); refine pu 16 (some 50) (bl 20 131071) (h := ?_); refine pu 17 (some 51) (bl 20 262143) (h := ?_); refine pu 18 (some 52) (bl 20 524287) (h := ?_); refine last_ (i := 19) (N := none) #[true, true, true, true, true, true, true, true, true, true, true, true, true, true, true, true, true, true, true, true] rfl rfl (one_of HT_.out (by kernel_rfl)) (by decide) (fun K hK => ?_); refine skip_ (w1 := ?_) (by rfl) rfl ?_ ?_
             rotate_left
             ·go_simp
              rfl
             refine hK.out _ _ ?_; clear hK K; refine done_ (done_of HT_.out (by kernel_rfl)) ?_; generalize hw_ : (w36.setCell ⟨go29, ((ji21) : Int).toNat, none⟩ (.int .u8 (Go.bits .or .u8 (rd y120 (ji21)) (ji28)))) = w38; have n0_ : Aside0 (Kd.R (Kd.int .u8) 5 w38 w.heap.size (fun _ => True) (.slice (some ⟨go29, 0, none⟩) y120.length co33) y124) := ⟨by rw [← hw_]; (with_reducible repeat (first | apply Kd.R_alloc | apply Kd.R_drewN | apply Kd.R_drew)); exact HQ37.out⟩; have n1_ : Aside0 (w38.heap[gb115]? = some (.cells #[.slice (some ⟨go29, 0, none⟩) y120.length co33, .int .i64 x116001_2] 56 (0, 0))) := ⟨by rw [← hw_]; (with_reducible repeat (first | refine blk_drewN ?_ _ | refine blk_drew ?_ | refine blk_alloc ?_ _)); refine blk_far ?_ (by have h_ := Kd.R_ne HO122.out BK115.out (by decide); intro e_; exact h_ (by rw [e_]; rfl)) _; (with_reducible repeat (first | refine blk_drewN ?_ _ | refine blk_drew ?_ | refine blk_alloc ?_ _)); exact BK115.out⟩; have n2_ : Aside0 (w38.heap[gb116]? = some (.cells #[.slice none 0 0, .int .i64 0] 56 (0, 0))) := ⟨by rw [← hw_]; (with_reducible repeat (first | refine blk_drewN ?_ _ | refine blk_drew ?_ | refine blk_alloc ?_ _)); refine blk_far ?_ (by have h_ := Kd.R_ne HO122.out BK116.out (by decide); intro e_; exact h_ (by rw [e_]; rfl)) _; (with_reducible repeat (first | refine blk_drewN ?_ _ | refine blk_drew ?_ | refine blk_alloc ?_ _)); exact BK116.out⟩; have n3_ : Aside0 (Below w.heap.size w w38) := ⟨by rw [← hw_]; repeat (first | (with_reducible first | exact HB.out | apply below_alloc | apply pw_below_drewN | apply below_drew1 | refine below_set ?_ GB29.out | refine below_set ?_ GE115.out | refine below_set ?_ GE116.out) | exact HB.out)⟩; (try clear HO122); (try clear BK115); (try clear BK116); (try clear HB); clear hw_; have HO122 := n0_; have BK115 := n1_; have BK116 := n2_; have HB := n3_; clear n0_ n1_ n2_ n3_; obtain ⟨hcz39_0, hcz39_1⟩ := kc2 BK115; obtain ⟨hfz39_0, hfz39_1⟩ := kf2 BK115
             try go_wp2
             go_roundg k2
             case measure => have := HJ4.out; have := HK2.out; omega
             case rel => exact ⟨(wrap64 (x7_2 - 1)), (y124), (wrap64 (x116001_2 + 1)), (.slice (some ⟨go29, 0, none⟩) y120.length co33), (by first | rfl | (simp; done) | (simp [*]; done)), H', ⟨by have := HJ4.out; have := HK2.out; omega⟩, ⟨by (with_reducible repeat (first | apply Kd.R_alloc | apply Kd.R_drewN | apply Kd.R_drew)); exact Kd.R_mono (Kd.R_far (p := ⟨gb115, 1, none⟩) (Kd.R_types HO122.out BK115.out (by decide)) (fun _ hk => hk.2) (.int .i64 (wrap64 (x116001_2 + 1)))) (fun _ hk => trivial)⟩, ⟨(kb BK115)⟩, ⟨(kb BK116)⟩, ⟨(kl HB)⟩⟩
            ·rw [if_neg c27] at H
             exact absurd H (by simp)
           ·rw [if_neg c24] at H
            exact absurd H (by simp)
          ·rw [if_neg c23] at H
           exact absurd H (by simp)
         ·rw [if_neg c22] at H
          exact absurd H (by simp)
        ·rw [if_neg c20] at H
         exact absurd H (by simp)
       ·rw [if_neg c19] at H; have c19b0 : ((Int.tmod x116001_2 8) == 0) = false := beq_eq_false_iff_ne.mpr c19; have c19b1 : ((Int.tmod x116001_2 8) != 0) = true := bne_iff_ne.mpr c19; obtain ⟨ji40, hji40⟩ : ∃ j_ : Int, (wrap64 (Int.tdiv x116001_2 8)) = j_ := ⟨_, rfl⟩
        replace H : (if 0 ≤ (ji40) then (if (ji40) < (x116000_2.length : Int) then (if 0 ≤ x7_2 then (if 0 ≤ (wrap64 (7 - (Int.tmod x116001_2 8))) then (bits_Put.l0 k2 a1 (wrap64 (x7_2 - 1)) (x116000_2.set ((ji40) : Int).toNat (Go.bits .or .u8 (rd x116000_2 (ji40)) (shl .u8 ((Go.bits .and .u64 (shr .u64 a1 x7_2) 1) % 256) (wrap64 (7 - (Int.tmod x116001_2 8)))))) (wrap64 (x116001_2 + 1))) else (none)) else (none)) else (none)) else (none)) = some (r1, r2) := by first | (rw [hji40] at H; exact H) | (simp only [hji40] at H ⊢; exact H)
        have hji40w : (IntKind.i64.wrap (Int.tdiv x116001_2 8)) = ji40 := (i64_w _).trans hji40
        by_cases c41 : 0 ≤ (ji40)
        ·rw [if_pos c41] at H; have c41b0 : decide (0 ≤ (ji40)) = true := decide_eq_true c41; clear c41
         by_cases c42 : (ji40) < (x116000_2.length : Int)
         ·rw [if_pos c42] at H; have c42b0 : decide ((ji40) < (x116000_2.length : Int)) = true := decide_eq_true c42; clear c42
          by_cases c43 : 0 ≤ x7_2
          ·rw [if_pos c43] at H; have c43b0 := eq_true c43; have c43b1 : decide (0 ≤ x7_2) = true := decide_eq_true c43; clear c43; obtain ⟨ji44, hji44⟩ : ∃ j_ : Int, (shr .u64 a1 x7_2) = j_ := ⟨_, rfl⟩
           replace H : (if 0 ≤ (wrap64 (7 - (Int.tmod x116001_2 8))) then (bits_Put.l0 k2 a1 (wrap64 (x7_2 - 1)) (x116000_2.set ((ji40) : Int).toNat (Go.bits .or .u8 (rd x116000_2 (ji40)) (shl .u8 ((Go.bits .and .u64 (ji44) 1) % 256) (wrap64 (7 - (Int.tmod x116001_2 8)))))) (wrap64 (x116001_2 + 1))) else (none)) = some (r1, r2) := by first | (rw [hji44] at H; exact H) | (simp only [hji44] at H ⊢; exact H)
           have hji44_ : (a1 / 2 ^ min x7_2.toNat 64) = ji44 := hji44; have hji44z : x7_2 ≤ 64 → (a1 / 2 ^ x7_2.toNat) = ji44 := shr_small hji44; obtain ⟨ji45, hji45⟩ : ∃ j_ : Int, (wrap64 (7 - (Int.tmod x116001_2 8))) = j_ := ⟨_, rfl⟩
           replace H : (if 0 ≤ (ji45) then (bits_Put.l0 k2 a1 (wrap64 (x7_2 - 1)) (x116000_2.set ((ji40) : Int).toNat (Go.bits .or .u8 (rd x116000_2 (ji40)) (shl .u8 ((Go.bits .and .u64 (ji44) 1) % 256) (ji45)))) (wrap64 (x116001_2 + 1))) else (none)) = some (r1, r2) := by first | (rw [hji45] at H; exact H) | (simp only [hji45] at H ⊢; exact H)
           have hji45w : (IntKind.i64.wrap (7 - (Int.tmod x116001_2 8))) = ji45 := (i64_w _).trans hji45
           by_cases c46 : 0 ≤ (ji45)
           ·rw [if_pos c46] at H; have c46b0 := eq_true c46; have c46b1 : decide (0 ≤ (ji45)) = true := decide_eq_true c46; clear c46; obtain ⟨ji47, hji47⟩ : ∃ j_ : Int, (shl .u8 ((Go.bits .and .u64 (ji44) 1) % 256) (ji45)) = j_ := ⟨_, rfl⟩
            replace H : (bits_Put.l0 k2 a1 (wrap64 (x7_2 - 1)) (x116000_2.set ((ji40) : Int).toNat (Go.bits .or .u8 (rd x116000_2 (ji40)) (ji47))) (wrap64 (x116001_2 + 1))) = some (r1, r2) := by first | (rw [hji47] at H; exact H) | (simp only [hji47] at H ⊢; exact H)
            have hji47_ : (IntKind.u8.wrap (((Go.bits .and .u64 (ji44) 1) % 256) * 2 ^ min (ji45).toNat 8)) = ji47 := hji47; have hji47z : (ji45) ≤ 8 → (IntKind.u8.wrap (((Go.bits .and .u64 (ji44) 1) % 256) * 2 ^ (ji45).toNat)) = ji47 := shl_small hji47; have hji47m : (((Go.bits .and .u64 (ji44) 1) % 256) * 2 ^ min (ji45).toNat 8) % 256 = ji47 := (IntKind.wrap_u8 _).symm.trans hji47_
            have hji47n : (ji45) ≤ 8 → (((Go.bits .and .u64 (ji44) 1) % 256) * 2 ^ (ji45).toNat) % 256 = ji47 := fun h_ => (IntKind.wrap_u8 _).symm.trans (hji47z h_)
            have hji47k : IntKind.u8.wrap (IntKind.u8.wrap (Go.bits .and .u64 (ji44) 1) * 2 ^ min (ji45).toNat 8) = ji47 := by rw [IntKind.wrap_u8, IntKind.wrap_u8]; exact hji47m
            have hji47l : (ji45) ≤ 8 → IntKind.u8.wrap (IntKind.u8.wrap (Go.bits .and .u64 (ji44) 1) * 2 ^ (ji45).toNat) = ji47 := fun h_ => by rw [IntKind.wrap_u8, IntKind.wrap_u8]; exact hji47n h_
            obtain ⟨y126, hy126⟩ : ∃ y_ : List Int, y_ = (x116000_2.set ((ji40) : Int).toNat (Go.bits .or .u8 (rd x116000_2 (ji40)) (ji47))) := ⟨_, rfl⟩
            replace H : (bits_Put.l0 k2 a1 (wrap64 (x7_2 - 1)) y126 (wrap64 (x116001_2 + 1))) = some (r1, r2) := by first | (rw [hy126]; with_reducible exact H) | (have H2_ := (Option.bind_some _ _).symm.trans H; rw [hy126]; with_reducible exact H2_) | (have H2_ := (Option.bind_some _ _).symm.trans H; with_reducible exact H2_) | with_reducible exact H | (rw [hy126]; exact H) | exact H
            have Ny126 := Aside0.mk hy126; clear hy126; have H' := Aside0.mk H; clear H; have hnb49 := NB115_116.out; have hnc49 := NB116_115.out; obtain ⟨hcz50_0, hcz50_1⟩ := kc2 BK115; obtain ⟨hfz50_0, hfz50_1⟩ := kf2 BK115
            try go_wp2
            replace HO_116000 := Aside0.mk (Kd.R_drew HO_116000.out); replace BK115 := Aside0.mk (blk_drew BK115.out); replace BK116 := Aside0.mk (blk_drew BK116.out); replace HB := Aside0.mk (below_drew1 HB.out); obtain ⟨Ao52, co52, eo52⟩ := Kd.R_slice HO_116000.out
            (first | subst eo52 | (injection eo52 with f1_ f2_ f3_; have f4_ := f1_.symm; have f5_ := f3_.symm; clear f1_ f2_ f3_; subst f4_; subst f5_))
            have p125 : 0 ≤ ((ji40) : Int) := of_decide_eq_true (by first | (with_reducible assumption) | assumption); have q125 : (ji40) < (x116000_2.length : Int) := of_decide_eq_true (by first | (with_reducible assumption) | assumption); obtain ⟨ad125, e125, hx125_0⟩ := Kd.at_int (Kd.R_reads' HO_116000.out).2.2 (ji40) p125 q125
            cases e125
            replace p125 := eq_true p125
            (try (have q125s := q125; simp only [List.length_drop, List.length_take] at q125s; replace q125s := eq_true q125s)); replace q125 := eq_true q125
            have p48 : 0 ≤ ((ji40) : Int) := of_decide_eq_true (by first | (with_reducible assumption) | assumption); have q48 : ((ji40) : Int) < ((x116000_2.length : Int) : Int) := of_decide_eq_true (by first | (with_reducible assumption) | assumption); obtain ⟨go48, co48, eo48, gb48, gl48, cl48, HG48⟩ := Kd.R_form HO_116000.out (by omega)
            (first | cases eo48 | (injection eo48 with ea_ en_ ec_; (first | subst ea_ | (injection ea_ with ea_; subst ea_)); subst ec_; clear en_))
            have GB48 := Aside0.mk gb48; have GG48 := Aside0.mk HG48; clear gb48 gl48 HG48
            (first | simp only [add_plain] at hx125_0 | skip)
            obtain ⟨hx48_0, hf48_0⟩ := Kd.R_celln 0 HO_116000.out ((ji40) : Int) p48 q48; replace p48 := eq_true p48
            (try (have q48s := q48; simp only [List.length_drop, List.length_take] at q48s; replace q48s := eq_true q48s)); replace q48 := eq_true q48
            have HP53 := Kd.R_putn HO_116000.out ((ji40) : Int) (Go.bits .or .u8 (rd x116000_2 (ji40)) (ji47)); rw [← Ny126.out] at HP53; have HQ53 := Aside0.mk HP53; clear HP53
            refine start_ (n := 20) (S := fun w' => w'.cell? ⟨gb115, 0, none⟩ = some (.slice (some ⟨go48, 0, none⟩) x116000_2.length co52) ∧ w'.cell? ⟨gb115, 1, none⟩ = some (.int .i64 x116001_2) ∧ w'.cell? ⟨go48, ((ji40)).toNat, none⟩ = some (.int .u8 (rd x116000_2 (ji40)))) (ds := [19]) (bl 20 0) (by kernel_rfl) rfl rfl ⟨(blk_cell BK115.out 0).trans rfl, (blk_cell BK115.out 1).trans rfl, hx125_0⟩ (fun hHeld => ?_); refine with_tabW bits_Put.tab9 bits_Put.bits9 (fun HT_ HW_ => ?_)
            generalize wr.drew = w51 at HO_116000 BK115 BK116 HB GG48 HQ53 hf48_0 hx125_0 hx48_0 hHeld ⊢; refine pu 0 (some 34) (bl 20 1) (h := ?_); refine pu 2 (some 36) (bl 20 5) (h := ?_); refine pu 7 (some 41) (bl 20 133) (h := ?_); refine pu 8 (some 42) (bl 20 389) (h := ?_); refine pu 9 (some 43) (bl 20 901) (h := ?_); refine pu 10 (some 44) (bl 20 1925) (h := ?_); refine pu 11 (some 45) (bl 20 3973) (h := ?_); refine pu 12 (some 46) (bl 20 8069) (h := ?_); refine ta 1 (some 35) (bl 20 8071) (h := ?_); refine ta 3 (some 37) (bl 20 8079) (h := ?_); refine pu 4 (some 38) (bl 20 8095) (h := ?_); refine pu 5 (some 39) (bl 20 8127) (h := ?_); refine ta 6 (some 40) (bl 20 8191) (h := ?_); refine ta 13 (some 47) (bl 20 16383) (h := ?_); refine pu 14 (some 48) (bl 20 32767) (h := ?_); refine pu 15 (some 49) (bl 20 65535) (h := ?_); refine pu 16 (some 50) (bl 20 131071) (h := ?_); refine pu 17 (some 51) (bl 20 262143) (h := ?_); refine pu 18 (some 52) (bl 20 524287) (h := ?_); refine last_ (i := 19) (N := none) #[true, true, true, true, true, true, true, true, true, true, true, true, true, true, true, true, true, true, true, true] rfl rfl (one_of HT_.out (by kernel_rfl)) (by decide) (fun K hK => ?_); refine skip_ (w1 := ?_) (by rfl) rfl ?_ ?_
            rotate_left
            ·go_simp
             rfl
            refine hK.out _ _ ?_; clear hK K; refine done_ (done_of HT_.out (by kernel_rfl)) ?_; generalize hw_ : (w51.setCell ⟨go48, ((ji40) : Int).toNat, none⟩ (.int .u8 (Go.bits .or .u8 (rd x116000_2 (ji40)) (ji47)))) = w54; have n0_ : Aside0 (Kd.R (Kd.int .u8) 5 w54 w.heap.size (fun _ => True) (.slice (some ⟨go48, 0, none⟩) x116000_2.length co52) y126) := ⟨by rw [← hw_]; (with_reducible repeat (first | apply Kd.R_alloc | apply Kd.R_drewN | apply Kd.R_drew)); exact HQ53.out⟩; have n1_ : Aside0 (w54.heap[gb115]? = some (.cells #[.slice (some ⟨go48, 0, none⟩) x116000_2.length co52, .int .i64 x116001_2] 56 (0, 0))) := ⟨by rw [← hw_]; (with_reducible repeat (first | refine blk_drewN ?_ _ | refine blk_drew ?_ | refine blk_alloc ?_ _)); refine blk_far ?_ (by have h_ := Kd.R_ne HO_116000.out BK115.out (by decide); intro e_; exact h_ (by rw [e_]; rfl)) _; (with_reducible repeat (first | refine blk_drewN ?_ _ | refine blk_drew ?_ | refine blk_alloc ?_ _)); exact BK115.out⟩; have n2_ : Aside0 (w54.heap[gb116]? = some (.cells #[.slice none 0 0, .int .i64 0] 56 (0, 0))) := ⟨by rw [← hw_]; (with_reducible repeat (first | refine blk_drewN ?_ _ | refine blk_drew ?_ | refine blk_alloc ?_ _)); refine blk_far ?_ (by have h_ := Kd.R_ne HO_116000.out BK116.out (by decide); intro e_; exact h_ (by rw [e_]; rfl)) _; (with_reducible repeat (first | refine blk_drewN ?_ _ | refine blk_drew ?_ | refine blk_alloc ?_ _)); exact BK116.out⟩; have n3_ : Aside0 (Below w.heap.size w w54) := ⟨by rw [← hw_]; repeat (first | (with_reducible first | exact HB.out | apply below_alloc | apply pw_below_drewN | apply below_drew1 | refine below_set ?_ GB48.out | refine below_set ?_ GE115.out | refine below_set ?_ GE116.out) | exact HB.out)⟩; (try clear HO_116000); (try clear BK115); (try clear BK116); (try clear HB); clear hw_; have HO_116000 := n0_; have BK115 := n1_; have BK116 := n2_; have HB := n3_; clear n0_ n1_ n2_ n3_; obtain ⟨hcz55_0, hcz55_1⟩ := kc2 BK115; obtain ⟨hfz55_0, hfz55_1⟩ := kf2 BK115
            try go_wp2
            go_roundg k2
            case measure => have := HJ4.out; have := HK2.out; omega
            case rel => exact ⟨(wrap64 (x7_2 - 1)), (y126), (wrap64 (x116001_2 + 1)), (.slice (some ⟨go48, 0, none⟩) x116000_2.length co52), (by first | rfl | (simp; done) | (simp [*]; done)), H', ⟨by have := HJ4.out; have := HK2.out; omega⟩, ⟨by (with_reducible repeat (first | apply Kd.R_alloc | apply Kd.R_drewN | apply Kd.R_drew)); exact Kd.R_mono (Kd.R_far (p := ⟨gb115, 1, none⟩) (Kd.R_types HO_116000.out BK115.out (by decide)) (fun _ hk => hk.2) (.int .i64 (wrap64 (x116001_2 + 1)))) (fun _ hk => trivial)⟩, ⟨(kb BK115)⟩, ⟨(kb BK116)⟩, ⟨(kl HB)⟩⟩
           ·rw [if_neg c46] at H
            exact absurd H (by simp)
          ·rw [if_neg c43] at H
           exact absurd H (by simp)
         ·rw [if_neg c42] at H
          exact absurd H (by simp)
        ·rw [if_neg c41] at H
         exact absurd H (by simp)
      ·rw [if_neg c18] at H; have c18b0 : decide (0 ≤ x7_2) = false := decide_eq_false c18; clear c18; simp only [Option.some.injEq, Prod.mk.injEq] at H; obtain ⟨rfl, rfl⟩ := H; have hnb56 := NB115_116.out; have hnc56 := NB116_115.out; obtain ⟨hcz57_0, hcz57_1⟩ := kc2 BK115; obtain ⟨hfz57_0, hfz57_1⟩ := kf2 BK115; obtain ⟨Ao58, co58, eo58⟩ := Kd.R_slice HO_116000.out; subst eo58; obtain ⟨hcz59_0, hcz59_1⟩ := kc2 BK116; obtain ⟨hfz59_0, hfz59_1⟩ := kf2 BK116
       go_wp2
       refine bodyPost_ret (results_cell_row rfl _ _ gb116 56 #[.slice Ao58 x116000_2.length co58, .int .i64 x116001_2] (0, 0) _ rfl (kb BK116) Tryd.underlying56 rfl (by kernel_rfl)) rfl ?_
       exact ⟨_, by first | rfl | (simp [errW_none, errW_some] <;> rfl) | (simp [*, errW_none, errW_some] <;> rfl), by (with_reducible repeat (first | apply Kd.R_alloc | apply Kd.R_drewN | apply Kd.R_drew)); exact Kd.R_mono (Kd.R_far (p := ⟨gb116, 1, none⟩) (Kd.R_far (p := ⟨gb116, 0, none⟩) (Kd.R_types HO_116000.out BK116.out (by decide)) (fun _ hk => hk.2) (.slice Ao58 x116000_2.length co58)) (fun _ hk => hk.2) (.int .i64 x116001_2)) (fun _ hk => trivial), (kl HB)⟩
end Go.Proofs.YtiahbcaoikoogabDoor.All
