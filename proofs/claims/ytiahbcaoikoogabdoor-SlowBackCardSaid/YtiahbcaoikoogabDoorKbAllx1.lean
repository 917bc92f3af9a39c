-- declarations that this claim needs, copied by a program of the session
import Derived.Test.YtiahbcaoikoogabDoorKbAllx12
section
namespace Go.Proofs.YtiahbcaoikoogabDoor.All
open Go.RowKit Go.Proofs.YtiahbcaoikoogabDoorW.PrintWords Go.Proofs.YtiahbcaoikoogabDoorW.PrintLast Go.Proofs.YtiahbcaoikoogabDoorW.PrintMore
attribute [local go_sem] max2_int min2_int max_two min_two max_three min_three max_four min_four   
set_option linter.unusedVariables false
set_option linter.unusedSimpArgs false
mutual
def slow_Decode.j0 : Nat → Int → List Int → Int → Bool → Option ((List (S48)) × Option Int)
 | 0, _, _, _, _ => none
 | k + 1, x0, x1, x2, x23 => if x23 = true then (some (([] : List (S48)), some 1)) else (slow_Decode.l0 k x0 x1 ([] : List (S48)) 0 x2 0 0 0 0 0 0 0 0 0)
def slow_Decode.l0 : Nat → Int → List Int → List (S48) → Int → Int → Int → Int → Int → Int → Int → Int → Int → Int → Int → Option ((List (S48)) × Option Int)
 | 0, _, _, _, _, _, _, _, _, _, _, _, _, _, _ => none
 | k + 1, x0, x1, x8, x10, x25, x26, x303000, x303001, x303002, x303003, x303004, x303005, x303006, x303007 => if x26 < x25 then ((kinds_Get.f k x0 x303000 x303001 x303002 x303003 x303004 x303005 x303006 x303007 x1 x10).bind fun bt303 => (if bt303.2.2.2.2.2.2.2.2.2.2.2.isNone = true then (if x8.length < 8796093022208 then (slow_Decode.l0 k x0 x1 (x8 ++ [(⟨bt303.1, bt303.2.1⟩ : S48)]) (wrap64 (x10 + bt303.2.2.2.2.2.2.2.2.2.2.1)) x25 (wrap64 (x26 + 1)) bt303.2.2.1 bt303.2.2.2.1 bt303.2.2.2.2.1 bt303.2.2.2.2.2.1 bt303.2.2.2.2.2.2.1 bt303.2.2.2.2.2.2.2.1 bt303.2.2.2.2.2.2.2.2.1 bt303.2.2.2.2.2.2.2.2.2.1) else (none)) else (some (x8, some (bt303.2.2.2.2.2.2.2.2.2.2.2.getD 0))))) else ((bits_Take.f k x1 x10 (mn (wrap64 ((wrap64 (8 * (x1.length : Int))) - x10)) 8)).bind fun bt321 => (if (wrap64 ((wrap64 (8 * (x1.length : Int))) - x10)) ≥ 8 then (some (x8, some 3)) else (if bt321.2 = true then (if bt321.1 = 0 then (some (x8, none)) else (some (x8, some 3))) else (some (x8, some 3)))))
end
def slow_Decode.f (k : Nat) (a0 : Int) (l1 : List Int) (a2 : Int) : Option ((List (S48)) × Option Int) := if a2 < 1 then (slow_Decode.j0 k a0 l1 a2 true) else (slow_Decode.j0 k a0 l1 a2 (decide (a2 > 65535)))
theorem slow_Decode.mono_l : ∀ k, (∀ y0 y1 y2 y3, LeO (slow_Decode.j0 k y0 y1 y2 y3) (slow_Decode.j0 (k + 1) y0 y1 y2 y3)) ∧ (∀ y0 y1 y2 y3 y4 y5 y6 y7 y8 y9 y10 y11 y12 y13, LeO (slow_Decode.l0 k y0 y1 y2 y3 y4 y5 y6 y7 y8 y9 y10 y11 y12 y13) (slow_Decode.l0 (k + 1) y0 y1 y2 y3 y4 y5 y6 y7 y8 y9 y10 y11 y12 y13))
 | 0 => ⟨fun _ _ _ _ r h => by simp [slow_Decode.j0] at h, fun _ _ _ _ _ _ _ _ _ _ _ _ _ _ r h => by simp [slow_Decode.l0] at h⟩
 | k + 1 => by
  obtain ⟨ih0, ih1⟩ := slow_Decode.mono_l k
  refine ⟨?_, ?_⟩
  ·intro y0 y1 y2 y3
   unfold slow_Decode.j0
   repeat' first
   | (with_reducible exact ih0 _ _ _ _)
   | (with_reducible exact ih1 _ _ _ _ _ _ _ _ _ _ _ _ _ _)
   | (with_reducible exact bits_Take.mono _ _ _ _)
   | (with_reducible exact kinds_Get.mono _ _ _ _ _ _ _ _ _ _ _ _)
   | (with_reducible exact LeO.refl _)
   | (with_reducible exact LeO.none _)
   | (with_reducible refine LeO.ite ?_ ?_)
   | (with_reducible refine LeO.bind ?_ (fun _ => ?_))
   | exact ih0 _ _ _ _
   | exact ih1 _ _ _ _ _ _ _ _ _ _ _ _ _ _
   | exact bits_Take.mono _ _ _ _
   | exact kinds_Get.mono _ _ _ _ _ _ _ _ _ _ _ _
   | exact LeO.none _
   | refine LeO.ite ?_ ?_
   | refine LeO.bind ?_ (fun _ => ?_)
  ·intro y0 y1 y2 y3 y4 y5 y6 y7 y8 y9 y10 y11 y12 y13
   unfold slow_Decode.l0
   repeat' first
   | (with_reducible exact ih0 _ _ _ _)
   | (with_reducible exact ih1 _ _ _ _ _ _ _ _ _ _ _ _ _ _)
   | (with_reducible exact bits_Take.mono _ _ _ _)
   | (with_reducible exact kinds_Get.mono _ _ _ _ _ _ _ _ _ _ _ _)
   | (with_reducible exact LeO.refl _)
   | (with_reducible exact LeO.none _)
   | (with_reducible refine LeO.ite ?_ ?_)
   | (with_reducible refine LeO.bind ?_ (fun _ => ?_))
   | exact ih0 _ _ _ _
   | exact ih1 _ _ _ _ _ _ _ _ _ _ _ _ _ _
   | exact bits_Take.mono _ _ _ _
   | exact kinds_Get.mono _ _ _ _ _ _ _ _ _ _ _ _
   | exact LeO.none _
   | refine LeO.ite ?_ ?_
   | refine LeO.bind ?_ (fun _ => ?_)
theorem slow_Decode.mono : ∀ a0 a1 a2 k, LeO (slow_Decode.f k a0 a1 a2) (slow_Decode.f (k + 1) a0 a1 a2) := by
 intro a0 a1 a2 k
 obtain ⟨ih0, ih1⟩ := slow_Decode.mono_l k
 unfold slow_Decode.f
 repeat' first
   | (with_reducible exact ih0 _ _ _ _)
   | (with_reducible exact ih1 _ _ _ _ _ _ _ _ _ _ _ _ _ _)
   | (with_reducible exact bits_Take.mono _ _ _ _)
   | (with_reducible exact kinds_Get.mono _ _ _ _ _ _ _ _ _ _ _ _)
   | (with_reducible exact LeO.refl _)
   | (with_reducible exact LeO.none _)
   | (with_reducible refine LeO.ite ?_ ?_)
   | (with_reducible refine LeO.bind ?_ (fun _ => ?_))
   | exact ih0 _ _ _ _
   | exact ih1 _ _ _ _ _ _ _ _ _ _ _ _ _ _
   | exact bits_Take.mono _ _ _ _
   | exact kinds_Get.mono _ _ _ _ _ _ _ _ _ _ _ _
   | exact LeO.none _
   | refine LeO.ite ?_ ?_
   | refine LeO.bind ?_ (fun _ => ?_)
set_option maxHeartbeats 8000000 in
set_option maxRecDepth 100000 in
theorem slow_Decode.calls (k : Nat) (a0 : Int) (A1 : Option Addr) (c1 : Nat) (l1 : List Int) (a2 : Int) (r1 : List (S48)) (r2 : Option Int) (w : World) (hT : TabOk w) (hr1 : Kd.C (Kd.int .u8) w A1 l1.length l1) (hc1 : l1.length ≤ c1) (h : slow_Decode.f k a0 l1 a2 = some (r1, r2)) :
  Calls Tryd.prog 10 #[.int .i64 a0, .slice A1 l1.length c1, .int .i64 a2] w fun e w' => ∃ v0_ : Value, e = .returned (.tuple #[v0_, errW r2]) ∧ Kd.R k48 48 w' w.heap.size (fun _ => True) v0_ r1 ∧ Below w.heap.size w w' := by
 have hu44 := Tryd.underlying44; have hu48 := Tryd.underlying48; have hu27 := Tryd.underlying27; have hu54 := Tryd.underlying54; have HT := Aside0.mk hT; clear hT; have HR1 := Aside0.mk hr1; have HC1 := Aside0.mk hc1; clear hr1 hc1; have HB := Aside0.mk (Below.refl w.heap.size w); have H : (if a2 < 1 then (slow_Decode.j0 k a0 l1 a2 true) else (slow_Decode.j0 k a0 l1 a2 (decide (a2 > 65535)))) = some (r1, r2) := h; clear h; have HC4 := Aside0.mk H; clear H
 go_enter Tryd.func10, Tryd.ntmps10
 go_upto_region 1 with (fail)
 go_cut [23] (fun v23 wc => ∃ (kq : Nat) (x23_3 : Bool), v23 = .bool x23_3 ∧ Aside0 (slow_Decode.j0 kq a0 l1 a2 x23_3 = some (r1, r2)) ∧ Aside0 (kq ≤ k) ∧ Aside0 (Below w.heap.size w wc))
 case first =>
  have H := HC4.out; clear HC4
  by_cases c5 : a2 < 1
  ·rw [if_pos c5] at H; have c5b0 : decide (a2 < 1) = true := decide_eq_true c5; clear c5
   (first | rw [c5b0] | (simp only [i64_w, i32_w]; rw [c5b0]) | skip)
   have H' := Aside0.mk H; clear H
   go_wp2
   go_meet
   case rel => exact ⟨_, (true), (by first | rfl | (simp; done) | (simp [*]; done)), H', ⟨by first | omega | exact Nat.le_refl _⟩, ⟨(kl HB)⟩⟩
  ·rw [if_neg c5] at H; have c5b0 : decide (a2 < 1) = false := decide_eq_false c5; clear c5
   (first | rw [c5b0] | (simp only [i64_w, i32_w]; rw [c5b0]) | skip)
   have H' := Aside0.mk H; clear H
   go_wp2
   go_meet
   case rel => exact ⟨_, (decide (a2 > 65535)), (by first | rfl | (simp; done) | (simp [*]; done)), H', ⟨by first | omega | exact Nat.le_refl _⟩, ⟨(kl HB)⟩⟩
 case rest =>
  clear HC4; (try clear c1); (try clear p2); (try clear c5); (try clear c5b0); obtain ⟨kq, x23_3, rfl, HA, HJ3, HB⟩ := hcut
  cases kq with
  | zero => exact absurd HA.out (by simp [slow_Decode.j0])
  | succ kj3 =>
   have H := HA.out; clear HA; simp only [slow_Decode.j0] at H
   by_cases c6 : x23_3 = true
   ·subst c6
    have H1 : (some (([] : List (S48)), some 1)) = some (r1, r2) := by rw [if_pos rfl] at H; exact H
    clear H; have H := H1; clear H1; simp only [Option.some.injEq, Prod.mk.injEq] at H; obtain ⟨rfl, rfl⟩ := H
    go_wp2
    go_ret2
    exact ⟨_, by first | rfl | (simp [errW_none, errW_some] <;> rfl) | (simp [*, errW_none, errW_some] <;> rfl), by first | exact Kd.R_nil _ _ _ _ _ | exact Kd.N_nil _ _ _ _ _ | exact Kd.V_nil _ _ _ _ _ | exact Kd.Q_nil _ _ _ _ _ | exact Kd.S_nil _ _ _ _ _, (kl HB)⟩
   ·replace c6 := Bool.eq_false_iff.mpr c6; subst c6
    have H1 : (slow_Decode.l0 kj3 a0 l1 ([] : List (S48)) 0 a2 0 0 0 0 0 0 0 0 0) = some (r1, r2) := by rw [if_neg (show ¬ (false = true) by decide)] at H; exact H
    clear H; have H := H1; clear H1; have H' := Aside0.mk H; clear H
    go_wp2_with (first | ((with_reducible refine gate_dst (N := 9) rfl ?_); refine box_event ?hg (N := 9) ?hd (cs := #[.int .i64 0, .int .i64 0, .int .i64 0, .int .u64 0, .int .u64 0, .int .u64 0, .int .i64 0, .int .i64 0]) (t := 44) ?hr ?_; (case hd => rfl); (case hg => rfl); (case hr => first | (go_simp; done) | (go_simp; rfl)); intro gb302 hg w7 hbox hb; have BK302 := Aside0.mk (hbox); have GW302 := kG hg HB; have GE302 := kG hg HB; replace HB := kH HB hb; clear hb hbox hg))
    go_loopg [8, 10, 26] kj3 (fun kq v8 v10 v26 w' => ∃ (x8_2 : List (S48)) (x10_2 : Int) (x26_2 : Int) (x303000_2 : Int) (x303001_2 : Int) (x303002_2 : Int) (x303003_2 : Int) (x303004_2 : Int) (x303005_2 : Int) (x303006_2 : Int) (x303007_2 : Int), v10 = .int .i64 x10_2 ∧ v26 = .int .i64 x26_2 ∧ Aside0 (slow_Decode.l0 kq a0 l1 x8_2 x10_2 a2 x26_2 x303000_2 x303001_2 x303002_2 x303003_2 x303004_2 x303005_2 x303006_2 x303007_2 = some (r1, r2)) ∧ Aside0 (kq ≤ kj3) ∧ Aside0 (Kd.R k48 48 w' w.heap.size (fun _ => True) v8 x8_2) ∧ Aside0 (w'.heap[gb302]? = some (.cells #[.int .i64 x303000_2, .int .i64 x303001_2, .int .i64 x303002_2, .int .u64 x303003_2, .int .u64 x303004_2, .int .u64 x303005_2, .int .i64 x303006_2, .int .i64 x303007_2] 44 (0, 0))) ∧ Aside0 (Below w.heap.size w w'))
    case atStart => exact ⟨(([] : List (S48))), (0), (0), (0), (0), (0), (0), (0), (0), (0), (0), (by first | rfl | (simp; done) | (simp [*]; done)), (by first | rfl | (simp; done) | (simp [*]; done)), H', ⟨Nat.le_refl _⟩, ⟨by first | exact Kd.R_nil _ _ _ _ _ | exact Kd.N_nil _ _ _ _ _ | exact Kd.V_nil _ _ _ _ _ | exact Kd.Q_nil _ _ _ _ _ | exact Kd.S_nil _ _ _ _ _⟩, ⟨kb BK302⟩, ⟨(kl HB)⟩⟩
    case round =>
     clear H'; (try clear c1); (try clear p2); (try clear c5); (try clear c5b0); (try clear c6); (try clear p2); obtain ⟨x8_2, x10_2, x26_2, x303000_2, x303001_2, x303002_2, x303003_2, x303004_2, x303005_2, x303006_2, x303007_2, rfl, rfl, HA, HK2, HO_8, BK302, HB⟩ := hrel
     cases gk with
     | zero => exact absurd HA.out (by simp [slow_Decode.l0])
     | succ k2 =>
      have H := HA.out; clear HA; simp only [slow_Decode.l0] at H
      by_cases c8 : x26_2 < a2
      ·rw [if_pos c8] at H; have c8b0 : decide (x26_2 < a2) = true := decide_eq_true c8; clear c8; replace H := Option.bind_eq_some_iff.mp H; obtain ⟨⟨t303, t304, t305, t306, t307, t308, t309, t310, t311, t312, t313, t314⟩, A90, H⟩ := H; replace H : (if t314.isNone = true then (if x8_2.length < 8796093022208 then (slow_Decode.l0 k2 a0 l1 (x8_2 ++ [(⟨t303, t304⟩ : S48)]) (wrap64 (x10_2 + t313)) a2 (wrap64 (x26_2 + 1)) t305 t306 t307 t308 t309 t310 t311 t312) else (none)) else (some (x8_2, some (t314.getD 0)))) = some (r1, r2) := H; have A9 := Aside0.mk A90; clear A90
       rcases t314 with _ | q317
       ·have H1 : (if x8_2.length < 8796093022208 then (slow_Decode.l0 k2 a0 l1 (x8_2 ++ [(⟨t303, t304⟩ : S48)]) (wrap64 (x10_2 + t313)) a2 (wrap64 (x26_2 + 1)) t305 t306 t307 t308 t309 t310 t311 t312) else (none)) = some (r1, r2) := by rw [if_pos (show (none : Option Int).isNone = true by rfl)] at H; exact H
        clear H; have H := H1; clear H1
        try simp only [errW_none, errW_some]
        by_cases c10 : x8_2.length < 8796093022208
        ·rw [if_pos c10] at H; have LMc10 := Aside0.mk c10; clear c10; obtain ⟨y318, hy318⟩ : ∃ y_ : List (S48), y_ = (x8_2 ++ [(⟨t303, t304⟩ : S48)]) := ⟨_, rfl⟩
         replace H : (slow_Decode.l0 k2 a0 l1 y318 (wrap64 (x10_2 + t313)) a2 (wrap64 (x26_2 + 1)) t305 t306 t307 t308 t309 t310 t311 t312) = some (r1, r2) := by first | (rw [hy318]; with_reducible exact H) | (have H2_ := (Option.bind_some _ _).symm.trans H; rw [hy318]; with_reducible exact H2_) | (have H2_ := (Option.bind_some _ _).symm.trans H; with_reducible exact H2_) | with_reducible exact H | (rw [hy318]; exact H) | exact H
         have Ny318 := Aside0.mk hy318; clear hy318; have H' := Aside0.mk H; clear H; obtain ⟨hcz11_0, hcz11_1, hcz11_2, hcz11_3, hcz11_4, hcz11_5, hcz11_6, hcz11_7⟩ := kc8 BK302; obtain ⟨hfz11_0, hfz11_1, hfz11_2, hfz11_3, hfz11_4, hfz11_5, hfz11_6, hfz11_7⟩ := kf8 BK302
         go_wp2_with (first | ((with_reducible refine gate_callee (f := 19) rfl ?_); refine goesL_ (some 33) rfl rfl Tryd.func19 (by kernel_rfl) rfl #[.int .i64 a0, .agg #[.int .i64 x303000_2, .int .i64 x303001_2, .int .i64 x303002_2, .int .u64 x303003_2, .int .u64 x303004_2, .int .u64 x303005_2, .int .i64 x303006_2, .int .i64 x303007_2], .slice A1 l1.length c1, .int .i64 x10_2] rfl km ?_; (with_reducible refine (kinds_Get.calls k2 a0 x303000_2 x303001_2 x303002_2 x303003_2 x303004_2 x303005_2 x303006_2 x303007_2 _ _ l1 x10_2 t303 t304 t305 t306 t307 t308 t309 t310 t311 t312 t313 none _ ?side1 ?side2 ?side3 A9.out).mono ?_); (case side1 => exact TabOk.below HT.out (kl HB) (Nat.le_refl _)); (case side2 => repeat (first | exact (Kd.C_below HR1.out HB.out) | (with_reducible refine Kd.C_alloc ?_ _) | (with_reducible refine Kd.C_drewN ?_ _) | (with_reducible refine Kd.C_drew ?_))); (case side3 => exact HC1.out); rintro e w12 ⟨rfl, hb⟩; refine ⟨_, rfl, ?_⟩; replace HO_8 := Aside0.mk (Kd.R_below (kr HO_8) hb); replace BK302 := kB BK302 hb; replace HB := kH HB hb; (try clear hb); (try clear hb2); (try clear hk); (try clear hi); (try clear hgw); (try simp only [errW_none, errW_some])) | ((with_reducible refine gate_dst (N := 11) rfl ?_); refine box_event ?hg (N := 11) ?hd (cs := #[.int .i64 0, .int .u64 0]) (t := 48) ?hr ?_; (case hd => rfl); (case hg => rfl); (case hr => first | (go_simp; done) | (go_simp; rfl)); intro gb315 hg w13 hbox hb; replace HO_8 := Aside0.mk (Kd.R_below (Kd.R_elderB (kr HO_8) gb315 (Nat.le_of_eq hg.symm)) hb); have BK315 := Aside0.mk (hbox); have GW315 := kG hg HB; have GE315 := kG hg HB; replace HB := kH HB hb; obtain ⟨NB302_315, NB315_302⟩ := kN hg BK302; replace BK302 := kB BK302 hb; clear hb hbox hg) | ((with_reducible refine gate_dst (N := 12) rfl ?_); refine box_event ?hg (N := 12) ?hd (cs := #[.int .i64 0, .int .i64 0, .int .i64 0, .int .u64 0, .int .u64 0, .int .u64 0, .int .i64 0, .int .i64 0]) (t := 44) ?hr ?_; (case hd => rfl); (case hg => rfl); (case hr => first | (go_simp; done) | (go_simp; rfl)); intro gb316 hg w14 hbox hb; replace HO_8 := Aside0.mk (Kd.R_below (kr HO_8) hb); have BK316 := Aside0.mk (hbox); have GW316 := kG hg HB; have GE316 := kG hg HB; replace HB := kH HB hb; obtain ⟨NB302_316, NB316_302⟩ := kN hg BK302; replace BK302 := kB BK302 hb; obtain ⟨NB315_316, NB316_315⟩ := kN hg BK315; replace BK315 := kB BK315 hb; clear hb hbox hg; have hnb15 := NB315_302.out; have hnc15 := NB302_315.out; have hnb16 := NB315_316.out; have hnc16 := NB316_315.out; have hcz17_0 : w14.cell? ⟨gb315, 0, none⟩ = some (.int .i64 0) := (blk_cell BK315.out 0).trans rfl; have hcz17_1 : w14.cell? ⟨gb315, 1, none⟩ = some (.int .u64 0) := (blk_cell BK315.out 1).trans rfl; have hfz17_0 := blk_frozen BK315.out 0; have hfz17_1 := blk_frozen BK315.out 1; have hnb18 := NB316_302.out; have hnc18 := NB302_316.out; have hcz19_0 : w14.cell? ⟨gb316, 0, none⟩ = some (.int .i64 0) := (blk_cell BK316.out 0).trans rfl; have hcz19_1 : w14.cell? ⟨gb316, 1, none⟩ = some (.int .i64 0) := (blk_cell BK316.out 1).trans rfl; have hcz19_2 : w14.cell? ⟨gb316, 2, none⟩ = some (.int .i64 0) := (blk_cell BK316.out 2).trans rfl; have hcz19_3 : w14.cell? ⟨gb316, 3, none⟩ = some (.int .u64 0) := (blk_cell BK316.out 3).trans rfl; have hcz19_4 : w14.cell? ⟨gb316, 4, none⟩ = some (.int .u64 0) := (blk_cell BK316.out 4).trans rfl; have hcz19_5 : w14.cell? ⟨gb316, 5, none⟩ = some (.int .u64 0) := (blk_cell BK316.out 5).trans rfl; have hcz19_6 : w14.cell? ⟨gb316, 6, none⟩ = some (.int .i64 0) := (blk_cell BK316.out 6).trans rfl; have hcz19_7 : w14.cell? ⟨gb316, 7, none⟩ = some (.int .i64 0) := (blk_cell BK316.out 7).trans rfl; have hfz19_0 := blk_frozen BK316.out 0; have hfz19_1 := blk_frozen BK316.out 1; have hfz19_2 := blk_frozen BK316.out 2; have hfz19_3 := blk_frozen BK316.out 3; have hfz19_4 := blk_frozen BK316.out 4; have hfz19_5 := blk_frozen BK316.out 5; have hfz19_6 := blk_frozen BK316.out 6; have hfz19_7 := blk_frozen BK316.out 7) | ((with_reducible refine gate_builtin (b := .append) (xs := #[.tmp 42, .tmp 44]) rfl ?_); at_builtin; refine Kd.R_append k48 (w0 := w) w.heap.size rfl (.tmp 42) (.tmp 44) 22 48 (.agg #[(.int .i64 0), (.int .u64 0)]) 16 rfl Tryd.underlying22 info48 rfl (by decide) (by omega) u8 x8_2 (⟨t303, t304⟩ : S48) [.int .i64 t303, .int .u64 t304] (fun k_ => k_ ≠ gb315) (fun _ => False) rfl (by first | (go_simp; done) | (go_simp; rfl)) ?aP (fun _ hk => hk.elim) ?aF ?aO ?aB ?aS ?aL ?_; (case aP => exact k48_mkM _ _ _ (⟨t303, t304⟩ : S48)); (case aB => exact (kl HB)); (case aF => exact (fun k_ hk => Kd.freshB (g := gb315) (o := .cells #[.int .i64 t303, .int .u64 t304] 48 (0, 0)) (kb BK315) k_ hk)); (case aO => exact (by (with_reducible repeat (first | apply Kd.R_alloc | apply Kd.R_drewN | apply Kd.R_drew)); exact Kd.R_mono (Kd.R_far (p := ⟨gb316, 7, none⟩) (Kd.R_far (p := ⟨gb316, 6, none⟩) (Kd.R_far (p := ⟨gb316, 5, none⟩) (Kd.R_far (p := ⟨gb316, 4, none⟩) (Kd.R_far (p := ⟨gb316, 3, none⟩) (Kd.R_far (p := ⟨gb316, 2, none⟩) (Kd.R_far (p := ⟨gb316, 1, none⟩) (Kd.R_far (p := ⟨gb316, 0, none⟩) (Kd.R_far (p := ⟨gb315, 1, none⟩) (Kd.R_far (p := ⟨gb315, 0, none⟩) (Kd.R_types (Kd.R_mono HO_8.out (fun k_ hk => (⟨hk, hk.2⟩ : _ ∧ k_ ≠ gb315))) BK316.out (by decide)) (fun _ hk => hk.1.2) (.int .i64 t303)) (fun _ hk => hk.1.2) (.int .u64 t304)) (fun _ hk => hk.2) (.int .i64 t305)) (fun _ hk => hk.2) (.int .i64 t306)) (fun _ hk => hk.2) (.int .i64 t307)) (fun _ hk => hk.2) (.int .u64 t308)) (fun _ hk => hk.2) (.int .u64 t309)) (fun _ hk => hk.2) (.int .u64 t310)) (fun _ hk => hk.2) (.int .i64 t311)) (fun _ hk => hk.2) (.int .i64 t312)) (fun _ hk => hk.1.1.2))); (case aS => exact (below_size (kl HB))); (case aL => have := LMc10.out; omega); intro v319 w20 ho hb hg hat; rw [← Ny318.out] at ho; have n0_ := Aside0.mk (blk_grown (g := gb302) (o := .cells #[.int .i64 x303000_2, .int .i64 x303001_2, .int .i64 x303002_2, .int .u64 x303003_2, .int .u64 x303004_2, .int .u64 x303005_2, .int .i64 x303006_2, .int .i64 x303007_2] 44 (0, 0)) (kb BK302) hg (Kd.R_ne HO_8.out BK302.out (by decide))); have n1_ := Aside0.mk (blk_grown (g := gb315) (o := .cells #[.int .i64 t303, .int .u64 t304] 48 (0, 0)) (kb BK315) hg (Kd.R_away HO_8.out (fun _ hk => hk.2))); have n2_ := Aside0.mk (blk_grown (g := gb316) (o := .cells #[.int .i64 t305, .int .i64 t306, .int .i64 t307, .int .u64 t308, .int .u64 t309, .int .u64 t310, .int .i64 t311, .int .i64 t312] 44 (0, 0)) (kb BK316) hg (Kd.R_ne HO_8.out BK316.out (by decide))); have n3_ := Aside0.mk (hb); have n4_ := Aside0.mk (ho); clear BK302; clear BK315; clear BK316; clear HB; clear HO_8; have BK302 := n0_; have BK315 := n1_; have BK316 := n2_; have HB := n3_; have HO320 := n4_; clear n0_ n1_ n2_ n3_ n4_; clear ho hb hg hat; have hcz21_0 : w20.cell? ⟨gb316, 0, none⟩ = some (.int .i64 t305) := (blk_cell BK316.out 0).trans rfl; have hcz21_1 : w20.cell? ⟨gb316, 1, none⟩ = some (.int .i64 t306) := (blk_cell BK316.out 1).trans rfl; have hcz21_2 : w20.cell? ⟨gb316, 2, none⟩ = some (.int .i64 t307) := (blk_cell BK316.out 2).trans rfl; have hcz21_3 : w20.cell? ⟨gb316, 3, none⟩ = some (.int .u64 t308) := (blk_cell BK316.out 3).trans rfl; have hcz21_4 : w20.cell? ⟨gb316, 4, none⟩ = some (.int .u64 t309) := (blk_cell BK316.out 4).trans rfl; have hcz21_5 : w20.cell? ⟨gb316, 5, none⟩ = some (.int .u64 t310) := (blk_cell BK316.out 5).trans rfl; have hcz21_6 : w20.cell? ⟨gb316, 6, none⟩ = some (.int .i64 t311) := (blk_cell BK316.out 6).trans rfl; have hcz21_7 : w20.cell? ⟨gb316, 7, none⟩ = some (.int .i64 t312) := (blk_cell BK316.out 7).trans rfl; have hfz21_0 := blk_frozen BK316.out 0; have hfz21_1 := blk_frozen BK316.out 1; have hfz21_2 := blk_frozen BK316.out 2; have hfz21_3 := blk_frozen BK316.out 3; have hfz21_4 := blk_frozen BK316.out 4; have hfz21_5 := blk_frozen BK316.out 5; have hfz21_6 := blk_frozen BK316.out 6; have hfz21_7 := blk_frozen BK316.out 7; have hcz22_0 : w20.cell? ⟨gb302, 0, none⟩ = some (.int .i64 x303000_2) := (blk_cell BK302.out 0).trans rfl; have hcz22_1 : w20.cell? ⟨gb302, 1, none⟩ = some (.int .i64 x303001_2) := (blk_cell BK302.out 1).trans rfl; have hcz22_2 : w20.cell? ⟨gb302, 2, none⟩ = some (.int .i64 x303002_2) := (blk_cell BK302.out 2).trans rfl; have hcz22_3 : w20.cell? ⟨gb302, 3, none⟩ = some (.int .u64 x303003_2) := (blk_cell BK302.out 3).trans rfl; have hcz22_4 : w20.cell? ⟨gb302, 4, none⟩ = some (.int .u64 x303004_2) := (blk_cell BK302.out 4).trans rfl; have hcz22_5 : w20.cell? ⟨gb302, 5, none⟩ = some (.int .u64 x303005_2) := (blk_cell BK302.out 5).trans rfl; have hcz22_6 : w20.cell? ⟨gb302, 6, none⟩ = some (.int .i64 x303006_2) := (blk_cell BK302.out 6).trans rfl; have hcz22_7 : w20.cell? ⟨gb302, 7, none⟩ = some (.int .i64 x303007_2) := (blk_cell BK302.out 7).trans rfl; have hfz22_0 := blk_frozen BK302.out 0; have hfz22_1 := blk_frozen BK302.out 1; have hfz22_2 := blk_frozen BK302.out 2; have hfz22_3 := blk_frozen BK302.out 3; have hfz22_4 := blk_frozen BK302.out 4; have hfz22_5 := blk_frozen BK302.out 5; have hfz22_6 := blk_frozen BK302.out 6; have hfz22_7 := blk_frozen BK302.out 7))
         go_roundg k2
         case measure => have := HJ3.out; have := HK2.out; omega
         case rel => exact ⟨(y318), (wrap64 (x10_2 + t313)), (wrap64 (x26_2 + 1)), (t305), (t306), (t307), (t308), (t309), (t310), (t311), (t312), (by first | rfl | (simp; done) | (simp [*]; done)), (by first | rfl | (simp; done) | (simp [*]; done)), H', ⟨by have := HJ3.out; have := HK2.out; omega⟩, ⟨by (with_reducible repeat (first | apply Kd.R_alloc | apply Kd.R_drewN | apply Kd.R_drew)); exact Kd.R_mono (Kd.R_far (p := ⟨gb302, 7, none⟩) (Kd.R_far (p := ⟨gb302, 6, none⟩) (Kd.R_far (p := ⟨gb302, 5, none⟩) (Kd.R_far (p := ⟨gb302, 4, none⟩) (Kd.R_far (p := ⟨gb302, 3, none⟩) (Kd.R_far (p := ⟨gb302, 2, none⟩) (Kd.R_far (p := ⟨gb302, 1, none⟩) (Kd.R_far (p := ⟨gb302, 0, none⟩) (Kd.R_types HO320.out BK302.out (by decide)) (fun _ hk => hk.2) (.int .i64 t305)) (fun _ hk => hk.2) (.int .i64 t306)) (fun _ hk => hk.2) (.int .i64 t307)) (fun _ hk => hk.2) (.int .u64 t308)) (fun _ hk => hk.2) (.int .u64 t309)) (fun _ hk => hk.2) (.int .u64 t310)) (fun _ hk => hk.2) (.int .i64 t311)) (fun _ hk => hk.2) (.int .i64 t312)) (fun _ hk => trivial)⟩, ⟨(kb BK302)⟩, ⟨(kl HB)⟩⟩
        ·rw [if_neg c10] at H
         exact absurd H (by simp)
       ·have H1 : (some (x8_2, some q317)) = some (r1, r2) := by rw [if_neg (show ¬ (some q317).isNone = true by simp)] at H; exact H
        clear H; have H := H1; clear H1
        try simp only [errW_none, errW_some]
        simp only [Option.some.injEq, Prod.mk.injEq] at H; obtain ⟨rfl, rfl⟩ := H; obtain ⟨hcz23_0, hcz23_1, hcz23_2, hcz23_3, hcz23_4, hcz23_5, hcz23_6, hcz23_7⟩ := kc8 BK302; obtain ⟨hfz23_0, hfz23_1, hfz23_2, hfz23_3, hfz23_4, hfz23_5, hfz23_6, hfz23_7⟩ := kf8 BK302
        go_wp2_with (first | ((with_reducible refine gate_callee (f := 19) rfl ?_); refine goesL_ (some 33) rfl rfl Tryd.func19 (by kernel_rfl) rfl #[.int .i64 a0, .agg #[.int .i64 x303000_2, .int .i64 x303001_2, .int .i64 x303002_2, .int .u64 x303003_2, .int .u64 x303004_2, .int .u64 x303005_2, .int .i64 x303006_2, .int .i64 x303007_2], .slice A1 l1.length c1, .int .i64 x10_2] rfl km ?_; (with_reducible refine (kinds_Get.calls k2 a0 x303000_2 x303001_2 x303002_2 x303003_2 x303004_2 x303005_2 x303006_2 x303007_2 _ _ l1 x10_2 t303 t304 t305 t306 t307 t308 t309 t310 t311 t312 t313 (some q317) _ ?side1 ?side2 ?side3 A9.out).mono ?_); (case side1 => exact TabOk.below HT.out (kl HB) (Nat.le_refl _)); (case side2 => repeat (first | exact (Kd.C_below HR1.out HB.out) | (with_reducible refine Kd.C_alloc ?_ _) | (with_reducible refine Kd.C_drewN ?_ _) | (with_reducible refine Kd.C_drew ?_))); (case side3 => exact HC1.out); rintro e w24 ⟨rfl, hb⟩; refine ⟨_, rfl, ?_⟩; replace HO_8 := Aside0.mk (Kd.R_below (kr HO_8) hb); replace BK302 := kB BK302 hb; replace HB := kH HB hb; (try clear hb); (try clear hb2); (try clear hk); (try clear hi); (try clear hgw); (try simp only [errW_none, errW_some])) | ((with_reducible refine gate_dst (N := 11) rfl ?_); refine box_event ?hg (N := 11) ?hd (cs := #[.int .i64 0, .int .u64 0]) (t := 48) ?hr ?_; (case hd => rfl); (case hg => rfl); (case hr => first | (go_simp; done) | (go_simp; rfl)); intro gb315 hg w25 hbox hb; replace HO_8 := Aside0.mk (Kd.R_below (Kd.R_elderB (kr HO_8) gb315 (Nat.le_of_eq hg.symm)) hb); have BK315 := Aside0.mk (hbox); have GW315 := kG hg HB; have GE315 := kG hg HB; replace HB := kH HB hb; obtain ⟨NB302_315, NB315_302⟩ := kN hg BK302; replace BK302 := kB BK302 hb; clear hb hbox hg) | ((with_reducible refine gate_dst (N := 12) rfl ?_); refine box_event ?hg (N := 12) ?hd (cs := #[.int .i64 0, .int .i64 0, .int .i64 0, .int .u64 0, .int .u64 0, .int .u64 0, .int .i64 0, .int .i64 0]) (t := 44) ?hr ?_; (case hd => rfl); (case hg => rfl); (case hr => first | (go_simp; done) | (go_simp; rfl)); intro gb316 hg w26 hbox hb; replace HO_8 := Aside0.mk (Kd.R_below (kr HO_8) hb); have BK316 := Aside0.mk (hbox); have GW316 := kG hg HB; have GE316 := kG hg HB; replace HB := kH HB hb; obtain ⟨NB302_316, NB316_302⟩ := kN hg BK302; replace BK302 := kB BK302 hb; obtain ⟨NB315_316, NB316_315⟩ := kN hg BK315; replace BK315 := kB BK315 hb; clear hb hbox hg; have hnb27 := NB315_302.out; have hnc27 := NB302_315.out; have hnb28 := NB315_316.out; have hnc28 := NB316_315.out; have hcz29_0 : w26.cell? ⟨gb315, 0, none⟩ = some (.int .i64 0) := (blk_cell BK315.out 0).trans rfl; have hcz29_1 : w26.cell? ⟨gb315, 1, none⟩ = some (.int .u64 0) := (blk_cell BK315.out 1).trans rfl; have hfz29_0 := blk_frozen BK315.out 0; have hfz29_1 := blk_frozen BK315.out 1; have hnb30 := NB316_302.out; have hnc30 := NB302_316.out; have hcz31_0 : w26.cell? ⟨gb316, 0, none⟩ = some (.int .i64 0) := (blk_cell BK316.out 0).trans rfl; have hcz31_1 : w26.cell? ⟨gb316, 1, none⟩ = some (.int .i64 0) := (blk_cell BK316.out 1).trans rfl; have hcz31_2 : w26.cell? ⟨gb316, 2, none⟩ = some (.int .i64 0) := (blk_cell BK316.out 2).trans rfl; have hcz31_3 : w26.cell? ⟨gb316, 3, none⟩ = some (.int .u64 0) := (blk_cell BK316.out 3).trans rfl; have hcz31_4 : w26.cell? ⟨gb316, 4, none⟩ = some (.int .u64 0) := (blk_cell BK316.out 4).trans rfl; have hcz31_5 : w26.cell? ⟨gb316, 5, none⟩ = some (.int .u64 0) := (blk_cell BK316.out 5).trans rfl; have hcz31_6 : w26.cell? ⟨gb316, 6, none⟩ = some (.int .i64 0) := (blk_cell BK316.out 6).trans rfl; have hcz31_7 : w26.cell? ⟨gb316, 7, none⟩ = some (.int .i64 0) := (blk_cell BK316.out 7).trans rfl; have hfz31_0 := blk_frozen BK316.out 0; have hfz31_1 := blk_frozen BK316.out 1; have hfz31_2 := blk_frozen BK316.out 2; have hfz31_3 := blk_frozen BK316.out 3; have hfz31_4 := blk_frozen BK316.out 4; have hfz31_5 := blk_frozen BK316.out 5; have hfz31_6 := blk_frozen BK316.out 6; have hfz31_7 := blk_frozen BK316.out 7))
        go_ret2
        exact ⟨_, by first | rfl | (simp [errW_none, errW_some] <;> rfl) | (simp [*, errW_none, errW_some] <;> rfl), by (with_reducible repeat (first | apply Kd.R_alloc | apply Kd.R_drewN | apply Kd.R_drew)); exact Kd.R_mono (Kd.R_far (p := ⟨gb316, 7, none⟩) (Kd.R_far (p := ⟨gb316, 6, none⟩) (Kd.R_far (p := ⟨gb316, 5, none⟩) (Kd.R_far (p := ⟨gb316, 4, none⟩) (Kd.R_far (p := ⟨gb316, 3, none⟩) (Kd.R_far (p := ⟨gb316, 2, none⟩) (Kd.R_far (p := ⟨gb316, 1, none⟩) (Kd.R_far (p := ⟨gb316, 0, none⟩) (Kd.R_far (p := ⟨gb315, 1, none⟩) (Kd.R_far (p := ⟨gb315, 0, none⟩) (Kd.R_types (Kd.R_mono HO_8.out (fun k_ hk => (⟨hk, hk.2⟩ : _ ∧ k_ ≠ gb315))) BK316.out (by decide)) (fun _ hk => hk.1.2) (.int .i64 t303)) (fun _ hk => hk.1.2) (.int .u64 t304)) (fun _ hk => hk.2) (.int .i64 t305)) (fun _ hk => hk.2) (.int .i64 t306)) (fun _ hk => hk.2) (.int .i64 t307)) (fun _ hk => hk.2) (.int .u64 t308)) (fun _ hk => hk.2) (.int .u64 t309)) (fun _ hk => hk.2) (.int .u64 t310)) (fun _ hk => hk.2) (.int .i64 t311)) (fun _ hk => hk.2) (.int .i64 t312)) (fun _ hk => trivial), (kl HB)⟩
      ·rw [if_neg c8] at H; have c8b0 : decide (x26_2 < a2) = false := decide_eq_false c8; clear c8; obtain ⟨ji32, hji32⟩ : ∃ j_ : Int, (mn (wrap64 ((wrap64 (8 * (l1.length : Int))) - x10_2)) 8) = j_ := ⟨_, rfl⟩
       replace H : ((bits_Take.f k2 l1 x10_2 (ji32)).bind fun bt321 => (if (wrap64 ((wrap64 (8 * (l1.length : Int))) - x10_2)) ≥ 8 then (some (x8_2, some 3)) else (if bt321.2 = true then (if bt321.1 = 0 then (some (x8_2, none)) else (some (x8_2, some 3))) else (some (x8_2, some 3))))) = some (r1, r2) := by first | (rw [hji32] at H; exact H) | (simp only [hji32] at H ⊢; exact H)
       have hji32_ : (if 8 < (wrap64 ((wrap64 (8 * (l1.length : Int))) - x10_2)) then 8 else (wrap64 ((wrap64 (8 * (l1.length : Int))) - x10_2))) = ji32 := hji32; (try (have hji32n := hji32_; simp only [Int.ofNat_lt] at hji32n)); replace H := Option.bind_eq_some_iff.mp H; obtain ⟨⟨t321, t322⟩, A330, H⟩ := H; replace H : (if (wrap64 ((wrap64 (8 * (l1.length : Int))) - x10_2)) ≥ 8 then (some (x8_2, some 3)) else (if t322 = true then (if t321 = 0 then (some (x8_2, none)) else (some (x8_2, some 3))) else (some (x8_2, some 3)))) = some (r1, r2) := H; have A33 := Aside0.mk A330; clear A330
       by_cases c34 : (wrap64 ((wrap64 (8 * (l1.length : Int))) - x10_2)) ≥ 8
       ·rw [if_pos c34] at H; have c34b0 : decide (8 ≤ (wrap64 ((wrap64 (8 * (l1.length : Int))) - x10_2))) = true := decide_eq_true c34; clear c34; simp only [Option.some.injEq, Prod.mk.injEq] at H; obtain ⟨rfl, rfl⟩ := H
        go_wp2_with (first | ((with_reducible refine gate_callee (f := 24) rfl ?_); refine goesL_ (some 61) rfl rfl Tryd.func24 (by kernel_rfl) rfl #[.slice A1 l1.length c1, .int .i64 x10_2, .int .i64 ji32] rfl (by (try simp only [List.map_toArray, List.map_cons, List.map_nil]); first | done | (simp only [hji32]; rfl) | rfl | (simp only [List.length_drop, List.length_take]; rfl)) ?_; (with_reducible refine (bits_Take.calls k2 _ _ l1 x10_2 ji32 t321 t322 _ ?side1 ?side2 A33.out).mono ?_); (case side1 => repeat (first | exact (Kd.C_below HR1.out HB.out) | (with_reducible refine Kd.C_alloc ?_ _) | (with_reducible refine Kd.C_drewN ?_ _) | (with_reducible refine Kd.C_drew ?_))); (case side2 => exact HC1.out); rintro e w' ⟨rfl, ⟨nd, rfl⟩⟩; refine ⟨_, rfl, ?_⟩))
        go_ret2
        exact ⟨_, by first | rfl | (simp [errW_none, errW_some] <;> rfl) | (simp only [← hji32]; first | rfl | (simp [errW_none, errW_some] <;> rfl)) | (simp [*, errW_none, errW_some] <;> rfl), by (with_reducible repeat (first | apply Kd.R_alloc | apply Kd.R_drewN | apply Kd.R_drew)); exact HO_8.out, (kl HB)⟩
       ·rw [if_neg c34] at H; have c34b0 : decide (8 ≤ (wrap64 ((wrap64 (8 * (l1.length : Int))) - x10_2))) = false := decide_eq_false c34; clear c34
        by_cases c35 : t322 = true
        ·subst c35
         have H1 : (if t321 = 0 then (some (x8_2, none)) else (some (x8_2, some 3))) = some (r1, r2) := by rw [if_pos rfl] at H; exact H
         clear H; have H := H1; clear H1
         by_cases c36 : t321 = 0
         ·rw [if_pos c36] at H; have c36b0 : (t321 == 0) = true := beq_iff_eq.mpr c36; have c36b1 : (t321 != 0) = false := bne_eq_false_iff_eq.mpr c36; clear c36; simp only [Option.some.injEq, Prod.mk.injEq] at H; obtain ⟨rfl, rfl⟩ := H
          go_wp2_with (first | ((with_reducible refine gate_callee (f := 24) rfl ?_); refine goesL_ (some 61) rfl rfl Tryd.func24 (by kernel_rfl) rfl #[.slice A1 l1.length c1, .int .i64 x10_2, .int .i64 ji32] rfl (by (try simp only [List.map_toArray, List.map_cons, List.map_nil]); first | done | (simp only [hji32]; rfl) | rfl | (simp only [List.length_drop, List.length_take]; rfl)) ?_; (with_reducible refine (bits_Take.calls k2 _ _ l1 x10_2 ji32 t321 true _ ?side1 ?side2 A33.out).mono ?_); (case side1 => repeat (first | exact (Kd.C_below HR1.out HB.out) | (with_reducible refine Kd.C_alloc ?_ _) | (with_reducible refine Kd.C_drewN ?_ _) | (with_reducible refine Kd.C_drew ?_))); (case side2 => exact HC1.out); rintro e w' ⟨rfl, ⟨nd, rfl⟩⟩; refine ⟨_, rfl, ?_⟩))
          go_ret2
          exact ⟨_, by first | rfl | (simp [errW_none, errW_some] <;> rfl) | (simp only [← hji32]; first | rfl | (simp [errW_none, errW_some] <;> rfl)) | (simp [*, errW_none, errW_some] <;> rfl), by (with_reducible repeat (first | apply Kd.R_alloc | apply Kd.R_drewN | apply Kd.R_drew)); exact HO_8.out, (kl HB)⟩
         ·rw [if_neg c36] at H; have c36b0 : (t321 == 0) = false := beq_eq_false_iff_ne.mpr c36; have c36b1 : (t321 != 0) = true := bne_iff_ne.mpr c36; simp only [Option.some.injEq, Prod.mk.injEq] at H; obtain ⟨rfl, rfl⟩ := H
          go_wp2_with (first | ((with_reducible refine gate_callee (f := 24) rfl ?_); refine goesL_ (some 61) rfl rfl Tryd.func24 (by kernel_rfl) rfl #[.slice A1 l1.length c1, .int .i64 x10_2, .int .i64 ji32] rfl (by (try simp only [List.map_toArray, List.map_cons, List.map_nil]); first | done | (simp only [hji32]; rfl) | rfl | (simp only [List.length_drop, List.length_take]; rfl)) ?_; (with_reducible refine (bits_Take.calls k2 _ _ l1 x10_2 ji32 t321 true _ ?side1 ?side2 A33.out).mono ?_); (case side1 => repeat (first | exact (Kd.C_below HR1.out HB.out) | (with_reducible refine Kd.C_alloc ?_ _) | (with_reducible refine Kd.C_drewN ?_ _) | (with_reducible refine Kd.C_drew ?_))); (case side2 => exact HC1.out); rintro e w' ⟨rfl, ⟨nd, rfl⟩⟩; refine ⟨_, rfl, ?_⟩))
          go_ret2
          exact ⟨_, by first | rfl | (simp [errW_none, errW_some] <;> rfl) | (simp only [← hji32]; first | rfl | (simp [errW_none, errW_some] <;> rfl)) | (simp [*, errW_none, errW_some] <;> rfl), by (with_reducible repeat (first | apply Kd.R_alloc | apply Kd.R_drewN | apply Kd.R_drew)); exact HO_8.out, (kl HB)⟩
        ·replace c35 := Bool.eq_false_iff.mpr c35; subst c35
         have H1 : (some (x8_2, some 3)) = some (r1, r2) := by rw [if_neg (show ¬ (false = true) by decide)] at H; exact H
         clear H; have H := H1; clear H1; simp only [Option.some.injEq, Prod.mk.injEq] at H; obtain ⟨rfl, rfl⟩ := H
         go_wp2_with (first | ((with_reducible refine gate_callee (f := 24) rfl ?_); refine goesL_ (some 61) rfl rfl Tryd.func24 (by kernel_rfl) rfl #[.slice A1 l1.length c1, .int .i64 x10_2, .int .i64 ji32] rfl (by (try simp only [List.map_toArray, List.map_cons, List.map_nil]); first | done | (simp only [hji32]; rfl) | rfl | (simp only [List.length_drop, List.length_take]; rfl)) ?_; (with_reducible refine (bits_Take.calls k2 _ _ l1 x10_2 ji32 t321 false _ ?side1 ?side2 A33.out).mono ?_); (case side1 => repeat (first | exact (Kd.C_below HR1.out HB.out) | (with_reducible refine Kd.C_alloc ?_ _) | (with_reducible refine Kd.C_drewN ?_ _) | (with_reducible refine Kd.C_drew ?_))); (case side2 => exact HC1.out); rintro e w' ⟨rfl, ⟨nd, rfl⟩⟩; refine ⟨_, rfl, ?_⟩))
         go_ret2
         exact ⟨_, by first | rfl | (simp [errW_none, errW_some] <;> rfl) | (simp only [← hji32]; first | rfl | (simp [errW_none, errW_some] <;> rfl)) | (simp [*, errW_none, errW_some] <;> rfl), by (with_reducible repeat (first | apply Kd.R_alloc | apply Kd.R_drewN | apply Kd.R_drew)); exact HO_8.out, (kl HB)⟩
end Go.Proofs.YtiahbcaoikoogabDoor.All
end
section
namespace Go.Proofs.YtiahbcaoikoogabDoor.All
open Go.RowKit Go.Proofs.YtiahbcaoikoogabDoorW.PrintWords Go.Proofs.YtiahbcaoikoogabDoorW.PrintLast Go.Proofs.YtiahbcaoikoogabDoorW.PrintMore
attribute [local go_sem] max2_int min2_int max_two min_two max_three min_three max_four min_four   
set_option linter.unusedVariables false
set_option linter.unusedSimpArgs false
theorem eqA48 (d : Nat) (w : World) (x0 y0 : Int) (x1 y1 : Int) :
    (Op.equalIn (d + 2) 48 (.agg #[.int .i64 x0, .int .u64 x1]) (.agg #[.int .i64 y0, .int .u64 y1])).run Tryd.prog w = .ok (x0 == y0 && (x1 == y1)) w := by
  refine eqA_of Tryd.underlying48 (by kernel_rfl) ?_
  refine eqf_cons (by rfl) (by go_simp; rfl) (by go_simp; rfl) (by go_simp) ?_
  exact eqf_last (by rfl) (by go_simp; rfl) (by go_simp; rfl) (by go_simp)
end Go.Proofs.YtiahbcaoikoogabDoor.All
end
