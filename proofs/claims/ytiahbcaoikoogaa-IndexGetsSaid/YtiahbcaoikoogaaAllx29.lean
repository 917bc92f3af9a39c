-- written by a program of the session out of the translation; Lean checks it
import Derived.Test.YtiahbcaoikoogaaAllx0
import Derived.Test.YtiahbcaoikoogaaAllx6
import Derived.Test.YtiahbcaoikoogaaAllx18
import Derived.Test.YtiahbcaoikoogaaAllx19
import Derived.Test.YtiahbcaoikoogaaAllx20
import Derived.Test.YtiahbcaoikoogaaAllx21
import Derived.Test.YtiahbcaoikoogaaAllx27
import Derived.Test.YtiahbcaoikoogaaAllx28
namespace Go.Proofs.Ytiahbcaoikoogaa.All
open Go.RowKit Go.Proofs.YtiahbcaoikoogaaW.PrintWords Go.Proofs.YtiahbcaoikoogaaW.PrintLast Go.Proofs.YtiahbcaoikoogaaW.PrintMore
attribute [local go_sem] max2_int min2_int max_two min_two max_three min_three max_four min_four   -- for this text's walks alone
set_option linter.unusedVariables false
set_option linter.unusedSimpArgs false

attribute [local go_sem high] errW_cells errW_match run_store_errW
/-! ### gaiterlaw14_IndexGets: function 5 -/
mutual
def gaiterlaw14_IndexGets.j0 : Nat → List Int → Bool → List Int → Int → Bool → Option (Bool)
 | 0, _, _, _, _, _ => none
 | k + 1, x0, x7, x8, x9, x38 => if x38 = true then (if 0 ≤ x9 then (if x9 ≤ (x0.length : Int) then ((gaiterref09_Sum.f k (x0.take (x9 : Int).toNat)).bind fun t502 => (if x9 < (x8.length : Int) then (if 0 ≤ (wrap64 (x9 + 1)) then (if (wrap64 (x9 + 1)) < (x8.length : Int) then (if 0 ≤ (wrap64 (x9 + 2)) then (if (wrap64 (x9 + 2)) < (x8.length : Int) then (if 0 ≤ (wrap64 (x9 + 3)) then (if (wrap64 (x9 + 3)) < (x8.length : Int) then (gaiterlaw14_IndexGets.j1 k x7 ((((x8.set (x9 : Int).toNat ((t502 / 16777216) % 256)).set ((wrap64 (x9 + 1)) : Int).toNat ((t502 / 65536) % 256)).set ((wrap64 (x9 + 2)) : Int).toNat ((t502 / 256) % 256)).set ((wrap64 (x9 + 3)) : Int).toNat ((t502) % 256))) else (none)) else (none)) else (none)) else (none)) else (none)) else (none)) else (none))) else (none)) else (none)) else (gaiterlaw14_IndexGets.j1 k x7 x8)
def gaiterlaw14_IndexGets.j1 : Nat → Bool → List Int → Option (Bool)
 | 0, _, _ => none
 | k + 1, x7, x8 => (index_Get.f k x8).bind fun bt507 => ((gaiterref09_GetIndex.f k x8).bind fun bt514 => (if x7 = true then (if bt507.1 = bt514.1 then ((gaiterlaw14_list.f k bt507.2.1).bind fun t520 => ((gaiterlaw14_same.f k t520 bt514.2.1).bind fun t523 => (if t523 = 1 then (if bt507.2.2.1 = bt514.2.2.1 then ((gaiterlaw00_Code.f bt507.2.2.2).bind fun t524 => (some (t524 == bt514.2.2.2))) else (none)) else (none)))) else (none)) else (none)))
end
def gaiterlaw14_IndexGets.f (k : Nat) (l0 : List Int) (a1 : Bool) (a2 : Int) : Option (Bool) := (gaiterlaw14_up.f k).bind fun t493 => (if (l0.length : Int) > 3000 then (some t493) else ((some (([] : List Int) : List Int)).bind fun y494 => (if y494.length + l0.length < 140737488355328 then ((some (y494 ++ l0 : List Int)).bind fun y497 => ((gaiterlaw00_Pick.f a2 (wrap64 ((l0.length : Int) + 1))).bind fun t500 => (if a1 = true then (gaiterlaw14_IndexGets.j0 k l0 t493 y497 t500 (decide ((wrap64 (t500 + 4)) ≤ (l0.length : Int)))) else (gaiterlaw14_IndexGets.j0 k l0 t493 y497 t500 false)))) else (none))))
theorem gaiterlaw14_IndexGets.mono_l : ∀ k, (∀ y0 y1 y2 y3 y4, LeO (gaiterlaw14_IndexGets.j0 k y0 y1 y2 y3 y4) (gaiterlaw14_IndexGets.j0 (k + 1) y0 y1 y2 y3 y4)) ∧ (∀ y0 y1, LeO (gaiterlaw14_IndexGets.j1 k y0 y1) (gaiterlaw14_IndexGets.j1 (k + 1) y0 y1))
 | 0 => ⟨fun _ _ _ _ _ r h => by simp [gaiterlaw14_IndexGets.j0] at h, fun _ _ r h => by simp [gaiterlaw14_IndexGets.j1] at h⟩
 | k + 1 => by
  obtain ⟨ih0, ih1⟩ := gaiterlaw14_IndexGets.mono_l k
  refine ⟨?_, ?_⟩
  ·intro y0 y1 y2 y3 y4
   unfold gaiterlaw14_IndexGets.j0
   repeat' first
   | (with_reducible exact ih0 _ _ _ _ _)
   | (with_reducible exact ih1 _ _)
   | (with_reducible exact gaiterlaw14_list.mono _ _)
   | (with_reducible exact gaiterlaw14_same.mono _ _ _)
   | (with_reducible exact gaiterlaw14_up.mono _)
   | (with_reducible exact gaiterref09_GetIndex.mono _ _)
   | (with_reducible exact gaiterref09_Sum.mono _ _)
   | (with_reducible exact index_Get.mono _ _)
   | (with_reducible exact LeO.refl _)
   | (with_reducible exact LeO.none _)
   | (with_reducible refine LeO.ite ?_ ?_)
   | (with_reducible refine LeO.bind ?_ (fun _ => ?_))
   | exact ih0 _ _ _ _ _
   | exact ih1 _ _
   | exact gaiterlaw14_list.mono _ _
   | exact gaiterlaw14_same.mono _ _ _
   | exact gaiterlaw14_up.mono _
   | exact gaiterref09_GetIndex.mono _ _
   | exact gaiterref09_Sum.mono _ _
   | exact index_Get.mono _ _
   | exact LeO.none _
   | refine LeO.ite ?_ ?_
   | refine LeO.bind ?_ (fun _ => ?_)
  ·intro y0 y1
   unfold gaiterlaw14_IndexGets.j1
   repeat' first
   | (with_reducible exact ih0 _ _ _ _ _)
   | (with_reducible exact ih1 _ _)
   | (with_reducible exact gaiterlaw14_list.mono _ _)
   | (with_reducible exact gaiterlaw14_same.mono _ _ _)
   | (with_reducible exact gaiterlaw14_up.mono _)
   | (with_reducible exact gaiterref09_GetIndex.mono _ _)
   | (with_reducible exact gaiterref09_Sum.mono _ _)
   | (with_reducible exact index_Get.mono _ _)
   | (with_reducible exact LeO.refl _)
   | (with_reducible exact LeO.none _)
   | (with_reducible refine LeO.ite ?_ ?_)
   | (with_reducible refine LeO.bind ?_ (fun _ => ?_))
   | exact ih0 _ _ _ _ _
   | exact ih1 _ _
   | exact gaiterlaw14_list.mono _ _
   | exact gaiterlaw14_same.mono _ _ _
   | exact gaiterlaw14_up.mono _
   | exact gaiterref09_GetIndex.mono _ _
   | exact gaiterref09_Sum.mono _ _
   | exact index_Get.mono _ _
   | exact LeO.none _
   | refine LeO.ite ?_ ?_
   | refine LeO.bind ?_ (fun _ => ?_)
theorem gaiterlaw14_IndexGets.mono : ∀ a0 a1 a2 k, LeO (gaiterlaw14_IndexGets.f k a0 a1 a2) (gaiterlaw14_IndexGets.f (k + 1) a0 a1 a2) := by
 intro a0 a1 a2 k
 obtain ⟨ih0, ih1⟩ := gaiterlaw14_IndexGets.mono_l k
 unfold gaiterlaw14_IndexGets.f
 repeat' first
   | (with_reducible exact ih0 _ _ _ _ _)
   | (with_reducible exact ih1 _ _)
   | (with_reducible exact gaiterlaw14_list.mono _ _)
   | (with_reducible exact gaiterlaw14_same.mono _ _ _)
   | (with_reducible exact gaiterlaw14_up.mono _)
   | (with_reducible exact gaiterref09_GetIndex.mono _ _)
   | (with_reducible exact gaiterref09_Sum.mono _ _)
   | (with_reducible exact index_Get.mono _ _)
   | (with_reducible exact LeO.refl _)
   | (with_reducible exact LeO.none _)
   | (with_reducible refine LeO.ite ?_ ?_)
   | (with_reducible refine LeO.bind ?_ (fun _ => ?_))
   | exact ih0 _ _ _ _ _
   | exact ih1 _ _
   | exact gaiterlaw14_list.mono _ _
   | exact gaiterlaw14_same.mono _ _ _
   | exact gaiterlaw14_up.mono _
   | exact gaiterref09_GetIndex.mono _ _
   | exact gaiterref09_Sum.mono _ _
   | exact index_Get.mono _ _
   | exact LeO.none _
   | refine LeO.ite ?_ ?_
   | refine LeO.bind ?_ (fun _ => ?_)
set_option maxHeartbeats 8000000 in
set_option maxRecDepth 100000 in
theorem gaiterlaw14_IndexGets.calls (k : Nat) (A0 : Option Addr) (c0 : Nat) (l0 : List Int) (a1 : Bool) (a2 : Int) (r : Bool) (w : World) (hr0 : Kd.C (Kd.int .u8) w A0 l0.length l0) (hc0 : l0.length ≤ c0) (h : gaiterlaw14_IndexGets.f k l0 a1 a2 = some r) :
  Calls Try.prog 5 #[.slice A0 l0.length c0, .bool a1, .int .i64 a2] w fun e w' => e = .returned (.bool r) ∧ Below w.heap.size w w' := by
 have hu53 := Try.underlying53
 have HR0 := Aside0.mk hr0
 have HC0 := Aside0.mk hc0
 clear hr0 hc0
 have HB := Aside0.mk (Below.refl w.heap.size w)
 have H : ((gaiterlaw14_up.f k).bind fun t493 => (if (l0.length : Int) > 3000 then (some t493) else ((some (([] : List Int) : List Int)).bind fun y494 => (if y494.length + l0.length < 140737488355328 then ((some (y494 ++ l0 : List Int)).bind fun y497 => ((gaiterlaw00_Pick.f a2 (wrap64 ((l0.length : Int) + 1))).bind fun t500 => (if a1 = true then (gaiterlaw14_IndexGets.j0 k l0 t493 y497 t500 (decide ((wrap64 (t500 + 4)) ≤ (l0.length : Int)))) else (gaiterlaw14_IndexGets.j0 k l0 t493 y497 t500 false)))) else (none))))) = some r := h
 clear h
 replace H := Option.bind_eq_some_iff.mp H
 obtain ⟨t493, A40, H⟩ := H
 replace H : (if (l0.length : Int) > 3000 then (some t493) else ((some (([] : List Int) : List Int)).bind fun y494 => (if y494.length + l0.length < 140737488355328 then ((some (y494 ++ l0 : List Int)).bind fun y497 => ((gaiterlaw00_Pick.f a2 (wrap64 ((l0.length : Int) + 1))).bind fun t500 => (if a1 = true then (gaiterlaw14_IndexGets.j0 k l0 t493 y497 t500 (decide ((wrap64 (t500 + 4)) ≤ (l0.length : Int)))) else (gaiterlaw14_IndexGets.j0 k l0 t493 y497 t500 false)))) else (none)))) = some r := H
 have A4 := Aside0.mk A40
 clear A40
 by_cases c5 : (l0.length : Int) > 3000
 ·rw [if_pos c5] at H
  have c5b0 : decide (3000 < (l0.length : Int)) = true := decide_eq_true c5
  have c5b1 : decide (3000 < l0.length) = true := decide_eq_true (by omega)
  clear c5
  obtain rfl := Option.some.inj H
  go_enter Try.func5, Try.ntmps5
  go_wp2_with (first | ((with_reducible refine gate_callee (f := 21) rfl ?_); refine goesL_ (some 18) rfl rfl Try.func21 (by kernel_rfl) rfl #[] rfl km ?_; (with_reducible refine (gaiterlaw14_up.calls k  t493 _ A4.out).mono ?_); rintro e w6 ⟨rfl, hb⟩; refine ⟨_, rfl, ?_⟩; replace HB := kH HB hb; (try clear hb); (try clear hb2); (try clear hk); (try clear hi)))
  go_ret
  exact ⟨by first | rfl | (simp [errW_none, errW_some] <;> rfl) | (simp [*, errW_none, errW_some] <;> rfl), (kl HB)⟩
 ·rw [if_neg c5] at H
  have c5b0 : decide (3000 < (l0.length : Int)) = false := decide_eq_false c5
  have c5b1 : decide (3000 < l0.length) = false := decide_eq_false (by omega)
  clear c5
  obtain ⟨y494, hy494⟩ : ∃ y_ : List Int, y_ = (([] : List Int)) := ⟨_, rfl⟩
  replace H : (if y494.length + l0.length < 140737488355328 then ((some (y494 ++ l0 : List Int)).bind fun y497 => ((gaiterlaw00_Pick.f a2 (wrap64 ((l0.length : Int) + 1))).bind fun t500 => (if a1 = true then (gaiterlaw14_IndexGets.j0 k l0 t493 y497 t500 (decide ((wrap64 (t500 + 4)) ≤ (l0.length : Int)))) else (gaiterlaw14_IndexGets.j0 k l0 t493 y497 t500 false)))) else (none)) = some r := by first | (rw [hy494]; with_reducible exact H) | (have H2_ := (Option.bind_some _ _).symm.trans H; rw [hy494]; with_reducible exact H2_) | (have H2_ := (Option.bind_some _ _).symm.trans H; with_reducible exact H2_) | with_reducible exact H | (rw [hy494]; exact H) | exact H
  have Ny494 := Aside0.mk hy494
  clear hy494
  by_cases c7 : y494.length + l0.length < 140737488355328
  ·rw [if_pos c7] at H
   have LMc7 := Aside0.mk c7
   clear c7
   obtain ⟨y497, hy497⟩ : ∃ y_ : List Int, y_ = (y494 ++ l0) := ⟨_, rfl⟩
   replace H : ((gaiterlaw00_Pick.f a2 (wrap64 ((l0.length : Int) + 1))).bind fun t500 => (if a1 = true then (gaiterlaw14_IndexGets.j0 k l0 t493 y497 t500 (decide ((wrap64 (t500 + 4)) ≤ (l0.length : Int)))) else (gaiterlaw14_IndexGets.j0 k l0 t493 y497 t500 false))) = some r := by first | (rw [hy497]; with_reducible exact H) | (have H2_ := (Option.bind_some _ _).symm.trans H; rw [hy497]; with_reducible exact H2_) | (have H2_ := (Option.bind_some _ _).symm.trans H; with_reducible exact H2_) | with_reducible exact H | (rw [hy497]; exact H) | exact H
   have Ny497 := Aside0.mk hy497
   clear hy497
   replace H := Option.bind_eq_some_iff.mp H
   obtain ⟨t500, A80, H⟩ := H
   replace H : (if a1 = true then (gaiterlaw14_IndexGets.j0 k l0 t493 y497 t500 (decide ((wrap64 (t500 + 4)) ≤ (l0.length : Int)))) else (gaiterlaw14_IndexGets.j0 k l0 t493 y497 t500 false)) = some r := H
   have A8 := Aside0.mk A80
   clear A80
   have HC9 := Aside0.mk H
   clear H
   go_enter Try.func5, Try.ntmps5
   go_upto_region 6 with (first | ((with_reducible refine gate_callee (f := 21) rfl ?_); refine goesL_ (some 18) rfl rfl Try.func21 (by kernel_rfl) rfl #[] rfl km ?_; (with_reducible refine (gaiterlaw14_up.calls k  t493 _ A4.out).mono ?_); rintro e w10 ⟨rfl, hb⟩; refine ⟨_, rfl, ?_⟩; replace HB := kH HB hb; (try clear hb); (try clear hb2); (try clear hk); (try clear hi)) | ((with_reducible refine gate_dst (N := 23) rfl ?_); (try (refine gate_guard (by rfl) ?_; dsimp only)); refine Kd.R_lit (Kd.int .u8) _ 5 ?hg (N := 23) ?hd (xs := ([] : List Int)) (inner := []) (ok := fun _ => True) (okp := fun _ => True) ?hr ?hp (fun _ hk => hk) trivial (Below.refl _ _) (Nat.le_refl _) (by simp) ?_; (case hd => rfl); (case hg => rfl); (case hr => first | (go_simp; done) | (go_simp; rfl)); (case hp => exact (Reps.none _ _)); intro v495 w11 ho12 hb hg_ hnew_; clear hg_ hnew_; (first | rw [← Ny494.out] at ho12 | (simp only [Int.reduceToNat] at ho12; rw [← Ny494.out] at ho12)); have HO496 := Aside0.mk (Kd.R_lower ho12 (below_size (kl HB))); replace HB := kH HB hb; clear hb ho12) | ((with_reducible refine gate_builtin (b := .append) (xs := #[.tmp 23, .tmp 24]) rfl ?_); (try (refine gate_guard (by rfl) ?_; dsimp only)); at_builtin; refine Kd.R_append_rows (Kd.int .u8) (w0 := w) w.heap.size rfl (.tmp 23) (.tmp 24) 54 5 (.int .u8 0) 1 rfl Try.underlying54 info5 rfl (by decide) (by omega) v495 y494 l0 _ _ _ (fun _ => True) (fun _ => False) rfl rfl ?aO ?aR (fun _ _ h => h) (fun _ h => h.elim) ?aF ?aB ?aS ?aL ?_; (case aR => repeat (first | exact (Kd.C_below HR0.out HB.out) | (with_reducible refine Kd.C_alloc ?_ _) | (with_reducible refine Kd.C_drewN ?_ _) | (with_reducible refine Kd.C_drew ?_))); (case aB => exact (kl HB)); (case aF => exact (fun _ _ => trivial)); (case aO => exact (kr HO496)); (case aS => exact (below_size (kl HB))); (case aL => have := LMc7.out; omega); intro v498 w13 ho hb hg hat; rw [← Ny497.out] at ho; have n0_ := Aside0.mk (hb); have n1_ := Aside0.mk (ho); clear HB; clear HO496; have HB := n0_; have HO499 := n1_; clear n0_ n1_; clear ho hb hg hat) | ((with_reducible refine gate_callee (f := 9) rfl ?_); refine goesL_ (some 30) rfl rfl Try.func9 (by kernel_rfl) rfl #[.int .i64 a2, .int .i64 (wrap64 ((l0.length : Int) + 1))] rfl km ?_; (with_reducible refine (gaiterlaw00_Pick.calls a2 (wrap64 ((l0.length : Int) + 1)) t500 _ A8.out).mono ?_); rintro e w' ⟨rfl, ⟨nd, rfl⟩⟩; refine ⟨_, rfl, ?_⟩))
   (try simp only [Act.put, List.setIfInBounds_toArray, List.set_cons_zero, List.set_cons_succ])
   go_cut [38] (fun v38 wc => ∃ (kq : Nat) (x38_8 : Bool), v38 = .bool x38_8 ∧ Aside0 (gaiterlaw14_IndexGets.j0 kq l0 t493 y497 t500 x38_8 = some r) ∧ Aside0 (kq ≤ k) ∧ Aside0 (Kd.R (Kd.int .u8) 5 wc w.heap.size (fun _ => True) v498 y497) ∧ Aside0 (Below w.heap.size w wc))
   case first =>
    have H := HC9.out
    clear HC9
    by_cases c14 : a1 = true
    ·subst c14
     have H1 : (gaiterlaw14_IndexGets.j0 k l0 t493 y497 t500 (decide ((wrap64 (t500 + 4)) ≤ (l0.length : Int)))) = some r := by rw [if_pos rfl] at H; exact H
     clear H
     have H := H1
     clear H1
     have H' := Aside0.mk H
     clear H
     go_wp2
     go_meet
     case rel => exact ⟨_, (decide ((wrap64 (t500 + 4)) ≤ (l0.length : Int))), (by first | rfl | (simp; done) | (simp [*]; done)), H', ⟨by first | omega | exact Nat.le_refl _⟩, ⟨kr HO499⟩, ⟨(kl HB)⟩⟩
    ·replace c14 := Bool.eq_false_iff.mpr c14
     subst c14
     have H1 : (gaiterlaw14_IndexGets.j0 k l0 t493 y497 t500 false) = some r := by rw [if_neg (show ¬ (false = true) by decide)] at H; exact H
     clear H
     have H := H1
     clear H1
     have H' := Aside0.mk H
     clear H
     go_wp2
     go_meet
     case rel => exact ⟨_, (false), (by first | rfl | (simp; done) | (simp [*]; done)), H', ⟨by first | omega | exact Nat.le_refl _⟩, ⟨kr HO499⟩, ⟨(kl HB)⟩⟩
   case rest =>
    clear HC9
    try clear c1
    try clear c2
    try clear p2
    try clear c5
    try clear c5b0
    try clear c5b1
    try clear p6
    try clear c7
    try clear c9
    try clear c14
    obtain ⟨kq, x38_8, rfl, HA, HJ8, HO_8, HB⟩ := hcut
    cases kq with
    | zero => exact absurd HA.out (by simp [gaiterlaw14_IndexGets.j0])
    | succ kj8 =>
     have H := HA.out
     clear HA
     simp only [gaiterlaw14_IndexGets.j0] at H
     have HC15 := Aside0.mk H
     clear H
     go_upto_if 38 with (fail)
     go_cut [] (fun wc => ∃ (kq : Nat) (x8_14 : List Int), Aside0 (gaiterlaw14_IndexGets.j1 kq t493 x8_14 = some r) ∧ Aside0 (kq ≤ kj8) ∧ Aside0 (Kd.R (Kd.int .u8) 5 wc w.heap.size (fun _ => True) v498 x8_14) ∧ Aside0 (Below w.heap.size w wc))
     case first =>
      have H := HC15.out
      clear HC15
      by_cases c16 : x38_8 = true
      ·subst c16
       have H1 : (if 0 ≤ t500 then (if t500 ≤ (l0.length : Int) then ((gaiterref09_Sum.f kj8 (l0.take (t500 : Int).toNat)).bind fun t502 => (if t500 < (y497.length : Int) then (if 0 ≤ (wrap64 (t500 + 1)) then (if (wrap64 (t500 + 1)) < (y497.length : Int) then (if 0 ≤ (wrap64 (t500 + 2)) then (if (wrap64 (t500 + 2)) < (y497.length : Int) then (if 0 ≤ (wrap64 (t500 + 3)) then (if (wrap64 (t500 + 3)) < (y497.length : Int) then (gaiterlaw14_IndexGets.j1 kj8 t493 ((((y497.set (t500 : Int).toNat ((t502 / 16777216) % 256)).set ((wrap64 (t500 + 1)) : Int).toNat ((t502 / 65536) % 256)).set ((wrap64 (t500 + 2)) : Int).toNat ((t502 / 256) % 256)).set ((wrap64 (t500 + 3)) : Int).toNat ((t502) % 256))) else (none)) else (none)) else (none)) else (none)) else (none)) else (none)) else (none))) else (none)) else (none)) = some r := by rw [if_pos rfl] at H; exact H
       clear H
       have H := H1
       clear H1
       by_cases c17 : 0 ≤ t500
       ·rw [if_pos c17] at H
        have c17b0 := eq_true c17
        have c17b1 : decide (0 ≤ t500) = true := decide_eq_true c17
        clear c17
        by_cases c18 : t500 ≤ (l0.length : Int)
        ·rw [if_pos c18] at H
         have c18b0 := eq_true c18
         have c18b1 : decide (t500 ≤ (l0.length : Int)) = true := decide_eq_true c18
         clear c18
         replace H := Option.bind_eq_some_iff.mp H
         obtain ⟨t502, A190, H⟩ := H
         replace H : (if t500 < (y497.length : Int) then (if 0 ≤ (wrap64 (t500 + 1)) then (if (wrap64 (t500 + 1)) < (y497.length : Int) then (if 0 ≤ (wrap64 (t500 + 2)) then (if (wrap64 (t500 + 2)) < (y497.length : Int) then (if 0 ≤ (wrap64 (t500 + 3)) then (if (wrap64 (t500 + 3)) < (y497.length : Int) then (gaiterlaw14_IndexGets.j1 kj8 t493 ((((y497.set (t500 : Int).toNat ((t502 / 16777216) % 256)).set ((wrap64 (t500 + 1)) : Int).toNat ((t502 / 65536) % 256)).set ((wrap64 (t500 + 2)) : Int).toNat ((t502 / 256) % 256)).set ((wrap64 (t500 + 3)) : Int).toNat ((t502) % 256))) else (none)) else (none)) else (none)) else (none)) else (none)) else (none)) else (none)) = some r := H
         have A19 := Aside0.mk A190
         clear A190
         by_cases c20 : t500 < (y497.length : Int)
         ·rw [if_pos c20] at H
          have c20b0 : decide (t500 < (y497.length : Int)) = true := decide_eq_true c20
          clear c20
          (first | rw [c20b0] | (simp only [i64_w, i32_w]; rw [c20b0]) | skip)
          obtain ⟨y503, hy503⟩ : ∃ y_ : List Int, y_ = (y497.set (t500 : Int).toNat ((t502 / 16777216) % 256)) := ⟨_, rfl⟩
          replace H : (if 0 ≤ (wrap64 (t500 + 1)) then (if (wrap64 (t500 + 1)) < (y497.length : Int) then (if 0 ≤ (wrap64 (t500 + 2)) then (if (wrap64 (t500 + 2)) < (y497.length : Int) then (if 0 ≤ (wrap64 (t500 + 3)) then (if (wrap64 (t500 + 3)) < (y497.length : Int) then (gaiterlaw14_IndexGets.j1 kj8 t493 (((y503.set ((wrap64 (t500 + 1)) : Int).toNat ((t502 / 65536) % 256)).set ((wrap64 (t500 + 2)) : Int).toNat ((t502 / 256) % 256)).set ((wrap64 (t500 + 3)) : Int).toNat ((t502) % 256))) else (none)) else (none)) else (none)) else (none)) else (none)) else (none)) = some r := by first | (rw [hy503]; with_reducible exact H) | (have H2_ := (Option.bind_some _ _).symm.trans H; rw [hy503]; with_reducible exact H2_) | (have H2_ := (Option.bind_some _ _).symm.trans H; with_reducible exact H2_) | with_reducible exact H | (rw [hy503]; exact H) | exact H
          have Ny503 := Aside0.mk hy503
          clear hy503
          obtain ⟨ji22, hji22⟩ : ∃ j_ : Int, (wrap64 (t500 + 1)) = j_ := ⟨_, rfl⟩
          replace H : (if 0 ≤ (ji22) then (if (ji22) < (y497.length : Int) then (if 0 ≤ (wrap64 (t500 + 2)) then (if (wrap64 (t500 + 2)) < (y497.length : Int) then (if 0 ≤ (wrap64 (t500 + 3)) then (if (wrap64 (t500 + 3)) < (y497.length : Int) then (gaiterlaw14_IndexGets.j1 kj8 t493 (((y503.set ((ji22) : Int).toNat ((t502 / 65536) % 256)).set ((wrap64 (t500 + 2)) : Int).toNat ((t502 / 256) % 256)).set ((wrap64 (t500 + 3)) : Int).toNat ((t502) % 256))) else (none)) else (none)) else (none)) else (none)) else (none)) else (none)) = some r := by first | (rw [hji22] at H; exact H) | (simp only [hji22] at H ⊢; exact H)
          (try rw [hji22] at A19)
          have hji22w : (IntKind.i64.wrap (t500 + 1)) = ji22 := (i64_w _).trans hji22
          by_cases c23 : 0 ≤ (ji22)
          ·rw [if_pos c23] at H
           have c23b0 : decide (0 ≤ (ji22)) = true := decide_eq_true c23
           clear c23
           by_cases c24 : (ji22) < (y497.length : Int)
           ·rw [if_pos c24] at H
            have c24b0 : decide ((ji22) < (y497.length : Int)) = true := decide_eq_true c24
            clear c24
            obtain ⟨y504, hy504⟩ : ∃ y_ : List Int, y_ = (y503.set ((ji22) : Int).toNat ((t502 / 65536) % 256)) := ⟨_, rfl⟩
            replace H : (if 0 ≤ (wrap64 (t500 + 2)) then (if (wrap64 (t500 + 2)) < (y497.length : Int) then (if 0 ≤ (wrap64 (t500 + 3)) then (if (wrap64 (t500 + 3)) < (y497.length : Int) then (gaiterlaw14_IndexGets.j1 kj8 t493 ((y504.set ((wrap64 (t500 + 2)) : Int).toNat ((t502 / 256) % 256)).set ((wrap64 (t500 + 3)) : Int).toNat ((t502) % 256))) else (none)) else (none)) else (none)) else (none)) = some r := by first | (rw [hy504]; with_reducible exact H) | (have H2_ := (Option.bind_some _ _).symm.trans H; rw [hy504]; with_reducible exact H2_) | (have H2_ := (Option.bind_some _ _).symm.trans H; with_reducible exact H2_) | with_reducible exact H | (rw [hy504]; exact H) | exact H
            have Ny504 := Aside0.mk hy504
            clear hy504
            obtain ⟨ji26, hji26⟩ : ∃ j_ : Int, (wrap64 (t500 + 2)) = j_ := ⟨_, rfl⟩
            replace H : (if 0 ≤ (ji26) then (if (ji26) < (y497.length : Int) then (if 0 ≤ (wrap64 (t500 + 3)) then (if (wrap64 (t500 + 3)) < (y497.length : Int) then (gaiterlaw14_IndexGets.j1 kj8 t493 ((y504.set ((ji26) : Int).toNat ((t502 / 256) % 256)).set ((wrap64 (t500 + 3)) : Int).toNat ((t502) % 256))) else (none)) else (none)) else (none)) else (none)) = some r := by first | (rw [hji26] at H; exact H) | (simp only [hji26] at H ⊢; exact H)
            (try rw [hji26] at A19)
            have hji26w : (IntKind.i64.wrap (t500 + 2)) = ji26 := (i64_w _).trans hji26
            by_cases c27 : 0 ≤ (ji26)
            ·rw [if_pos c27] at H
             have c27b0 : decide (0 ≤ (ji26)) = true := decide_eq_true c27
             clear c27
             by_cases c28 : (ji26) < (y497.length : Int)
             ·rw [if_pos c28] at H
              have c28b0 : decide ((ji26) < (y497.length : Int)) = true := decide_eq_true c28
              clear c28
              obtain ⟨y505, hy505⟩ : ∃ y_ : List Int, y_ = (y504.set ((ji26) : Int).toNat ((t502 / 256) % 256)) := ⟨_, rfl⟩
              replace H : (if 0 ≤ (wrap64 (t500 + 3)) then (if (wrap64 (t500 + 3)) < (y497.length : Int) then (gaiterlaw14_IndexGets.j1 kj8 t493 (y505.set ((wrap64 (t500 + 3)) : Int).toNat ((t502) % 256))) else (none)) else (none)) = some r := by first | (rw [hy505]; with_reducible exact H) | (have H2_ := (Option.bind_some _ _).symm.trans H; rw [hy505]; with_reducible exact H2_) | (have H2_ := (Option.bind_some _ _).symm.trans H; with_reducible exact H2_) | with_reducible exact H | (rw [hy505]; exact H) | exact H
              have Ny505 := Aside0.mk hy505
              clear hy505
              obtain ⟨ji30, hji30⟩ : ∃ j_ : Int, (wrap64 (t500 + 3)) = j_ := ⟨_, rfl⟩
              replace H : (if 0 ≤ (ji30) then (if (ji30) < (y497.length : Int) then (gaiterlaw14_IndexGets.j1 kj8 t493 (y505.set ((ji30) : Int).toNat ((t502) % 256))) else (none)) else (none)) = some r := by first | (rw [hji30] at H; exact H) | (simp only [hji30] at H ⊢; exact H)
              (try rw [hji30] at A19)
              have hji30w : (IntKind.i64.wrap (t500 + 3)) = ji30 := (i64_w _).trans hji30
              by_cases c31 : 0 ≤ (ji30)
              ·rw [if_pos c31] at H
               have c31b0 : decide (0 ≤ (ji30)) = true := decide_eq_true c31
               clear c31
               by_cases c32 : (ji30) < (y497.length : Int)
               ·rw [if_pos c32] at H
                have c32b0 : decide ((ji30) < (y497.length : Int)) = true := decide_eq_true c32
                clear c32
                obtain ⟨y506, hy506⟩ : ∃ y_ : List Int, y_ = (y505.set ((ji30) : Int).toNat ((t502) % 256)) := ⟨_, rfl⟩
                replace H : (gaiterlaw14_IndexGets.j1 kj8 t493 y506) = some r := by first | (rw [hy506]; with_reducible exact H) | (have H2_ := (Option.bind_some _ _).symm.trans H; rw [hy506]; with_reducible exact H2_) | (have H2_ := (Option.bind_some _ _).symm.trans H; with_reducible exact H2_) | with_reducible exact H | (rw [hy506]; exact H) | exact H
                have Ny506 := Aside0.mk hy506
                clear hy506
                have H' := Aside0.mk H
                clear H
                obtain ⟨i034, hi034, _, hsz34, _⟩ := info_parts info5
                obtain ⟨hcut34, hA34, hC34⟩ := print_take_of (P := Try.prog) (Value.int .u8) 0 54 5 .i64 Try.underlying54 hi034 hsz34 A0 c0 l0 t500 (of_decide_eq_true (by first | (with_reducible assumption) | assumption)) (of_decide_eq_true (by first | (with_reducible assumption) | assumption)) HC0.out
                have HR501 := Aside0.mk (Kd.C_of_reads (h1 := fun _ => rfl) (hA34 _ (Kd.reads_of_C HR0.out)))
                have HC501 := Aside0.mk hC34
                clear hA34 hC34 hi034 hsz34
                go_wp2_with (first | ((with_reducible refine gate_callee (f := 26) rfl ?_); refine goesL_ (some 42) rfl rfl Try.func26 (by kernel_rfl) rfl #[.slice A0 (l0.take (t500 : Int).toNat).length c0] rfl (by (try simp only [List.map_toArray, List.map_cons, List.map_nil]); first | done | (rw [show (l0.take (t500 : Int).toNat).length = t500.toNat from (by rw [List.length_take]; have h_ : (t500 : Int) ≤ (l0.length : Int) := of_decide_eq_true (by first | (with_reducible assumption) | assumption); omega)] <;> rfl) | rfl | (simp only [List.length_drop, List.length_take]; rfl)) ?_; (with_reducible refine (gaiterref09_Sum.calls kj8 _ _ (l0.take (t500 : Int).toNat) t502 _ ?side1 ?side2 A19.out).mono ?_); (case side1 => repeat (first | exact (Kd.C_below HR501.out HB.out) | (with_reducible refine Kd.C_alloc ?_ _) | (with_reducible refine Kd.C_drewN ?_ _) | (with_reducible refine Kd.C_drew ?_))); (case side2 => exact HC501.out); rintro e w' ⟨rfl, ⟨nd, rfl⟩⟩; refine ⟨_, rfl, ?_⟩; (try (rw [drewN_self wc]; generalize hq_ : World.drewN wc _ = wc; have n0_ : Aside0 (Kd.R (Kd.int .u8) 5 wc w.heap.size (fun _ => True) v498 y497) := ⟨by rw [← hq_]; exact (kr HO_8)⟩; have n1_ : Aside0 (Below w.heap.size w wc) := ⟨by rw [← hq_]; exact (kl HB)⟩; clear HO_8 HB hq_; have HO_8 := n0_; have HB := n1_; clear n0_ n1_)); have p21 : 0 ≤ (t500 : Int) := of_decide_eq_true (by first | (with_reducible assumption) | assumption); have q21 : (t500 : Int) < ((y497.length : Int) : Int) := of_decide_eq_true (by first | (with_reducible assumption) | assumption); obtain ⟨go21, co21, eo21, gb21, gl21, cl21, HG21⟩ := Kd.R_form HO_8.out (by omega); (first | cases eo21 | (injection eo21 with ea_ en_ ec_; (first | subst ea_ | (injection ea_ with ea_; subst ea_)); subst ec_; clear en_)); have GB21 := Aside0.mk gb21; have GG21 := Aside0.mk HG21; clear gb21 gl21 HG21; obtain ⟨hx21_0, hf21_0⟩ := Kd.R_celln 0 HO_8.out (t500 : Int) p21 q21; replace p21 := eq_true p21; (try (have q21s := q21; simp only [List.length_drop, List.length_take] at q21s; replace q21s := eq_true q21s)); replace q21 := eq_true q21; obtain ⟨hy35_, hz35_⟩ := Kd.R_celln 0 HO_8.out (t500 : Int) (of_decide_eq_true (by first | (with_reducible assumption) | assumption)) (of_decide_eq_true (by first | (with_reducible assumption) | assumption)); have HP35 := Kd.R_putg HO_8.out (t500 : Int) ((t502 / 16777216) % 256)) | ((with_reducible refine gate_store (t := 5) (p := 48) rfl ?_); refine store_event (t := 5) (p := 48) (v := ?vo_w36) (w1 := (wc.setCell ⟨go21, (t500 : Int).toNat, none⟩ (.int .u8 ((t502 / 16777216) % 256)))) ?hg ?ho ?hn ?hr ?_; (case ho => rfl); (case hg => rfl); (case hn => rfl); (case hr => first | (go_simp; done) | (go_simp; rfl)); intro w36 hw; have hg : wc.grownBy w36 (some go21) := (by rw [hw]; exact HP35.2); have hp_ : Kd.R (Kd.int .u8) 5 w36 w.heap.size (fun _ => True) (.slice (some ⟨go21, 0, none⟩) y497.length co21) y503 := (by rw [hw, Ny503.out]; exact HP35.1); clear HP35; replace HO_8 := Aside0.mk (hp_); replace HB := Aside0.mk ((by rw [hw]; exact below_set (HB.out) GB21.out : Below w.heap.size w w36)); clear hg hw hp_; have p25 : 0 ≤ ((ji22) : Int) := of_decide_eq_true (by first | (with_reducible assumption) | assumption); have q25 : ((ji22) : Int) < ((y497.length : Int) : Int) := of_decide_eq_true (by first | (with_reducible assumption) | assumption); obtain ⟨hx25_0, hf25_0⟩ := Kd.R_celln 0 HO_8.out ((ji22) : Int) p25 q25; replace p25 := eq_true p25; (try (have q25s := q25; simp only [List.length_drop, List.length_take] at q25s; replace q25s := eq_true q25s)); replace q25 := eq_true q25; obtain ⟨hy37_, hz37_⟩ := Kd.R_celln 0 HO_8.out ((ji22) : Int) (of_decide_eq_true (by first | (with_reducible assumption) | assumption)) (of_decide_eq_true (by first | (with_reducible assumption) | assumption)); have HP37 := Kd.R_putg HO_8.out ((ji22) : Int) ((t502 / 65536) % 256)) | ((with_reducible refine gate_store (t := 5) (p := 55) rfl ?_); refine store_event (t := 5) (p := 55) (v := ?vo_w38) (w1 := (w36.setCell ⟨go21, ((ji22) : Int).toNat, none⟩ (.int .u8 ((t502 / 65536) % 256)))) ?hg ?ho ?hn ?hr ?_; (case ho => rfl); (case hg => rfl); (case hn => rfl); (case hr => first | (go_simp; done) | (go_simp; rfl)); intro w38 hw; have hg : w36.grownBy w38 (some go21) := (by rw [hw]; exact HP37.2); have hp_ : Kd.R (Kd.int .u8) 5 w38 w.heap.size (fun _ => True) (.slice (some ⟨go21, 0, none⟩) y497.length co21) y504 := (by rw [hw, Ny504.out]; exact HP37.1); clear HP37; replace HO_8 := Aside0.mk (hp_); replace HB := Aside0.mk ((by rw [hw]; exact below_set (HB.out) GB21.out : Below w.heap.size w w38)); clear hg hw hp_; have p29 : 0 ≤ ((ji26) : Int) := of_decide_eq_true (by first | (with_reducible assumption) | assumption); have q29 : ((ji26) : Int) < ((y497.length : Int) : Int) := of_decide_eq_true (by first | (with_reducible assumption) | assumption); obtain ⟨hx29_0, hf29_0⟩ := Kd.R_celln 0 HO_8.out ((ji26) : Int) p29 q29; replace p29 := eq_true p29; (try (have q29s := q29; simp only [List.length_drop, List.length_take] at q29s; replace q29s := eq_true q29s)); replace q29 := eq_true q29; obtain ⟨hy39_, hz39_⟩ := Kd.R_celln 0 HO_8.out ((ji26) : Int) (of_decide_eq_true (by first | (with_reducible assumption) | assumption)) (of_decide_eq_true (by first | (with_reducible assumption) | assumption)); have HP39 := Kd.R_putg HO_8.out ((ji26) : Int) ((t502 / 256) % 256)) | ((with_reducible refine gate_store (t := 5) (p := 62) rfl ?_); refine store_event (t := 5) (p := 62) (v := ?vo_w40) (w1 := (w38.setCell ⟨go21, ((ji26) : Int).toNat, none⟩ (.int .u8 ((t502 / 256) % 256)))) ?hg ?ho ?hn ?hr ?_; (case ho => rfl); (case hg => rfl); (case hn => rfl); (case hr => first | (go_simp; done) | (go_simp; rfl)); intro w40 hw; have hg : w38.grownBy w40 (some go21) := (by rw [hw]; exact HP39.2); have hp_ : Kd.R (Kd.int .u8) 5 w40 w.heap.size (fun _ => True) (.slice (some ⟨go21, 0, none⟩) y497.length co21) y505 := (by rw [hw, Ny505.out]; exact HP39.1); clear HP39; replace HO_8 := Aside0.mk (hp_); replace HB := Aside0.mk ((by rw [hw]; exact below_set (HB.out) GB21.out : Below w.heap.size w w40)); clear hg hw hp_; have p33 : 0 ≤ ((ji30) : Int) := of_decide_eq_true (by first | (with_reducible assumption) | assumption); have q33 : ((ji30) : Int) < ((y497.length : Int) : Int) := of_decide_eq_true (by first | (with_reducible assumption) | assumption); obtain ⟨hx33_0, hf33_0⟩ := Kd.R_celln 0 HO_8.out ((ji30) : Int) p33 q33; replace p33 := eq_true p33; (try (have q33s := q33; simp only [List.length_drop, List.length_take] at q33s; replace q33s := eq_true q33s)); replace q33 := eq_true q33; obtain ⟨hy41_, hz41_⟩ := Kd.R_celln 0 HO_8.out ((ji30) : Int) (of_decide_eq_true (by first | (with_reducible assumption) | assumption)) (of_decide_eq_true (by first | (with_reducible assumption) | assumption)); have HP41 := Kd.R_putg HO_8.out ((ji30) : Int) ((t502) % 256)) | ((with_reducible refine gate_store (t := 5) (p := 68) rfl ?_); refine store_event (t := 5) (p := 68) (v := ?vo_w42) (w1 := (w40.setCell ⟨go21, ((ji30) : Int).toNat, none⟩ (.int .u8 ((t502) % 256)))) ?hg ?ho ?hn ?hr ?_; (case ho => rfl); (case hg => rfl); (case hn => rfl); (case hr => first | (go_simp; done) | (go_simp; rfl)); intro w42 hw; have hg : w40.grownBy w42 (some go21) := (by rw [hw]; exact HP41.2); have hp_ : Kd.R (Kd.int .u8) 5 w42 w.heap.size (fun _ => True) (.slice (some ⟨go21, 0, none⟩) y497.length co21) y506 := (by rw [hw, Ny506.out]; exact HP41.1); clear HP41; replace HO_8 := Aside0.mk (hp_); replace HB := Aside0.mk ((by rw [hw]; exact below_set (HB.out) GB21.out : Below w.heap.size w w42)); clear hg hw hp_))
                go_meet
                case rel => exact ⟨_, (y506), H', ⟨by have := HJ8.out; first | omega | exact Nat.le_refl _⟩, ⟨kr HO_8⟩, ⟨(kl HB)⟩⟩
               ·rw [if_neg c32] at H
                exact absurd H (by simp)
              ·rw [if_neg c31] at H
               exact absurd H (by simp)
             ·rw [if_neg c28] at H
              exact absurd H (by simp)
            ·rw [if_neg c27] at H
             exact absurd H (by simp)
           ·rw [if_neg c24] at H
            exact absurd H (by simp)
          ·rw [if_neg c23] at H
           exact absurd H (by simp)
         ·rw [if_neg c20] at H
          exact absurd H (by simp)
        ·rw [if_neg c18] at H
         exact absurd H (by simp)
       ·rw [if_neg c17] at H
        exact absurd H (by simp)
      ·replace c16 := Bool.eq_false_iff.mpr c16
       subst c16
       have H1 : (gaiterlaw14_IndexGets.j1 kj8 t493 y497) = some r := by rw [if_neg (show ¬ (false = true) by decide)] at H; exact H
       clear H
       have H := H1
       clear H1
       have H' := Aside0.mk H
       clear H
       go_wp2
       go_meet
       case rel => exact ⟨_, (y497), H', ⟨by have := HJ8.out; first | omega | exact Nat.le_refl _⟩, ⟨kr HO_8⟩, ⟨(kl HB)⟩⟩
     case rest =>
      clear HC15
      try clear c1
      try clear c2
      try clear p2
      try clear q2
      try clear hx2
      try clear c3
      try clear p3
      try clear q3
      try clear hx3
      try clear hf3
      try clear c5
      try clear c5b0
      try clear c5b1
      try clear p6
      try clear c7
      try clear c9
      try clear c14
      try clear c16
      try clear c17
      try clear c17b0
      try clear c17b1
      try clear c18
      try clear c18b0
      try clear c18b1
      try clear c20
      try clear c20b0
      try clear c21
      try clear p21
      try clear q21
      try clear hx21
      try clear hf21
      try clear c23
      try clear c23b0
      try clear c24
      try clear c24b0
      try clear p25
      try clear q25
      try clear hx25
      try clear hf25
      try clear c26
      try clear c27
      try clear c27b0
      try clear c28
      try clear c28b0
      try clear p29
      try clear q29
      try clear hx29
      try clear hf29
      try clear c31
      try clear c31b0
      try clear c32
      try clear c32b0
      try clear p33
      try clear q33
      try clear hx33
      try clear hf33
      try clear hx21_0
      try clear hx25_0
      try clear hx29_0
      try clear hx33_0
      try clear p2
      try clear p21
      try clear p25
      try clear p29
      try clear p33
      try clear p6
      try clear q21
      try clear q25
      try clear q29
      try clear q33
      obtain ⟨kq, x8_14, HA, HJ14, HO_8, HB⟩ := hcut
      cases kq with
      | zero => exact absurd HA.out (by simp [gaiterlaw14_IndexGets.j1])
      | succ kj14 =>
       have H := HA.out
       clear HA
       simp only [gaiterlaw14_IndexGets.j1] at H
       replace H := Option.bind_eq_some_iff.mp H
       obtain ⟨⟨t507, t508, t511, t512⟩, A430, H⟩ := H
       replace H : ((gaiterref09_GetIndex.f kj14 x8_14).bind fun bt514 => (if t493 = true then (if t507 = bt514.1 then ((gaiterlaw14_list.f kj14 t508).bind fun t520 => ((gaiterlaw14_same.f kj14 t520 bt514.2.1).bind fun t523 => (if t523 = 1 then (if t511 = bt514.2.2.1 then ((gaiterlaw00_Code.f t512).bind fun t524 => (some (t524 == bt514.2.2.2))) else (none)) else (none)))) else (none)) else (none))) = some r := H
       have A43 := Aside0.mk A430
       clear A430
       replace H := Option.bind_eq_some_iff.mp H
       obtain ⟨⟨t514, t515, t516, t517⟩, A440, H⟩ := H
       replace H : (if t493 = true then (if t507 = t514 then ((gaiterlaw14_list.f kj14 t508).bind fun t520 => ((gaiterlaw14_same.f kj14 t520 t515).bind fun t523 => (if t523 = 1 then (if t511 = t516 then ((gaiterlaw00_Code.f t512).bind fun t524 => (some (t524 == t517))) else (none)) else (none)))) else (none)) else (none)) = some r := H
       have A44 := Aside0.mk A440
       clear A440
       by_cases c45 : t493 = true
       ·subst c45
        have H1 : (if t507 = t514 then ((gaiterlaw14_list.f kj14 t508).bind fun t520 => ((gaiterlaw14_same.f kj14 t520 t515).bind fun t523 => (if t523 = 1 then (if t511 = t516 then ((gaiterlaw00_Code.f t512).bind fun t524 => (some (t524 == t517))) else (none)) else (none)))) else (none)) = some r := by rw [if_pos rfl] at H; exact H
        clear H
        have H := H1
        clear H1
        by_cases c46 : t507 = t514
        ·rw [if_pos c46] at H
         have c46b0 : (t507 == t514) = true := beq_iff_eq.mpr c46
         have c46b1 : (t507 != t514) = false := bne_eq_false_iff_eq.mpr c46
         clear c46
         replace H := Option.bind_eq_some_iff.mp H
         obtain ⟨t520, A470, H⟩ := H
         replace H : ((gaiterlaw14_same.f kj14 t520 t515).bind fun t523 => (if t523 = 1 then (if t511 = t516 then ((gaiterlaw00_Code.f t512).bind fun t524 => (some (t524 == t517))) else (none)) else (none))) = some r := H
         have A47 := Aside0.mk A470
         clear A470
         replace H := Option.bind_eq_some_iff.mp H
         obtain ⟨t523, A480, H⟩ := H
         replace H : (if t523 = 1 then (if t511 = t516 then ((gaiterlaw00_Code.f t512).bind fun t524 => (some (t524 == t517))) else (none)) else (none)) = some r := H
         have A48 := Aside0.mk A480
         clear A480
         by_cases c49 : t523 = 1
         ·rw [if_pos c49] at H
          have c49b0 : (t523 == 1) = true := beq_iff_eq.mpr c49
          have c49b1 : (t523 != 1) = false := bne_eq_false_iff_eq.mpr c49
          clear c49
          by_cases c50 : t511 = t516
          ·rw [if_pos c50] at H
           have c50b0 : (t511 == t516) = true := beq_iff_eq.mpr c50
           have c50b1 : (t511 != t516) = false := bne_eq_false_iff_eq.mpr c50
           clear c50
           replace H := Option.bind_eq_some_iff.mp H
           obtain ⟨t524, A510, H⟩ := H
           replace H : (some (t524 == t517)) = some r := H
           have A51 := Aside0.mk A510
           clear A510
           obtain rfl := Option.some.inj H
           obtain ⟨Ao52, co52, eo52⟩ := Kd.R_slice HO_8.out
           subst eo52
           go_wp2_with (first | ((with_reducible refine gate_callee (f := 27) rfl ?_); refine goesL_ (some 71) rfl rfl Try.func27 (by kernel_rfl) rfl #[.slice Ao52 x8_14.length co52] rfl km ?_; (with_reducible refine (index_Get.calls kj14 _ _ x8_14 t507 t508 t511 t512 _ ?side1 ?side2 A43.out).mono ?_); (case side1 => repeat (first | exact (Kd.R_reads' HO_8.out).2.2 | (with_reducible refine Kd.C_alloc ?_ _) | (with_reducible refine Kd.C_drewN ?_ _) | (with_reducible refine Kd.C_drew ?_))); (case side2 => exact (Kd.R_reads' HO_8.out).2.1); rintro e w53 ⟨v509, rfl, ho0, hb⟩; refine ⟨_, rfl, ?_⟩; replace HO_8 := Aside0.mk (Kd.R_below (kr HO_8) hb); have HO510 := Aside0.mk (Kd.R_lower ho0 (below_size (kl HB))); replace HB := kH HB hb; (try clear hb); (try clear hb2); (try clear hk); (try clear hi); (try clear ho0); (try simp only [errW_none, errW_some])) | ((with_reducible refine gate_dst (N := 11) rfl ?_); (try (refine gate_guard (by rfl) ?_; dsimp only)); refine box_event ?hg (N := 11) ?hd (cs := #[.int .i64 0, .slice none 0 0]) (t := 53) ?hr ?_; (case hd => rfl); (case hg => rfl); (case hr => first | (go_simp; done) | (go_simp; rfl)); intro gb513 hg w54 hbox hb; replace HO_8 := Aside0.mk (Kd.R_below (kr HO_8) hb); replace HO510 := Aside0.mk (Kd.R_below (kr HO510) hb); have BK513 := Aside0.mk (hbox); have GW513 := kG hg HB; have GE513 := kG hg HB; replace HB := kH HB hb; clear hb hbox hg; have hcz55_0 : w54.cell? ⟨gb513, 0, none⟩ = some (.int .i64 0) := (blk_cell BK513.out 0).trans rfl; have hcz55_1 : w54.cell? ⟨gb513, 1, none⟩ = some (.slice none 0 0) := (blk_cell BK513.out 1).trans rfl; have hfz55_0 := blk_frozen BK513.out 0; have hfz55_1 := blk_frozen BK513.out 1; obtain ⟨Ao56, co56, eo56⟩ := Kd.R_slice HO510.out; subst eo56) | ((with_reducible refine gate_callee (f := 28) rfl ?_); refine goesL_ (some 77) rfl rfl Try.func28 (by kernel_rfl) rfl #[.slice Ao52 x8_14.length co52] rfl km ?_; (with_reducible refine (gaiterref09_GetIndex.calls kj14 _ _ x8_14 t514 t515 t516 t517 _ ?side1 ?side2 A44.out).mono ?_); (case side1 => refine (Kd.R_reads' (e := 5) (base := w.heap.size) (ok := fun k_ => True) (n := x8_14.length) (c := co52) ?_).2.2; exact (by (with_reducible repeat (first | apply Kd.R_alloc | apply Kd.R_drewN | apply Kd.R_drew)); exact (Kd.R_mono (Kd.R_far (p := ⟨gb513, 1, none⟩) (Kd.R_far (p := ⟨gb513, 0, none⟩) (Kd.R_types HO_8.out BK513.out (by decide)) (fun _ hk => hk.2) (.int .i64 t507)) (fun _ hk => hk.2) (.slice Ao56 t508.length co56)) (fun _ h_ => h_.1)))); (case side2 => exact (Kd.R_reads' HO_8.out).2.1); rintro e w57 ⟨v518, rfl, ho0, hb⟩; refine ⟨_, rfl, ?_⟩; replace HO_8 := Aside0.mk (Kd.R_below (by (with_reducible repeat (first | apply Kd.R_alloc | apply Kd.R_drewN | apply Kd.R_drew)); exact (Kd.R_mono (Kd.R_far (p := ⟨gb513, 1, none⟩) (Kd.R_far (p := ⟨gb513, 0, none⟩) (Kd.R_types HO_8.out BK513.out (by decide)) (fun _ hk => hk.2) (.int .i64 t507)) (fun _ hk => hk.2) (.slice Ao56 t508.length co56)) (fun _ h_ => h_.1))) hb); replace HO510 := Aside0.mk (Kd.R_below (by (with_reducible repeat (first | apply Kd.R_alloc | apply Kd.R_drewN | apply Kd.R_drew)); exact (Kd.R_mono (Kd.R_far (p := ⟨gb513, 1, none⟩) (Kd.R_far (p := ⟨gb513, 0, none⟩) (Kd.R_types HO510.out BK513.out (by decide)) (fun _ hk => hk.2) (.int .i64 t507)) (fun _ hk => hk.2) (.slice Ao56 t508.length co56)) (fun _ h_ => h_.1))) hb); have HO519 := Aside0.mk (Kd.R_lower ho0 (below_size (kl HB))); replace BK513 := Aside0.mk (blk_below (g := gb513) (o := .cells #[.int .i64 t507, .slice Ao56 t508.length co56] 53 (0, 0)) (kb BK513) hb); replace HB := kH HB hb; (try clear hb); (try clear hb2); (try clear hk); (try clear hi); (try clear ho0); have hcz58_0 : w57.cell? ⟨gb513, 0, none⟩ = some (.int .i64 t507) := (blk_cell BK513.out 0).trans rfl; have hcz58_1 : w57.cell? ⟨gb513, 1, none⟩ = some (.slice Ao56 t508.length co56) := (blk_cell BK513.out 1).trans rfl; have hfz58_0 := blk_frozen BK513.out 0; have hfz58_1 := blk_frozen BK513.out 1) | (go_at_call 24; (with_reducible refine (gaiterlaw14_list.calls kj14 _ _ t508 t520 _ ?side1 ?side2 A47.out).mono ?_); (case side1 => repeat (first | exact (Kd.R_reads' HO510.out).2.2 | (with_reducible refine Kd.C_alloc ?_ _) | (with_reducible refine Kd.C_drewN ?_ _) | (with_reducible refine Kd.C_drew ?_))); (case side2 => exact (Kd.R_reads' HO510.out).2.1); rintro e w59 ⟨v521, rfl, ho0, hb⟩; replace HO_8 := Aside0.mk (Kd.R_below (kr HO_8) hb); replace HO510 := Aside0.mk (Kd.R_below (kr HO510) hb); have HO522 := Aside0.mk (Kd.R_lower (Kd.R_new' ho0 (Kd.R_lt (kr HO519))) (below_size (kl HB))); replace HO519 := Aside0.mk (Kd.R_elder' (kr HO519) (Kd.R_base ho0) hb); replace BK513 := kB BK513 hb; replace HB := kH HB hb; (try clear hb); (try clear hb2); (try clear hk); (try clear hi); (try clear ho0); obtain ⟨Ao60, co60, eo60⟩ := Kd.R_slice HO522.out; subst eo60; obtain ⟨Ao61, co61, eo61⟩ := Kd.R_slice HO519.out; subst eo61) | (go_at_call 29; (with_reducible refine (gaiterlaw14_same.calls kj14 _ _ t520 _ _ t515 t523 _ ?side1 ?side2 ?side3 ?side4 A48.out).mono ?_); (case side1 => repeat (first | exact (Kd.R_reads' HO522.out).2.2 | (with_reducible refine Kd.C_alloc ?_ _) | (with_reducible refine Kd.C_drewN ?_ _) | (with_reducible refine Kd.C_drew ?_))); (case side2 => exact (Kd.R_reads' HO522.out).2.1); (case side3 => repeat (first | exact (Kd.R_reads' HO519.out).2.2 | (with_reducible refine Kd.C_alloc ?_ _) | (with_reducible refine Kd.C_drewN ?_ _) | (with_reducible refine Kd.C_drew ?_))); (case side4 => exact (Kd.R_reads' HO519.out).2.1); rintro e w' ⟨rfl, ⟨nd, rfl⟩⟩; have CA51 := fun W => gaiterlaw00_Code.calls t512 t524 W A51.out; try simp only [errW_none, errW_some] at CA51) | (go_at_call 18; (with_reducible refine (CA51 _).mono ?_); rintro e w' ⟨rfl, ⟨nd, rfl⟩⟩))
           go_ret
           exact ⟨by first | rfl | (simp [errW_none, errW_some] <;> rfl) | (simp [*, errW_none, errW_some] <;> rfl), (kl HB)⟩
          ·rw [if_neg c50] at H
           exact absurd H (by simp)
         ·rw [if_neg c49] at H
          exact absurd H (by simp)
        ·rw [if_neg c46] at H
         exact absurd H (by simp)
       ·replace c45 := Bool.eq_false_iff.mpr c45
        subst c45
        have H1 : (none) = some r := by rw [if_neg (show ¬ (false = true) by decide)] at H; exact H
        clear H
        have H := H1
        clear H1
        exact absurd H (by simp)
  ·rw [if_neg c7] at H
   exact absurd H (by simp)

/-- THE ONE PURE STATEMENT of gaiterlaw14_IndexGets: yours. -/
def gaiterlaw14_IndexGets.Pure : Prop := ∀ (l0 : List Int) (a1 : Bool) (a2 : Int), l0.length ≤ maxLen → l0.length * 1 ≤ 140737488351232 → (∀ x ∈ l0, (Lit.int .u8 x).wf = true) → (Lit.int .i64 a2).wf = true → ∃ k, gaiterlaw14_IndexGets.f k l0 a1 a2 = some true
theorem gaiterlaw14_IndexGets.walk (P : gaiterlaw14_IndexGets.Pure) (a0 : Option Addr) (len0 cap0 : Nat) (z0 : List Int) (a1 : Bool) (a2 : Int) (w : World) (w0 : (a0 = none ∧ len0 = 0 ∧ cap0 = 0 ∧ z0 = []) ∨ ∃ x, a0 = some x ∧ len0 ≤ cap0 ∧ cap0 ≤ maxLen ∧ z0.length = cap0 ∧ (∀ i, i < z0.length → w.cell? (x.add i) = some (.int .u8 (z0.getD i 0))) ∧ ∀ n ∈ z0, (Lit.int .u8 n).wf = true) (y0 : len0 * 1 ≤ 140737488351232) (w2 : (Lit.int .i64 a2).wf = true) :
  Calls Try.prog 5 #[.slice a0 len0 cap0, .bool a1, .int .i64 a2] w fun e w' => e = .returned (.bool true) ∧ Below w.heap.size w w' := by
 obtain ⟨l0, rfl, hr0, hm0, hw0, hc0⟩ := ReadsInt.ofRowC w0
 obtain ⟨k, h⟩ := P l0 a1 a2 hm0 y0 hw0 w2
 refine (gaiterlaw14_IndexGets.calls k _ _ l0 a1 a2 true w (Kd.C_of_reads (d := (0 : Int)) (h1 := fun _ => rfl) hr0) hc0 h).mono ?_
 rintro e w' ⟨rfl, hd⟩
 exact ⟨rfl, hd⟩

end Go.Proofs.Ytiahbcaoikoogaa.All
