-- written by a program of the session out of the translation; Lean checks it
import Derived.Test.YtiahbcaoikoogaaAllx0
import Derived.Test.YtiahbcaoikoogaaAllx20
import Derived.Test.YtiahbcaoikoogaaAllx22
namespace Go.Proofs.Ytiahbcaoikoogaa.All
open Go.RowKit Go.Proofs.YtiahbcaoikoogaaW.PrintWords Go.Proofs.YtiahbcaoikoogaaW.PrintLast Go.Proofs.YtiahbcaoikoogaaW.PrintMore
attribute [local go_sem] max2_int min2_int max_two min_two max_three min_three max_four min_four   -- for this text's walks alone
set_option linter.unusedVariables false
set_option linter.unusedSimpArgs false

/-! ### gaiterref09_Index: function 25 -/
def gaiterref09_Index.l0 : Nat → List (S79) → List Int → Int → Option (List Int)
 | 0, _, _, _ => none
 | k + 1, x1, x5, x6 => if x6 < (x1.length : Int) then (if 0 ≤ x6 then ((gaiterref09_big.f k (IntKind.u64.wrap ((rd_T79 x1 x6).f0)) 8).bind fun t398 => (if x5.length + t398.length < 140737488355328 then ((some (x5 ++ t398 : List Int)).bind fun y401 => ((gaiterref01_Uvar.f k (IntKind.u64.wrap ((IntKind.u64.wrap ((rd_T79 x1 x6).f1)) - (IntKind.u64.wrap ((rd_T79 x1 x6).f0))))).bind fun t406 => (if y401.length + t406.length < 140737488355328 then ((some (y401 ++ t406 : List Int)).bind fun y409 => ((gaiterref01_Uvar.f k (IntKind.u64.wrap ((rd_T79 x1 x6).f2))).bind fun t413 => (if y409.length + t413.length < 140737488355328 then ((some (y409 ++ t413 : List Int)).bind fun y416 => ((gaiterref01_Uvar.f k (IntKind.u64.wrap ((rd_T79 x1 x6).f3))).bind fun t420 => (if y416.length + t420.length < 140737488355328 then (gaiterref09_Index.l0 k x1 (y416 ++ t420) (wrap64 (x6 + 1))) else (none)))) else (none)))) else (none)))) else (none))) else (none)) else ((gaiterref09_Sum.f k x5).bind fun t390 => ((gaiterref09_big.f k (IntKind.u64.wrap (t390)) 4).bind fun t391 => (if x5.length + t391.length < 140737488355328 then (some (x5 ++ t391)) else (none))))
def gaiterref09_Index.f (k : Nat) (a0 : Int) (l1 : List (S79)) : Option (List Int) := (some (([71, 84, 83, 49, (a0) % 256] : List Int) : List Int)).bind fun y381 => ((gaiterref01_Uvar.f k (IntKind.u64.wrap ((l1.length : Int)))).bind fun t384 => (if y381.length + t384.length < 140737488355328 then (gaiterref09_Index.l0 k l1 (y381 ++ t384) 0) else (none)))
theorem gaiterref09_Index.mono_l : ∀ k, (∀ y0 y1 y2, LeO (gaiterref09_Index.l0 k y0 y1 y2) (gaiterref09_Index.l0 (k + 1) y0 y1 y2))
 | 0 => fun _ _ _ r h => by simp [gaiterref09_Index.l0] at h
 | k + 1 => by
  have ih0 := gaiterref09_Index.mono_l k
  ·intro y0 y1 y2
   unfold gaiterref09_Index.l0
   repeat' first
   | (with_reducible exact ih0 _ _ _)
   | (with_reducible exact gaiterref01_Uvar.mono _ _)
   | (with_reducible exact gaiterref09_Sum.mono _ _)
   | (with_reducible exact gaiterref09_big.mono _ _ _)
   | (with_reducible exact LeO.refl _)
   | (with_reducible exact LeO.none _)
   | (with_reducible refine LeO.ite ?_ ?_)
   | (with_reducible refine LeO.bind ?_ (fun _ => ?_))
   | exact ih0 _ _ _
   | exact gaiterref01_Uvar.mono _ _
   | exact gaiterref09_Sum.mono _ _
   | exact gaiterref09_big.mono _ _ _
   | exact LeO.none _
   | refine LeO.ite ?_ ?_
   | refine LeO.bind ?_ (fun _ => ?_)
theorem gaiterref09_Index.mono : ∀ a0 a1 k, LeO (gaiterref09_Index.f k a0 a1) (gaiterref09_Index.f (k + 1) a0 a1) := by
 intro a0 a1 k
 have ih0 := gaiterref09_Index.mono_l k
 unfold gaiterref09_Index.f
 repeat' first
   | (with_reducible exact ih0 _ _ _)
   | (with_reducible exact gaiterref01_Uvar.mono _ _)
   | (with_reducible exact gaiterref09_Sum.mono _ _)
   | (with_reducible exact gaiterref09_big.mono _ _ _)
   | (with_reducible exact LeO.refl _)
   | (with_reducible exact LeO.none _)
   | (with_reducible refine LeO.ite ?_ ?_)
   | (with_reducible refine LeO.bind ?_ (fun _ => ?_))
   | exact ih0 _ _ _
   | exact gaiterref01_Uvar.mono _ _
   | exact gaiterref09_Sum.mono _ _
   | exact gaiterref09_big.mono _ _ _
   | exact LeO.none _
   | refine LeO.ite ?_ ?_
   | refine LeO.bind ?_ (fun _ => ?_)
def gaiterref09_Index.T6 : Bool × List (List Nat × List Nat) := (true, [([], []), ([], []), ([], []), ([1, 2], [1, 2]), ([3], [3]), ([4], [4]), ([5], [5]), ([], []), ([], []), ([7, 8], [7, 8]), ([9], [9]), ([10], [10]), ([11], [11]), ([6, 12], [6, 12]), ([13], [13]), ([0, 14, 14], [0, 14]), ([15, 15, 0, 1, 2, 3, 4, 5, 6, 7, 8, 9, 10, 11, 12, 13, 14, 15], [0, 15])])
def gaiterref09_Index.B6 : List Nat := [0, 0, 0, 6, 14, 30, 62, 0, 0, 384, 896, 1920, 3968, 8190, 16382, 32767, 65535]
theorem gaiterref09_Index.tab6 : rtab .any (opsOf Try.f25 6) = gaiterref09_Index.T6 := by kernel_rfl
theorem gaiterref09_Index.bits6 : waitsOk gaiterref09_Index.T6.2 gaiterref09_Index.B6 = true := by kernel_rfl
set_option maxHeartbeats 8000000 in
set_option maxRecDepth 100000 in
theorem gaiterref09_Index.calls (k : Nat) (a0 : Int) (A1 : Option Addr) (c1 : Nat) (l1 : List (S79)) (r : List Int) (w : World) (hr1 : Kd.C k79 w A1 l1.length l1) (hc1 : l1.length ≤ c1) (h : gaiterref09_Index.f k a0 l1 = some r) :
  Calls Try.prog 25 #[.int .i64 a0, .slice A1 l1.length c1] w fun e w' => ∃ v0_ : Value, e = .returned (v0_) ∧ Kd.R (Kd.int .u8) 5 w' w.heap.size (fun _ => True) v0_ r ∧ Below w.heap.size w w' := by
 have HR1 := Aside0.mk hr1
 have HC1 := Aside0.mk hc1
 clear hr1 hc1
 have HB := Aside0.mk (Below.refl w.heap.size w)
 have H : ((some (([71, 84, 83, 49, (a0) % 256] : List Int) : List Int)).bind fun y381 => ((gaiterref01_Uvar.f k (IntKind.u64.wrap ((l1.length : Int)))).bind fun t384 => (if y381.length + t384.length < 140737488355328 then (gaiterref09_Index.l0 k l1 (y381 ++ t384) 0) else (none)))) = some r := h
 clear h
 obtain ⟨y381, hy381⟩ : ∃ y_ : List Int, y_ = (([71, 84, 83, 49, (a0) % 256] : List Int)) := ⟨_, rfl⟩
 replace H : ((gaiterref01_Uvar.f k (IntKind.u64.wrap ((l1.length : Int)))).bind fun t384 => (if y381.length + t384.length < 140737488355328 then (gaiterref09_Index.l0 k l1 (y381 ++ t384) 0) else (none))) = some r := by first | (rw [hy381]; with_reducible exact H) | (have H2_ := (Option.bind_some _ _).symm.trans H; rw [hy381]; with_reducible exact H2_) | (have H2_ := (Option.bind_some _ _).symm.trans H; with_reducible exact H2_) | with_reducible exact H | (rw [hy381]; exact H) | exact H
 have Ny381 := Aside0.mk hy381
 clear hy381
 replace H := Option.bind_eq_some_iff.mp H
 obtain ⟨t384, A30, H⟩ := H
 replace H : (if y381.length + t384.length < 140737488355328 then (gaiterref09_Index.l0 k l1 (y381 ++ t384) 0) else (none)) = some r := H
 have A3 := Aside0.mk A30
 clear A30
 by_cases c4 : y381.length + t384.length < 140737488355328
 ·rw [if_pos c4] at H
  have LMc4 := Aside0.mk c4
  clear c4
  obtain ⟨y387, hy387⟩ : ∃ y_ : List Int, y_ = (y381 ++ t384) := ⟨_, rfl⟩
  replace H : (gaiterref09_Index.l0 k l1 y387 0) = some r := by first | (rw [hy387]; with_reducible exact H) | (have H2_ := (Option.bind_some _ _).symm.trans H; rw [hy387]; with_reducible exact H2_) | (have H2_ := (Option.bind_some _ _).symm.trans H; with_reducible exact H2_) | with_reducible exact H | (rw [hy387]; exact H) | exact H
  have Ny387 := Aside0.mk hy387
  clear hy387
  have H' := Aside0.mk H
  clear H
  go_enter Try.func25, Try.ntmps25
  go_wp2_with (first | ((with_reducible refine gate_dst (N := 9) rfl ?_); refine Kd.R_lit (Kd.int .u8) _ 5 ?hg (N := 9) ?hd (xs := ([71, 84, 83, 49, (a0) % 256] : List Int)) (inner := [.int .u8 71, .int .u8 84, .int .u8 83, .int .u8 49, .int .u8 ((a0) % 256)]) (ok := fun _ => True) (okp := fun _ => True) ?hr ?hp (fun _ hk => hk) trivial (Below.refl _ _) (Nat.le_refl _) (by simp) ?_; (case hd => rfl); (case hg => rfl); (case hr => first | (go_simp; done) | (go_simp; rfl)); (case hp => exact (Reps.one (show Kd.M (Kd.int .u8) _ _ _ 71 [.int .u8 71] from rfl) (Reps.one (show Kd.M (Kd.int .u8) _ _ _ 84 [.int .u8 84] from rfl) (Reps.one (show Kd.M (Kd.int .u8) _ _ _ 83 [.int .u8 83] from rfl) (Reps.one (show Kd.M (Kd.int .u8) _ _ _ 49 [.int .u8 49] from rfl) (Reps.one (show Kd.M (Kd.int .u8) _ _ _ ((a0) % 256) [.int .u8 ((a0) % 256)] from rfl) (Reps.none _ _))))))); intro v382 w5 ho6 hb hg_ hnew_; clear hg_ hnew_; (first | rw [← Ny381.out] at ho6 | (simp only [Int.reduceToNat] at ho6; rw [← Ny381.out] at ho6)); have HO383 := Aside0.mk (Kd.R_lower ho6 (below_size (kl HB))); replace HB := kH HB hb; clear hb ho6) | ((with_reducible refine gate_callee (f := 34) rfl ?_); refine goesL_ (some 13) rfl rfl Try.func34 (by kernel_rfl) rfl #[.int .u64 (IntKind.u64.wrap ((l1.length : Int)))] rfl km ?_; (with_reducible refine (gaiterref01_Uvar.calls k (IntKind.u64.wrap ((l1.length : Int))) t384 _ A3.out).mono ?_); rintro e w7 ⟨v385, rfl, ho0, hb⟩; refine ⟨_, rfl, ?_⟩; have HO386 := Aside0.mk (Kd.R_lower (Kd.R_new' ho0 (Kd.R_lt (kr HO383))) (below_size (kl HB))); replace HO383 := Aside0.mk (Kd.R_elder' (kr HO383) (Kd.R_base ho0) hb); replace HB := kH HB hb; (try clear hb); (try clear hb2); (try clear hk); (try clear hi); (try clear ho0); obtain ⟨Ao9, co9, eo9⟩ := Kd.R_slice HO386.out; subst eo9) | ((with_reducible refine gate_builtin (b := .append) (xs := #[.tmp 9, .tmp 13]) rfl ?_); at_builtin; refine Kd.R_append_rows (Kd.int .u8) (w0 := w) w.heap.size rfl (.tmp 9) (.tmp 13) 54 5 (.int .u8 0) 1 rfl Try.underlying54 info5 rfl (by decide) (by omega) v382 y381 t384 _ _ _ (fun k_ => some k_ ≠ (.slice Ao9 t384.length co9 : Value).ownBlock) (fun _ => False) rfl rfl ?aO ?aR (fun _ _ h => h) (fun _ h => h.elim) ?aF ?aB ?aS ?aL ?_; (case aR => repeat (first | exact (Kd.R_reads' HO386.out).2.2 | (with_reducible refine Kd.C_alloc ?_ _) | (with_reducible refine Kd.C_drewN ?_ _) | (with_reducible refine Kd.C_drew ?_))); (case aB => exact (kl HB)); (case aF => exact (fun k_ hk => Kd.fresh' (Kd.R_lt (kr HO386)) k_ hk)); (case aO => exact (by (with_reducible repeat (first | apply Kd.R_alloc | apply Kd.R_drewN | apply Kd.R_drew)); exact Kd.R_mono HO383.out (fun _ hk => hk.2))); (case aS => exact (below_size (kl HB))); (case aL => have := LMc4.out; omega); intro v388 w8 ho hb hg hat; rw [← Ny387.out] at ho; have n0_ := Aside0.mk (Kd.R_after (ok := (fun _ => True)) (kr HO386) hg hat); have n1_ := Aside0.mk (hb); have n2_ := Aside0.mk (ho); clear HO386; clear HB; clear HO383; have HO386 := n0_; have HB := n1_; have HO389 := n2_; clear n0_ n1_ n2_; clear ho hb hg hat))
  go_loopg [5, 6] k (fun kq v5 v6 w' => ∃ (x5_1 : List Int) (x6_1 : Int), v6 = .int .i64 x6_1 ∧ Aside0 (gaiterref09_Index.l0 kq l1 x5_1 x6_1 = some r) ∧ Aside0 (kq ≤ k) ∧ Aside0 (Kd.R (Kd.int .u8) 5 w' w.heap.size (fun _ => True) v5 x5_1) ∧ Aside0 (Below w.heap.size w w'))
  case atStart => exact ⟨(y387), (0), (by first | rfl | (simp; done) | (simp [*]; done)), H', ⟨Nat.le_refl _⟩, ⟨by (with_reducible repeat (first | apply Kd.R_alloc | apply Kd.R_drewN | apply Kd.R_drew)); exact Kd.R_mono HO389.out (fun _ hk => trivial)⟩, ⟨(kl HB)⟩⟩
  case round =>
   clear H'
   try clear c1
   try clear c2
   try clear p2
   try clear c3
   try clear c4
   obtain ⟨x5_1, x6_1, rfl, HA, HK1, HO_5, HB⟩ := hrel
   cases gk with
   | zero => exact absurd HA.out (by simp [gaiterref09_Index.l0])
   | succ k1 =>
    have H := HA.out
    clear HA
    simp only [gaiterref09_Index.l0] at H
    by_cases c10 : x6_1 < (l1.length : Int)
    ·rw [if_pos c10] at H
     have c10b0 : decide (x6_1 < (l1.length : Int)) = true := decide_eq_true c10
     clear c10
     by_cases c11 : 0 ≤ x6_1
     ·rw [if_pos c11] at H
      have c11b0 : decide (0 ≤ x6_1) = true := decide_eq_true c11
      clear c11
      replace H := Option.bind_eq_some_iff.mp H
      obtain ⟨t398, A120, H⟩ := H
      replace H : (if x5_1.length + t398.length < 140737488355328 then ((some (x5_1 ++ t398 : List Int)).bind fun y401 => ((gaiterref01_Uvar.f k1 (IntKind.u64.wrap ((IntKind.u64.wrap ((rd_T79 l1 x6_1).f1)) - (IntKind.u64.wrap ((rd_T79 l1 x6_1).f0))))).bind fun t406 => (if y401.length + t406.length < 140737488355328 then ((some (y401 ++ t406 : List Int)).bind fun y409 => ((gaiterref01_Uvar.f k1 (IntKind.u64.wrap ((rd_T79 l1 x6_1).f2))).bind fun t413 => (if y409.length + t413.length < 140737488355328 then ((some (y409 ++ t413 : List Int)).bind fun y416 => ((gaiterref01_Uvar.f k1 (IntKind.u64.wrap ((rd_T79 l1 x6_1).f3))).bind fun t420 => (if y416.length + t420.length < 140737488355328 then (gaiterref09_Index.l0 k1 l1 (y416 ++ t420) (wrap64 (x6_1 + 1))) else (none)))) else (none)))) else (none)))) else (none)) = some r := H
      have A12 := Aside0.mk A120
      clear A120
      by_cases c13 : x5_1.length + t398.length < 140737488355328
      ·rw [if_pos c13] at H
       have LMc13 := Aside0.mk c13
       clear c13
       obtain ⟨y401, hy401⟩ : ∃ y_ : List Int, y_ = (x5_1 ++ t398) := ⟨_, rfl⟩
       replace H : ((gaiterref01_Uvar.f k1 (IntKind.u64.wrap ((IntKind.u64.wrap ((rd_T79 l1 x6_1).f1)) - (IntKind.u64.wrap ((rd_T79 l1 x6_1).f0))))).bind fun t406 => (if y401.length + t406.length < 140737488355328 then ((some (y401 ++ t406 : List Int)).bind fun y409 => ((gaiterref01_Uvar.f k1 (IntKind.u64.wrap ((rd_T79 l1 x6_1).f2))).bind fun t413 => (if y409.length + t413.length < 140737488355328 then ((some (y409 ++ t413 : List Int)).bind fun y416 => ((gaiterref01_Uvar.f k1 (IntKind.u64.wrap ((rd_T79 l1 x6_1).f3))).bind fun t420 => (if y416.length + t420.length < 140737488355328 then (gaiterref09_Index.l0 k1 l1 (y416 ++ t420) (wrap64 (x6_1 + 1))) else (none)))) else (none)))) else (none))) = some r := by first | (rw [hy401]; with_reducible exact H) | (have H2_ := (Option.bind_some _ _).symm.trans H; rw [hy401]; with_reducible exact H2_) | (have H2_ := (Option.bind_some _ _).symm.trans H; with_reducible exact H2_) | with_reducible exact H | (rw [hy401]; exact H) | exact H
       have Ny401 := Aside0.mk hy401
       clear hy401
       replace H := Option.bind_eq_some_iff.mp H
       obtain ⟨t406, A140, H⟩ := H
       replace H : (if y401.length + t406.length < 140737488355328 then ((some (y401 ++ t406 : List Int)).bind fun y409 => ((gaiterref01_Uvar.f k1 (IntKind.u64.wrap ((rd_T79 l1 x6_1).f2))).bind fun t413 => (if y409.length + t413.length < 140737488355328 then ((some (y409 ++ t413 : List Int)).bind fun y416 => ((gaiterref01_Uvar.f k1 (IntKind.u64.wrap ((rd_T79 l1 x6_1).f3))).bind fun t420 => (if y416.length + t420.length < 140737488355328 then (gaiterref09_Index.l0 k1 l1 (y416 ++ t420) (wrap64 (x6_1 + 1))) else (none)))) else (none)))) else (none)) = some r := H
       have A14 := Aside0.mk A140
       clear A140
       by_cases c15 : y401.length + t406.length < 140737488355328
       ·rw [if_pos c15] at H
        have LMc15 := Aside0.mk c15
        clear c15
        obtain ⟨y409, hy409⟩ : ∃ y_ : List Int, y_ = (y401 ++ t406) := ⟨_, rfl⟩
        replace H : ((gaiterref01_Uvar.f k1 (IntKind.u64.wrap ((rd_T79 l1 x6_1).f2))).bind fun t413 => (if y409.length + t413.length < 140737488355328 then ((some (y409 ++ t413 : List Int)).bind fun y416 => ((gaiterref01_Uvar.f k1 (IntKind.u64.wrap ((rd_T79 l1 x6_1).f3))).bind fun t420 => (if y416.length + t420.length < 140737488355328 then (gaiterref09_Index.l0 k1 l1 (y416 ++ t420) (wrap64 (x6_1 + 1))) else (none)))) else (none))) = some r := by first | (rw [hy409]; with_reducible exact H) | (have H2_ := (Option.bind_some _ _).symm.trans H; rw [hy409]; with_reducible exact H2_) | (have H2_ := (Option.bind_some _ _).symm.trans H; with_reducible exact H2_) | with_reducible exact H | (rw [hy409]; exact H) | exact H
        have Ny409 := Aside0.mk hy409
        clear hy409
        replace H := Option.bind_eq_some_iff.mp H
        obtain ⟨t413, A160, H⟩ := H
        replace H : (if y409.length + t413.length < 140737488355328 then ((some (y409 ++ t413 : List Int)).bind fun y416 => ((gaiterref01_Uvar.f k1 (IntKind.u64.wrap ((rd_T79 l1 x6_1).f3))).bind fun t420 => (if y416.length + t420.length < 140737488355328 then (gaiterref09_Index.l0 k1 l1 (y416 ++ t420) (wrap64 (x6_1 + 1))) else (none)))) else (none)) = some r := H
        have A16 := Aside0.mk A160
        clear A160
        by_cases c17 : y409.length + t413.length < 140737488355328
        ·rw [if_pos c17] at H
         have LMc17 := Aside0.mk c17
         clear c17
         obtain ⟨y416, hy416⟩ : ∃ y_ : List Int, y_ = (y409 ++ t413) := ⟨_, rfl⟩
         replace H : ((gaiterref01_Uvar.f k1 (IntKind.u64.wrap ((rd_T79 l1 x6_1).f3))).bind fun t420 => (if y416.length + t420.length < 140737488355328 then (gaiterref09_Index.l0 k1 l1 (y416 ++ t420) (wrap64 (x6_1 + 1))) else (none))) = some r := by first | (rw [hy416]; with_reducible exact H) | (have H2_ := (Option.bind_some _ _).symm.trans H; rw [hy416]; with_reducible exact H2_) | (have H2_ := (Option.bind_some _ _).symm.trans H; with_reducible exact H2_) | with_reducible exact H | (rw [hy416]; exact H) | exact H
         have Ny416 := Aside0.mk hy416
         clear hy416
         replace H := Option.bind_eq_some_iff.mp H
         obtain ⟨t420, A180, H⟩ := H
         replace H : (if y416.length + t420.length < 140737488355328 then (gaiterref09_Index.l0 k1 l1 (y416 ++ t420) (wrap64 (x6_1 + 1))) else (none)) = some r := H
         have A18 := Aside0.mk A180
         clear A180
         by_cases c19 : y416.length + t420.length < 140737488355328
         ·rw [if_pos c19] at H
          have LMc19 := Aside0.mk c19
          clear c19
          obtain ⟨y423, hy423⟩ : ∃ y_ : List Int, y_ = (y416 ++ t420) := ⟨_, rfl⟩
          replace H : (gaiterref09_Index.l0 k1 l1 y423 (wrap64 (x6_1 + 1))) = some r := by first | (rw [hy423]; with_reducible exact H) | (have H2_ := (Option.bind_some _ _).symm.trans H; rw [hy423]; with_reducible exact H2_) | (have H2_ := (Option.bind_some _ _).symm.trans H; with_reducible exact H2_) | with_reducible exact H | (rw [hy423]; exact H) | exact H
          have Ny423 := Aside0.mk hy423
          clear hy423
          have H' := Aside0.mk H
          clear H
          have p397 : 0 ≤ (x6_1 : Int) := of_decide_eq_true (by first | (with_reducible assumption) | assumption)
          have q397 : x6_1 < (l1.length : Int) := of_decide_eq_true (by first | (with_reducible assumption) | assumption)
          obtain ⟨ad397, e397, hx397_0, hx397_1, hx397_2, hx397_3⟩ := at_T79 HR1.out x6_1 p397 q397
          cases e397
          replace hx397_0 := (HB.out.cell (World.block_lt_of_cell? w _ hx397_0)).trans hx397_0
          replace hx397_1 := (HB.out.cell (World.block_lt_of_cell? w _ hx397_1)).trans hx397_1
          replace hx397_2 := (HB.out.cell (World.block_lt_of_cell? w _ hx397_2)).trans hx397_2
          replace hx397_3 := (HB.out.cell (World.block_lt_of_cell? w _ hx397_3)).trans hx397_3
          replace p397 := eq_true p397
          (try (have q397s := q397; simp only [List.length_drop, List.length_take] at q397s; replace q397s := eq_true q397s)); replace q397 := eq_true q397
          try go_wp2_with (first | ((with_reducible refine gate_callee (f := 35) rfl ?_); refine goesL_ (some 28) rfl rfl Try.func35 (by kernel_rfl) rfl #[.int .u64 (IntKind.u64.wrap ((rd_T79 l1 x6_1).f0)), .int .i64 8] rfl km ?_; (with_reducible refine (gaiterref09_big.calls k1 (IntKind.u64.wrap ((rd_T79 l1 x6_1).f0)) 8 t398 _ A12.out).mono ?_); rintro e w20 ⟨v399, rfl, ho0, hb⟩; refine ⟨_, rfl, ?_⟩; have HO400 := Aside0.mk (Kd.R_lower (Kd.R_new' ho0 (Kd.R_lt (kr HO_5))) (below_size (kl HB))); replace HO_5 := Aside0.mk (Kd.R_elder' (kr HO_5) (Kd.R_base ho0) hb); replace HB := kH HB hb; (try clear hb); (try clear hb2); (try clear hk); (try clear hi); (try clear ho0); obtain ⟨Ao22, co22, eo22⟩ := Kd.R_slice HO400.out; subst eo22) | ((with_reducible refine gate_builtin (b := .append) (xs := #[.tmp 21, .tmp 28]) rfl ?_); at_builtin; refine Kd.R_append_rows (Kd.int .u8) (w0 := w) w.heap.size rfl (.tmp 21) (.tmp 28) 54 5 (.int .u8 0) 1 rfl Try.underlying54 info5 rfl (by decide) (by omega) u5 x5_1 t398 _ _ _ (fun k_ => some k_ ≠ (.slice Ao22 t398.length co22 : Value).ownBlock) (fun _ => False) rfl rfl ?aO ?aR (fun _ _ h => h) (fun _ h => h.elim) ?aF ?aB ?aS ?aL ?_; (case aR => repeat (first | exact (Kd.R_reads' HO400.out).2.2 | (with_reducible refine Kd.C_alloc ?_ _) | (with_reducible refine Kd.C_drewN ?_ _) | (with_reducible refine Kd.C_drew ?_))); (case aB => exact (kl HB)); (case aF => exact (fun k_ hk => Kd.fresh' (Kd.R_lt (kr HO400)) k_ hk)); (case aO => exact (by (with_reducible repeat (first | apply Kd.R_alloc | apply Kd.R_drewN | apply Kd.R_drew)); exact Kd.R_mono HO_5.out (fun _ hk => hk.2))); (case aS => exact (below_size (kl HB))); (case aL => have := LMc13.out; omega); intro v402 w21 ho hb hg hat; rw [← Ny401.out] at ho; have n0_ := Aside0.mk (Kd.R_after (ok := (fun _ => True)) (kr HO400) hg hat); have n1_ := Aside0.mk (hb); have n2_ := Aside0.mk (ho); clear HO400; clear HB; clear HO_5; have HO400 := n0_; have HB := n1_; have HO403 := n2_; clear n0_ n1_ n2_; clear ho hb hg hat))
          replace HO400 := Aside0.mk (Kd.R_drew HO400.out)
          replace HO403 := Aside0.mk (Kd.R_drew HO403.out)
          replace HB := Aside0.mk (below_drew1 HB.out)
          have p404 : 0 ≤ (x6_1 : Int) := of_decide_eq_true (by first | (with_reducible assumption) | assumption)
          have q404 : x6_1 < (l1.length : Int) := of_decide_eq_true (by first | (with_reducible assumption) | assumption)
          obtain ⟨ad404, e404, hx404_0, hx404_1, hx404_2, hx404_3⟩ := at_T79 HR1.out x6_1 p404 q404
          have hw404_3 := hx404_3
          have hw404_2 := hx404_2
          have hw404_1 := hx404_1
          have hw404_0 := hx404_0
          obtain rfl : ad397 = ad404 := (by injection e404)
          replace hx404_0 := (HB.out.cell (World.block_lt_of_cell? w _ hx404_0)).trans hx404_0
          replace hx404_1 := (HB.out.cell (World.block_lt_of_cell? w _ hx404_1)).trans hx404_1
          replace hx404_2 := (HB.out.cell (World.block_lt_of_cell? w _ hx404_2)).trans hx404_2
          replace hx404_3 := (HB.out.cell (World.block_lt_of_cell? w _ hx404_3)).trans hx404_3
          replace p404 := eq_true p404
          (try (have q404s := q404; simp only [List.length_drop, List.length_take] at q404s; replace q404s := eq_true q404s)); replace q404 := eq_true q404
          have p405 : 0 ≤ (x6_1 : Int) := of_decide_eq_true (by first | (with_reducible assumption) | assumption)
          have q405 : x6_1 < (l1.length : Int) := of_decide_eq_true (by first | (with_reducible assumption) | assumption)
          obtain ⟨ad405, e405, hx405_0, hx405_1, hx405_2, hx405_3⟩ := at_T79 HR1.out x6_1 p405 q405
          have hw405_3 := hx405_3
          have hw405_2 := hx405_2
          have hw405_1 := hx405_1
          have hw405_0 := hx405_0
          obtain rfl : ad397 = ad405 := (by injection e405)
          replace hx405_0 := (HB.out.cell (World.block_lt_of_cell? w _ hx405_0)).trans hx405_0
          replace hx405_1 := (HB.out.cell (World.block_lt_of_cell? w _ hx405_1)).trans hx405_1
          replace hx405_2 := (HB.out.cell (World.block_lt_of_cell? w _ hx405_2)).trans hx405_2
          replace hx405_3 := (HB.out.cell (World.block_lt_of_cell? w _ hx405_3)).trans hx405_3
          replace p405 := eq_true p405
          (try (have q405s := q405; simp only [List.length_drop, List.length_take] at q405s; replace q405s := eq_true q405s)); replace q405 := eq_true q405
          refine start_ (n := 17) (S := fun w' => w'.cell? (ad397.add ((x6_1).toNat * 4)) = some (.int .i64 ((rd_T79 l1 x6_1).f0)) ∧ w'.cell? ⟨(ad397.add ((x6_1).toNat * 4)).block, (ad397.add ((x6_1).toNat * 4)).off + 1, none⟩ = some (.int .i64 ((rd_T79 l1 x6_1).f1)) ∧ w'.cell? ⟨(ad397.add ((x6_1).toNat * 4)).block, (ad397.add ((x6_1).toNat * 4)).off + 2, none⟩ = some (.int .i64 ((rd_T79 l1 x6_1).f2)) ∧ w'.cell? ⟨(ad397.add ((x6_1).toNat * 4)).block, (ad397.add ((x6_1).toNat * 4)).off + 3, none⟩ = some (.int .i64 ((rd_T79 l1 x6_1).f3)) ∧ w'.cell? (ad397.add ((x6_1).toNat * 4)) = some (.int .i64 ((rd_T79 l1 x6_1).f0)) ∧ w'.cell? ⟨(ad397.add ((x6_1).toNat * 4)).block, (ad397.add ((x6_1).toNat * 4)).off + 1, none⟩ = some (.int .i64 ((rd_T79 l1 x6_1).f1)) ∧ w'.cell? ⟨(ad397.add ((x6_1).toNat * 4)).block, (ad397.add ((x6_1).toNat * 4)).off + 2, none⟩ = some (.int .i64 ((rd_T79 l1 x6_1).f2)) ∧ w'.cell? ⟨(ad397.add ((x6_1).toNat * 4)).block, (ad397.add ((x6_1).toNat * 4)).off + 3, none⟩ = some (.int .i64 ((rd_T79 l1 x6_1).f3))) (ds := []) (bl 17 0) (by kernel_rfl) rfl rfl ⟨((HB.out.cell (World.block_lt_of_cell? w _ hw404_0)).trans hw404_0), ((HB.out.cell (World.block_lt_of_cell? w _ hw404_1)).trans hw404_1), ((HB.out.cell (World.block_lt_of_cell? w _ hw404_2)).trans hw404_2), ((HB.out.cell (World.block_lt_of_cell? w _ hw404_3)).trans hw404_3), ((HB.out.cell (World.block_lt_of_cell? w _ hw405_0)).trans hw405_0), ((HB.out.cell (World.block_lt_of_cell? w _ hw405_1)).trans hw405_1), ((HB.out.cell (World.block_lt_of_cell? w _ hw405_2)).trans hw405_2), ((HB.out.cell (World.block_lt_of_cell? w _ hw405_3)).trans hw405_3)⟩ (fun hHeld => ?_); refine with_tabW gaiterref09_Index.tab6 gaiterref09_Index.bits6 (fun HT_ HW_ => ?_)
          generalize w21.drew = w23 at HO400 HO403 HB hx404_0 hx404_1 hx404_2 hx404_3 hx405_0 hx405_1 hx405_2 hx405_3 hHeld ⊢
          refine pu 0 (some 30) (bl 17 1) (h := ?_)
          refine pu 1 (some 31) (bl 17 3) (h := ?_)
          refine pu 2 (some 32) (bl 17 7) (h := ?_)
          refine pu 3 (some 33) (bl 17 15) (h := ?_)
          refine pu 4 (some 34) (bl 17 31) (h := ?_)
          refine pu 7 (some 37) (bl 17 159) (h := ?_)
          refine pu 8 (some 38) (bl 17 415) (h := ?_)
          refine pu 9 (some 39) (bl 17 927) (h := ?_)
          refine pu 10 (some 40) (bl 17 1951) (h := ?_)
          refine ta 5 (some 35) (bl 17 1983) (h := ?_)
          refine pu 6 (some 36) (bl 17 2047) (h := ?_)
          refine ta 11 (some 41) (bl 17 4095) (h := ?_)
          refine pu 12 (some 42) (bl 17 8191) (h := ?_)
          refine pu 13 (some 43) (bl 17 16383) (h := ?_)
          refine one_ (i := 14) (N := some 44) #[true, true, true, true, true, true, true, true, true, true, true, true, true, true, true, false, false] rfl rfl (one_of HT_.out (by kernel_rfl)) (by decide) (fun K hK => ?_)
          refine goes_ Try.func34 (by kernel_rfl) rfl #[.int .u64 (IntKind.u64.wrap ((IntKind.u64.wrap ((rd_T79 l1 x6_1).f1)) - (IntKind.u64.wrap ((rd_T79 l1 x6_1).f0))))] (by rfl) rfl rfl km ?_
          with_reducible refine (gaiterref01_Uvar.calls k1 (IntKind.u64.wrap ((IntKind.u64.wrap ((rd_T79 l1 x6_1).f1)) - (IntKind.u64.wrap ((rd_T79 l1 x6_1).f0)))) t406 _ A14.out).mono ?_
          rintro e w24 ⟨v407, rfl, ho0, hb⟩
          refine ⟨_, rfl, ?_⟩
          have HO408 := Aside0.mk (Kd.R_lower (Kd.R_new' (Kd.R_new' ho0 (Kd.R_lt (kr HO400))) (Kd.R_lt (kr HO403))) (below_size (kl HB)))
          replace HO400 := Aside0.mk (Kd.R_elder' (kr HO400) (Kd.R_base ho0) hb)
          replace HO403 := Aside0.mk (Kd.R_elder' (kr HO403) (Kd.R_base ho0) hb)
          replace HB := kH HB hb
          (try clear hb)
          (try clear hb2)
          (try clear hk)
          (try clear hi)
          (try clear ho0)
          obtain ⟨Ao26, co26, eo26⟩ := Kd.R_slice HO408.out
          (first | subst eo26 | (injection eo26 with f1_ f2_ f3_; have f4_ := f1_.symm; have f5_ := f3_.symm; clear f1_ f2_ f3_; subst f4_; subst f5_))
          refine hK.out _ _ ⟨((HB.out.cell (World.block_lt_of_cell? w _ hw404_0)).trans hw404_0), ((HB.out.cell (World.block_lt_of_cell? w _ hw404_1)).trans hw404_1), ((HB.out.cell (World.block_lt_of_cell? w _ hw404_2)).trans hw404_2), ((HB.out.cell (World.block_lt_of_cell? w _ hw404_3)).trans hw404_3), ((HB.out.cell (World.block_lt_of_cell? w _ hw405_0)).trans hw405_0), ((HB.out.cell (World.block_lt_of_cell? w _ hw405_1)).trans hw405_1), ((HB.out.cell (World.block_lt_of_cell? w _ hw405_2)).trans hw405_2), ((HB.out.cell (World.block_lt_of_cell? w _ hw405_3)).trans hw405_3)⟩ (fun hHeld => ?_)
          clear hK K
          refine norm_ (a' := ?_) ?_ ?_
          rotate_left
          ·show Act.put _ (some 44) _ = _
           simp only [Act.put, List.setIfInBounds_toArray, List.set_cons_zero, List.set_cons_succ, i64_w, i32_w]
           rfl
          refine one_ (i := 15) (N := some 45) #[true, true, true, true, true, true, true, true, true, true, true, true, true, true, true, true, false] rfl rfl (one_of HT_.out (by kernel_rfl)) (by decide) (fun K hK => ?_)
          refine Kd.R_append_rows_step (Kd.int .u8) (w0 := w) w.heap.size (by rfl) (.tmp 30) (.tmp 44) 54 5 (.int .u8 0) 1 rfl Try.underlying54 info5 rfl (by decide) (by omega) v402 y401 t406 _ _ _ (fun k_ => some k_ ≠ (.slice Ao22 t398.length co22 : Value).ownBlock ∧ some k_ ≠ (.slice Ao26 t406.length co26 : Value).ownBlock) (fun _ => False) rfl rfl ?aO ?aR (fun _ _ h => h) (fun _ h => h.elim) ?aF ?aB ?aS ?aL ?_
          (case aR => repeat (first | exact (Kd.R_reads' HO408.out).2.2 | (with_reducible refine Kd.C_alloc ?_ _) | (with_reducible refine Kd.C_drewN ?_ _) | (with_reducible refine Kd.C_drew ?_)))
          (case aB => exact (kl HB))
          (case aF => exact (fun k_ hk => ⟨Kd.fresh' (Kd.R_lt (kr HO400)) k_ hk, Kd.fresh' (Kd.R_lt (kr HO408)) k_ hk⟩))
          (case aO => exact (kr HO403))
          (case aS => exact (below_size (kl HB)))
          (case aL => have := LMc15.out; omega)
          intro v410 w25 ho hb hg hat
          rw [← Ny409.out] at ho
          have n0_ := Aside0.mk (Kd.R_after (ok := (fun k_ => some k_ ≠ (.slice Ao26 t406.length co26 : Value).ownBlock)) (by (with_reducible repeat (first | apply Kd.R_alloc | apply Kd.R_drewN | apply Kd.R_drew)); exact Kd.R_mono HO400.out (fun _ hk => ⟨hk.2, hk.1.2⟩)) hg hat)
          have n1_ := Aside0.mk (Kd.R_after (ok := (fun k_ => some k_ ≠ (.slice Ao22 t398.length co22 : Value).ownBlock)) (by (with_reducible repeat (first | apply Kd.R_alloc | apply Kd.R_drewN | apply Kd.R_drew)); exact Kd.R_mono HO408.out (fun _ hk => ⟨hk.1.2, hk.2⟩)) hg hat)
          have n2_ := Aside0.mk (hb)
          have n3_ := Aside0.mk (ho)
          clear HO400
          clear HO408
          clear HB
          clear HO403
          have HO400 := n0_
          have HO408 := n1_
          have HB := n2_
          have HO411 := n3_
          clear n0_ n1_ n2_ n3_
          clear ho hb hg hat
          refine hK.out _ _ ⟨((HB.out.cell (World.block_lt_of_cell? w _ hw404_0)).trans hw404_0), ((HB.out.cell (World.block_lt_of_cell? w _ hw404_1)).trans hw404_1), ((HB.out.cell (World.block_lt_of_cell? w _ hw404_2)).trans hw404_2), ((HB.out.cell (World.block_lt_of_cell? w _ hw404_3)).trans hw404_3), ((HB.out.cell (World.block_lt_of_cell? w _ hw405_0)).trans hw405_0), ((HB.out.cell (World.block_lt_of_cell? w _ hw405_1)).trans hw405_1), ((HB.out.cell (World.block_lt_of_cell? w _ hw405_2)).trans hw405_2), ((HB.out.cell (World.block_lt_of_cell? w _ hw405_3)).trans hw405_3)⟩ (fun hHeld => ?_)
          clear hK K
          refine norm_ (a' := ?_) ?_ ?_
          rotate_left
          ·show Act.put _ (some 45) _ = _
           simp only [Act.put, List.setIfInBounds_toArray, List.set_cons_zero, List.set_cons_succ, i64_w, i32_w]
           rfl
          refine pu 16 (some 5) (bl 17 131071) (h := ?_)
          refine done_ (done_of HT_.out (by kernel_rfl)) ?_
          have p412 : 0 ≤ (x6_1 : Int) := of_decide_eq_true (by first | (with_reducible assumption) | assumption)
          have q412 : x6_1 < (l1.length : Int) := of_decide_eq_true (by first | (with_reducible assumption) | assumption)
          obtain ⟨ad412, e412, hx412_0, hx412_1, hx412_2, hx412_3⟩ := at_T79 HR1.out x6_1 p412 q412
          obtain rfl : ad397 = ad412 := (by injection e412)
          replace hx412_0 := (HB.out.cell (World.block_lt_of_cell? w _ hx412_0)).trans hx412_0
          replace hx412_1 := (HB.out.cell (World.block_lt_of_cell? w _ hx412_1)).trans hx412_1
          replace hx412_2 := (HB.out.cell (World.block_lt_of_cell? w _ hx412_2)).trans hx412_2
          replace hx412_3 := (HB.out.cell (World.block_lt_of_cell? w _ hx412_3)).trans hx412_3
          replace p412 := eq_true p412
          (try (have q412s := q412; simp only [List.length_drop, List.length_take] at q412s; replace q412s := eq_true q412s)); replace q412 := eq_true q412
          try go_wp2_with (first | ((with_reducible refine gate_callee (f := 34) rfl ?_); refine goesL_ (some 53) rfl rfl Try.func34 (by kernel_rfl) rfl #[.int .u64 (IntKind.u64.wrap ((rd_T79 l1 x6_1).f2))] rfl km ?_; (with_reducible refine (gaiterref01_Uvar.calls k1 (IntKind.u64.wrap ((rd_T79 l1 x6_1).f2)) t413 _ A16.out).mono ?_); rintro e w27 ⟨v414, rfl, ho0, hb⟩; refine ⟨_, rfl, ?_⟩; have HO415 := Aside0.mk (Kd.R_lower (Kd.R_new' (Kd.R_new' (Kd.R_new' ho0 (Kd.R_lt (kr HO400))) (Kd.R_lt (kr HO408))) (Kd.R_lt (kr HO411))) (below_size (kl HB))); replace HO400 := Aside0.mk (Kd.R_elder' (kr HO400) (Kd.R_base ho0) hb); replace HO408 := Aside0.mk (Kd.R_elder' (kr HO408) (Kd.R_base ho0) hb); replace HO411 := Aside0.mk (Kd.R_elder' (kr HO411) (Kd.R_base ho0) hb); replace HB := kH HB hb; (try clear hb); (try clear hb2); (try clear hk); (try clear hi); (try clear ho0); obtain ⟨Ao29, co29, eo29⟩ := Kd.R_slice HO415.out; subst eo29) | ((with_reducible refine gate_builtin (b := .append) (xs := #[.tmp 46, .tmp 53]) rfl ?_); at_builtin; refine Kd.R_append_rows (Kd.int .u8) (w0 := w) w.heap.size rfl (.tmp 46) (.tmp 53) 54 5 (.int .u8 0) 1 rfl Try.underlying54 info5 rfl (by decide) (by omega) v410 y409 t413 _ _ _ (fun k_ => some k_ ≠ (.slice Ao22 t398.length co22 : Value).ownBlock ∧ some k_ ≠ (.slice Ao26 t406.length co26 : Value).ownBlock ∧ some k_ ≠ (.slice Ao29 t413.length co29 : Value).ownBlock) (fun _ => False) rfl rfl ?aO ?aR (fun _ _ h => h) (fun _ h => h.elim) ?aF ?aB ?aS ?aL ?_; (case aR => repeat (first | exact (Kd.R_reads' HO415.out).2.2 | (with_reducible refine Kd.C_alloc ?_ _) | (with_reducible refine Kd.C_drewN ?_ _) | (with_reducible refine Kd.C_drew ?_))); (case aB => exact (kl HB)); (case aF => exact (fun k_ hk => ⟨Kd.fresh' (Kd.R_lt (kr HO400)) k_ hk, Kd.fresh' (Kd.R_lt (kr HO408)) k_ hk, Kd.fresh' (Kd.R_lt (kr HO415)) k_ hk⟩)); (case aO => exact (by (with_reducible repeat (first | apply Kd.R_alloc | apply Kd.R_drewN | apply Kd.R_drew)); exact Kd.R_mono HO411.out (fun _ hk => ⟨hk.1.1, ⟨hk.1.2, hk.2⟩⟩))); (case aS => exact (below_size (kl HB))); (case aL => have := LMc17.out; omega); intro v417 w28 ho hb hg hat; rw [← Ny416.out] at ho; have n0_ := Aside0.mk (Kd.R_after (ok := (fun k_ => some k_ ≠ (.slice Ao26 t406.length co26 : Value).ownBlock ∧ some k_ ≠ (.slice Ao29 t413.length co29 : Value).ownBlock)) (by (with_reducible repeat (first | apply Kd.R_alloc | apply Kd.R_drewN | apply Kd.R_drew)); exact Kd.R_mono HO400.out (fun _ hk => ⟨⟨hk.1.1, hk.2⟩, hk.1.2⟩)) hg hat); have n1_ := Aside0.mk (Kd.R_after (ok := (fun k_ => some k_ ≠ (.slice Ao22 t398.length co22 : Value).ownBlock ∧ some k_ ≠ (.slice Ao29 t413.length co29 : Value).ownBlock)) (by (with_reducible repeat (first | apply Kd.R_alloc | apply Kd.R_drewN | apply Kd.R_drew)); exact Kd.R_mono HO408.out (fun _ hk => ⟨⟨hk.1.1, hk.2⟩, hk.1.2⟩)) hg hat); have n2_ := Aside0.mk (Kd.R_after (ok := (fun k_ => some k_ ≠ (.slice Ao22 t398.length co22 : Value).ownBlock ∧ some k_ ≠ (.slice Ao26 t406.length co26 : Value).ownBlock)) (by (with_reducible repeat (first | apply Kd.R_alloc | apply Kd.R_drewN | apply Kd.R_drew)); exact Kd.R_mono HO415.out (fun _ hk => ⟨⟨hk.1.1.2, hk.1.2⟩, hk.2⟩)) hg hat); have n3_ := Aside0.mk (hb); have n4_ := Aside0.mk (ho); clear HO400; clear HO408; clear HO415; clear HB; clear HO411; have HO400 := n0_; have HO408 := n1_; have HO415 := n2_; have HB := n3_; have HO418 := n4_; clear n0_ n1_ n2_ n3_ n4_; clear ho hb hg hat; have p419 : 0 ≤ (x6_1 : Int) := of_decide_eq_true (by first | (with_reducible assumption) | assumption); have q419 : x6_1 < (l1.length : Int) := of_decide_eq_true (by first | (with_reducible assumption) | assumption); obtain ⟨ad419, e419, hx419_0, hx419_1, hx419_2, hx419_3⟩ := at_T79 HR1.out x6_1 p419 q419; obtain rfl : ad397 = ad419 := (by injection e419); replace hx419_0 := (HB.out.cell (World.block_lt_of_cell? w _ hx419_0)).trans hx419_0; replace hx419_1 := (HB.out.cell (World.block_lt_of_cell? w _ hx419_1)).trans hx419_1; replace hx419_2 := (HB.out.cell (World.block_lt_of_cell? w _ hx419_2)).trans hx419_2; replace hx419_3 := (HB.out.cell (World.block_lt_of_cell? w _ hx419_3)).trans hx419_3; replace p419 := eq_true p419; (try (have q419s := q419; simp only [List.length_drop, List.length_take] at q419s; replace q419s := eq_true q419s)); replace q419 := eq_true q419) | ((with_reducible refine gate_callee (f := 34) rfl ?_); refine goesL_ (some 62) rfl rfl Try.func34 (by kernel_rfl) rfl #[.int .u64 (IntKind.u64.wrap ((rd_T79 l1 x6_1).f3))] rfl km ?_; (with_reducible refine (gaiterref01_Uvar.calls k1 (IntKind.u64.wrap ((rd_T79 l1 x6_1).f3)) t420 _ A18.out).mono ?_); rintro e w30 ⟨v421, rfl, ho0, hb⟩; refine ⟨_, rfl, ?_⟩; have HO422 := Aside0.mk (Kd.R_lower (Kd.R_new' (Kd.R_new' (Kd.R_new' (Kd.R_new' ho0 (Kd.R_lt (kr HO400))) (Kd.R_lt (kr HO408))) (Kd.R_lt (kr HO415))) (Kd.R_lt (kr HO418))) (below_size (kl HB))); replace HO400 := Aside0.mk (Kd.R_elder' (kr HO400) (Kd.R_base ho0) hb); replace HO408 := Aside0.mk (Kd.R_elder' (kr HO408) (Kd.R_base ho0) hb); replace HO415 := Aside0.mk (Kd.R_elder' (kr HO415) (Kd.R_base ho0) hb); replace HO418 := Aside0.mk (Kd.R_elder' (kr HO418) (Kd.R_base ho0) hb); replace HB := kH HB hb; (try clear hb); (try clear hb2); (try clear hk); (try clear hi); (try clear ho0); obtain ⟨Ao32, co32, eo32⟩ := Kd.R_slice HO422.out; subst eo32) | ((with_reducible refine gate_builtin (b := .append) (xs := #[.tmp 55, .tmp 62]) rfl ?_); at_builtin; refine Kd.R_append_rows (Kd.int .u8) (w0 := w) w.heap.size rfl (.tmp 55) (.tmp 62) 54 5 (.int .u8 0) 1 rfl Try.underlying54 info5 rfl (by decide) (by omega) v417 y416 t420 _ _ _ (fun k_ => some k_ ≠ (.slice Ao22 t398.length co22 : Value).ownBlock ∧ some k_ ≠ (.slice Ao26 t406.length co26 : Value).ownBlock ∧ some k_ ≠ (.slice Ao29 t413.length co29 : Value).ownBlock ∧ some k_ ≠ (.slice Ao32 t420.length co32 : Value).ownBlock) (fun _ => False) rfl rfl ?aO ?aR (fun _ _ h => h) (fun _ h => h.elim) ?aF ?aB ?aS ?aL ?_; (case aR => repeat (first | exact (Kd.R_reads' HO422.out).2.2 | (with_reducible refine Kd.C_alloc ?_ _) | (with_reducible refine Kd.C_drewN ?_ _) | (with_reducible refine Kd.C_drew ?_))); (case aB => exact (kl HB)); (case aF => exact (fun k_ hk => ⟨Kd.fresh' (Kd.R_lt (kr HO400)) k_ hk, Kd.fresh' (Kd.R_lt (kr HO408)) k_ hk, Kd.fresh' (Kd.R_lt (kr HO415)) k_ hk, Kd.fresh' (Kd.R_lt (kr HO422)) k_ hk⟩)); (case aO => exact (by (with_reducible repeat (first | apply Kd.R_alloc | apply Kd.R_drewN | apply Kd.R_drew)); exact Kd.R_mono HO418.out (fun _ hk => ⟨hk.1.1, ⟨hk.1.2.1, ⟨hk.1.2.2, hk.2⟩⟩⟩))); (case aS => exact (below_size (kl HB))); (case aL => have := LMc19.out; omega); intro v424 w31 ho hb hg hat; rw [← Ny423.out] at ho; have n0_ := Aside0.mk (Kd.R_after (ok := (fun k_ => some k_ ≠ (.slice Ao26 t406.length co26 : Value).ownBlock ∧ some k_ ≠ (.slice Ao29 t413.length co29 : Value).ownBlock ∧ some k_ ≠ (.slice Ao32 t420.length co32 : Value).ownBlock)) (by (with_reducible repeat (first | apply Kd.R_alloc | apply Kd.R_drewN | apply Kd.R_drew)); exact Kd.R_mono HO400.out (fun _ hk => ⟨⟨hk.1.1.1, ⟨hk.1.1.2, hk.2⟩⟩, hk.1.2⟩)) hg hat); have n1_ := Aside0.mk (Kd.R_after (ok := (fun k_ => some k_ ≠ (.slice Ao22 t398.length co22 : Value).ownBlock ∧ some k_ ≠ (.slice Ao29 t413.length co29 : Value).ownBlock ∧ some k_ ≠ (.slice Ao32 t420.length co32 : Value).ownBlock)) (by (with_reducible repeat (first | apply Kd.R_alloc | apply Kd.R_drewN | apply Kd.R_drew)); exact Kd.R_mono HO408.out (fun _ hk => ⟨⟨hk.1.1.1, ⟨hk.1.1.2, hk.2⟩⟩, hk.1.2⟩)) hg hat); have n2_ := Aside0.mk (Kd.R_after (ok := (fun k_ => some k_ ≠ (.slice Ao22 t398.length co22 : Value).ownBlock ∧ some k_ ≠ (.slice Ao26 t406.length co26 : Value).ownBlock ∧ some k_ ≠ (.slice Ao32 t420.length co32 : Value).ownBlock)) (by (with_reducible repeat (first | apply Kd.R_alloc | apply Kd.R_drewN | apply Kd.R_drew)); exact Kd.R_mono HO415.out (fun _ hk => ⟨⟨hk.1.1.1, ⟨hk.1.1.2, hk.2⟩⟩, hk.1.2⟩)) hg hat); have n3_ := Aside0.mk (Kd.R_after (ok := (fun k_ => some k_ ≠ (.slice Ao22 t398.length co22 : Value).ownBlock ∧ some k_ ≠ (.slice Ao26 t406.length co26 : Value).ownBlock ∧ some k_ ≠ (.slice Ao29 t413.length co29 : Value).ownBlock)) (by (with_reducible repeat (first | apply Kd.R_alloc | apply Kd.R_drewN | apply Kd.R_drew)); exact Kd.R_mono HO422.out (fun _ hk => ⟨⟨hk.1.1.1.2, ⟨hk.1.1.2, hk.1.2⟩⟩, hk.2⟩)) hg hat); have n4_ := Aside0.mk (hb); have n5_ := Aside0.mk (ho); clear HO400; clear HO408; clear HO415; clear HO422; clear HB; clear HO418; have HO400 := n0_; have HO408 := n1_; have HO415 := n2_; have HO422 := n3_; have HB := n4_; have HO425 := n5_; clear n0_ n1_ n2_ n3_ n4_ n5_; clear ho hb hg hat))
          go_roundg k1
          case measure => have := HK1.out; omega
          case rel => exact ⟨(y423), (wrap64 (x6_1 + 1)), (by first | rfl | (simp; done) | (simp [*]; done)), H', ⟨by have := HK1.out; omega⟩, ⟨by (with_reducible repeat (first | apply Kd.R_alloc | apply Kd.R_drewN | apply Kd.R_drew)); exact Kd.R_mono HO425.out (fun _ hk => trivial)⟩, ⟨(kl HB)⟩⟩
         ·rw [if_neg c19] at H
          exact absurd H (by simp)
        ·rw [if_neg c17] at H
         exact absurd H (by simp)
       ·rw [if_neg c15] at H
        exact absurd H (by simp)
      ·rw [if_neg c13] at H
       exact absurd H (by simp)
     ·rw [if_neg c11] at H
      exact absurd H (by simp)
    ·rw [if_neg c10] at H
     have c10b0 : decide (x6_1 < (l1.length : Int)) = false := decide_eq_false c10
     clear c10
     replace H := Option.bind_eq_some_iff.mp H
     obtain ⟨t390, A330, H⟩ := H
     replace H : ((gaiterref09_big.f k1 (IntKind.u64.wrap (t390)) 4).bind fun t391 => (if x5_1.length + t391.length < 140737488355328 then (some (x5_1 ++ t391)) else (none))) = some r := H
     have A33 := Aside0.mk A330
     clear A330
     replace H := Option.bind_eq_some_iff.mp H
     obtain ⟨t391, A340, H⟩ := H
     replace H : (if x5_1.length + t391.length < 140737488355328 then (some (x5_1 ++ t391)) else (none)) = some r := H
     have A34 := Aside0.mk A340
     clear A340
     by_cases c35 : x5_1.length + t391.length < 140737488355328
     ·rw [if_pos c35] at H
      have LMc35 := Aside0.mk c35
      clear c35
      obtain ⟨y394, hy394⟩ : ∃ y_ : List Int, y_ = (x5_1 ++ t391) := ⟨_, rfl⟩
      replace H : (some y394) = some r := by first | (rw [hy394]; with_reducible exact H) | (have H2_ := (Option.bind_some _ _).symm.trans H; rw [hy394]; with_reducible exact H2_) | (have H2_ := (Option.bind_some _ _).symm.trans H; with_reducible exact H2_) | with_reducible exact H | (rw [hy394]; exact H) | exact H
      have Ny394 := Aside0.mk hy394
      clear hy394
      obtain rfl := Option.some.inj H
      obtain ⟨Ao36, co36, eo36⟩ := Kd.R_slice HO_5.out
      subst eo36
      go_wp2_with (first | ((with_reducible refine gate_callee (f := 26) rfl ?_); refine goesL_ (some 66) rfl rfl Try.func26 (by kernel_rfl) rfl #[.slice Ao36 x5_1.length co36] rfl km ?_; (with_reducible refine (gaiterref09_Sum.calls k1 _ _ x5_1 t390 _ ?side1 ?side2 A33.out).mono ?_); (case side1 => repeat (first | exact (Kd.R_reads' HO_5.out).2.2 | (with_reducible refine Kd.C_alloc ?_ _) | (with_reducible refine Kd.C_drewN ?_ _) | (with_reducible refine Kd.C_drew ?_))); (case side2 => exact (Kd.R_reads' HO_5.out).2.1); rintro e w' ⟨rfl, ⟨nd, rfl⟩⟩; refine ⟨_, rfl, ?_⟩) | ((with_reducible refine gate_callee (f := 35) rfl ?_); refine goesL_ (some 68) rfl rfl Try.func35 (by kernel_rfl) rfl #[.int .u64 (IntKind.u64.wrap (t390)), .int .i64 4] rfl km ?_; (with_reducible refine (gaiterref09_big.calls k1 (IntKind.u64.wrap (t390)) 4 t391 _ A34.out).mono ?_); rintro e w37 ⟨v392, rfl, ho0, hb⟩; refine ⟨_, rfl, ?_⟩; have HO393 := Aside0.mk (Kd.R_lower (Kd.R_new' ho0 (Kd.R_lt (kr HO_5))) (below_size (kl HB))); replace HO_5 := Aside0.mk (Kd.R_elder' (kr HO_5) (Kd.R_base ho0) hb); replace HB := kH HB hb; (try clear hb); (try clear hb2); (try clear hk); (try clear hi); (try clear ho0); obtain ⟨Ao39, co39, eo39⟩ := Kd.R_slice HO393.out; subst eo39) | ((with_reducible refine gate_builtin (b := .append) (xs := #[.tmp 64, .tmp 68]) rfl ?_); at_builtin; refine Kd.R_append_rows (Kd.int .u8) (w0 := w) w.heap.size rfl (.tmp 64) (.tmp 68) 54 5 (.int .u8 0) 1 rfl Try.underlying54 info5 rfl (by decide) (by omega) (.slice Ao36 x5_1.length co36) x5_1 t391 _ _ _ (fun k_ => some k_ ≠ (.slice Ao39 t391.length co39 : Value).ownBlock) (fun _ => False) rfl rfl ?aO ?aR (fun _ _ h => h) (fun _ h => h.elim) ?aF ?aB ?aS ?aL ?_; (case aR => repeat (first | exact (Kd.R_reads' HO393.out).2.2 | (with_reducible refine Kd.C_alloc ?_ _) | (with_reducible refine Kd.C_drewN ?_ _) | (with_reducible refine Kd.C_drew ?_))); (case aB => exact (kl HB)); (case aF => exact (fun k_ hk => Kd.fresh' (Kd.R_lt (kr HO393)) k_ hk)); (case aO => exact (by (with_reducible repeat (first | apply Kd.R_alloc | apply Kd.R_drewN | apply Kd.R_drew)); exact Kd.R_mono HO_5.out (fun _ hk => hk.2))); (case aS => exact (below_size (kl HB))); (case aL => have := LMc35.out; omega); intro v395 w38 ho hb hg hat; rw [← Ny394.out] at ho; have n0_ := Aside0.mk (Kd.R_after (ok := (fun _ => True)) (kr HO393) hg hat); have n1_ := Aside0.mk (hb); have n2_ := Aside0.mk (ho); clear HO393; clear HB; clear HO_5; have HO393 := n0_; have HB := n1_; have HO396 := n2_; clear n0_ n1_ n2_; clear ho hb hg hat))
      go_ret
      exact ⟨_, by first | rfl | (simp [errW_none, errW_some] <;> rfl) | (simp [*, errW_none, errW_some] <;> rfl), by (with_reducible repeat (first | apply Kd.R_alloc | apply Kd.R_drewN | apply Kd.R_drew)); exact Kd.R_mono HO396.out (fun _ hk => trivial), (kl HB)⟩
     ·rw [if_neg c35] at H
      exact absurd H (by simp)
 ·rw [if_neg c4] at H
  exact absurd H (by simp)

end Go.Proofs.Ytiahbcaoikoogaa.All
