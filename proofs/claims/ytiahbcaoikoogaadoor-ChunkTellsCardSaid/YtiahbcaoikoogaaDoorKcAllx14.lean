-- declarations that this claim needs, copied by a program of the session
import Derived.Test.YtiahbcaoikoogaaDoorKcAllx52
section
namespace Go.Proofs.YtiahbcaoikoogaaDoor.All
open Go.RowKit Go.Proofs.YtiahbcaoikoogaaDoorW.PrintWords Go.Proofs.YtiahbcaoikoogaaDoorW.PrintLast Go.Proofs.YtiahbcaoikoogaaDoorW.PrintMore
attribute [local go_sem] max2_int min2_int max_two min_two max_three min_three max_four min_four   
set_option linter.unusedVariables false
set_option linter.unusedSimpArgs false
def gaiterlaw09_up.f (k : Nat)  : Option (Bool) := (chunk_Encode.f k 2 (([(⟨1, 258⟩ : S59)] : List (S59)))).bind fun bt1309 => ((chunk_Encode.f k 1 ([] : List (S59))).bind fun bt1313 => (if bt1309.2.isNone = true then (if (bt1309.1.length : Int) = 16 then (if 7 < (bt1309.1.length : Int) then (if (rd bt1309.1 7) = 1 then (if 14 < (bt1309.1.length : Int) then (if (rd bt1309.1 14) = 1 then ((gaiterlaw00_Code.f bt1313.2).bind fun t1320 => (some (t1320 == 1))) else (none)) else (none)) else (none)) else (none)) else (none)) else (none)))
theorem gaiterlaw09_up.mono : ∀ k, LeO (gaiterlaw09_up.f k ) (gaiterlaw09_up.f (k + 1) ) := by
 intro  k
 unfold gaiterlaw09_up.f
 repeat' first
   | (with_reducible exact chunk_Encode.mono _ _ _)
   | (with_reducible exact LeO.refl _)
   | (with_reducible exact LeO.none _)
   | (with_reducible refine LeO.ite ?_ ?_)
   | (with_reducible refine LeO.bind ?_ (fun _ => ?_))
   | exact chunk_Encode.mono _ _ _
   | exact LeO.none _
   | refine LeO.ite ?_ ?_
   | refine LeO.bind ?_ (fun _ => ?_)
set_option maxHeartbeats 8000000 in
set_option maxRecDepth 100000 in
theorem gaiterlaw09_up.calls (k : Nat)  (r : Bool) (w : World) (hT : TabOk w) (h : gaiterlaw09_up.f k  = some r) :
  Calls Tryd.prog 37 #[] w fun e w' => e = .returned (.bool r) ∧ Below w.heap.size w w' := by
 have hu59 := Tryd.underlying59; have hu37 := Tryd.underlying37; have hu95 := Tryd.underlying95; have HT := Aside0.mk hT; clear hT; have HB := Aside0.mk (Below.refl w.heap.size w); have H : ((chunk_Encode.f k 2 (([(⟨1, 258⟩ : S59)] : List (S59)))).bind fun bt1309 => ((chunk_Encode.f k 1 ([] : List (S59))).bind fun bt1313 => (if bt1309.2.isNone = true then (if (bt1309.1.length : Int) = 16 then (if 7 < (bt1309.1.length : Int) then (if (rd bt1309.1 7) = 1 then (if 14 < (bt1309.1.length : Int) then (if (rd bt1309.1 14) = 1 then ((gaiterlaw00_Code.f bt1313.2).bind fun t1320 => (some (t1320 == 1))) else (none)) else (none)) else (none)) else (none)) else (none)) else (none)))) = some r := h; clear h; obtain ⟨y1306, hy1306⟩ : ∃ y_ : List (S59), y_ = (([(⟨1, 258⟩ : S59)] : List (S59))) := ⟨_, rfl⟩
 replace H : ((chunk_Encode.f k 2 y1306).bind fun bt1309 => ((chunk_Encode.f k 1 ([] : List (S59))).bind fun bt1313 => (if bt1309.2.isNone = true then (if (bt1309.1.length : Int) = 16 then (if 7 < (bt1309.1.length : Int) then (if (rd bt1309.1 7) = 1 then (if 14 < (bt1309.1.length : Int) then (if (rd bt1309.1 14) = 1 then ((gaiterlaw00_Code.f bt1313.2).bind fun t1320 => (some (t1320 == 1))) else (none)) else (none)) else (none)) else (none)) else (none)) else (none)))) = some r := by first | (rw [hy1306]; with_reducible exact H) | (have H2_ := (Option.bind_some _ _).symm.trans H; rw [hy1306]; with_reducible exact H2_) | (have H2_ := (Option.bind_some _ _).symm.trans H; with_reducible exact H2_) | with_reducible exact H | (rw [hy1306]; exact H) | exact H
 have Ny1306 := Aside0.mk hy1306; clear hy1306; replace H := Option.bind_eq_some_iff.mp H; obtain ⟨⟨t1309, t1310⟩, A10, H⟩ := H; replace H : ((chunk_Encode.f k 1 ([] : List (S59))).bind fun bt1313 => (if t1310.isNone = true then (if (t1309.length : Int) = 16 then (if 7 < (t1309.length : Int) then (if (rd t1309 7) = 1 then (if 14 < (t1309.length : Int) then (if (rd t1309 14) = 1 then ((gaiterlaw00_Code.f bt1313.2).bind fun t1320 => (some (t1320 == 1))) else (none)) else (none)) else (none)) else (none)) else (none)) else (none))) = some r := H; have A1 := Aside0.mk A10; clear A10; replace H := Option.bind_eq_some_iff.mp H; obtain ⟨⟨t1313, t1314⟩, A20, H⟩ := H; replace H : (if t1310.isNone = true then (if (t1309.length : Int) = 16 then (if 7 < (t1309.length : Int) then (if (rd t1309 7) = 1 then (if 14 < (t1309.length : Int) then (if (rd t1309 14) = 1 then ((gaiterlaw00_Code.f t1314).bind fun t1320 => (some (t1320 == 1))) else (none)) else (none)) else (none)) else (none)) else (none)) else (none)) = some r := H; have A2 := Aside0.mk A20; clear A20
 rcases t1310 with _ | q1317
 ·have H1 : (if (t1309.length : Int) = 16 then (if 7 < (t1309.length : Int) then (if (rd t1309 7) = 1 then (if 14 < (t1309.length : Int) then (if (rd t1309 14) = 1 then ((gaiterlaw00_Code.f t1314).bind fun t1320 => (some (t1320 == 1))) else (none)) else (none)) else (none)) else (none)) else (none)) = some r := by rw [if_pos (show (none : Option Int).isNone = true by rfl)] at H; exact H
  clear H; have H := H1; clear H1
  try simp only [errW_none, errW_some]
  by_cases c3 : (t1309.length : Int) = 16
  ·rw [if_pos c3] at H; have c3b0 : ((t1309.length : Int) == 16) = true := beq_iff_eq.mpr c3; have c3b1 : ((t1309.length : Int) != 16) = false := bne_eq_false_iff_eq.mpr c3; clear c3
   by_cases c4 : 7 < (t1309.length : Int)
   ·rw [if_pos c4] at H; have c4b0 : decide (7 < (t1309.length : Int)) = true := decide_eq_true c4; have c4b1 : decide (7 < t1309.length) = true := decide_eq_true (by omega); clear c4
    by_cases c5 : (rd t1309 7) = 1
    ·rw [if_pos c5] at H; have c5b0 : ((rd t1309 7) == 1) = true := beq_iff_eq.mpr c5; have c5b1 : ((rd t1309 7) != 1) = false := bne_eq_false_iff_eq.mpr c5; clear c5
     by_cases c6 : 14 < (t1309.length : Int)
     ·rw [if_pos c6] at H; have c6b0 : decide (14 < (t1309.length : Int)) = true := decide_eq_true c6; have c6b1 : decide (14 < t1309.length) = true := decide_eq_true (by omega); clear c6
      by_cases c7 : (rd t1309 14) = 1
      ·rw [if_pos c7] at H; have c7b0 : ((rd t1309 14) == 1) = true := beq_iff_eq.mpr c7; have c7b1 : ((rd t1309 14) != 1) = false := bne_eq_false_iff_eq.mpr c7; clear c7; replace H := Option.bind_eq_some_iff.mp H; obtain ⟨t1320, A80, H⟩ := H; replace H : (some (t1320 == 1)) = some r := H; have A8 := Aside0.mk A80; clear A80; obtain rfl := Option.some.inj H
       go_enter Tryd.func37, Tryd.ntmps37
       go_wp2_with (first | ((with_reducible refine gate_dst (N := 7) rfl ?_); (try (refine gate_guard (by rfl) ?_; dsimp only)); refine Kd.R_lit k59 _ 59 ?hg (N := 7) ?hd (xs := ([(⟨1, 258⟩ : S59)] : List (S59))) (inner := [.int .i64 1, .int .u64 258]) (ok := fun _ => True) (okp := fun _ => True) ?hr ?hp (fun _ hk => hk) trivial (Below.refl _ _) (Nat.le_refl _) (by simp) ?_; (case hd => rfl); (case hg => rfl); (case hr => first | (go_simp; done) | (go_simp; rfl)); (case hp => exact (Reps.c2 (show Kd.M k59 _ _ _ (⟨1, 258⟩ : S59) [.int .i64 1, .int .u64 258] from (k59_mkM _ _ _ (⟨1, 258⟩ : S59) )) (Reps.none _ _))); intro v1307 w9 ho10 hb hg_ hnew_; clear hg_ hnew_; (first | rw [← Ny1306.out] at ho10 | (simp only [Int.reduceToNat] at ho10; rw [← Ny1306.out] at ho10)); have HO1308 := Aside0.mk (Kd.R_lower ho10 (below_size (kl HB))); replace HB := kH HB hb; clear hb ho10; obtain ⟨Ao11, co11, eo11⟩ := Kd.R_slice HO1308.out; subst eo11) | ((with_reducible refine gate_callee (f := 38) rfl ?_); refine goesL_ (some 8) rfl rfl Tryd.func38 (by kernel_rfl) rfl #[.int .i64 2, .slice Ao11 y1306.length co11] rfl km ?_; (with_reducible refine (chunk_Encode.calls k 2 _ _ y1306 t1309 none _ ?side1 ?side2 ?side3 A1.out).mono ?_); (case side1 => exact TabOk.below HT.out (kl HB) (Nat.le_refl _)); (case side2 => repeat (first | exact (Kd.R_reads' HO1308.out).2.2 | (with_reducible refine Kd.C_alloc ?_ _) | (with_reducible refine Kd.C_drewN ?_ _) | (with_reducible refine Kd.C_drew ?_))); (case side3 => exact (Kd.R_reads' HO1308.out).2.1); rintro e w12 ⟨v1311, rfl, ho0, hb⟩; refine ⟨_, rfl, ?_⟩; replace HO1308 := Aside0.mk (Kd.R_below (kr HO1308) hb); have HO1312 := Aside0.mk (Kd.R_lower ho0 (below_size (kl HB))); replace HB := kH HB hb; (try clear hb); (try clear hb2); (try clear hk); (try clear hi); (try clear hgw); (try clear ho0); (try simp only [errW_none, errW_some])) | ((with_reducible refine gate_callee (f := 38) rfl ?_); refine goesL_ (some 12) rfl rfl Tryd.func38 (by kernel_rfl) rfl #[.int .i64 1, .slice none 0 0] rfl km ?_; (refine (chunk_Encode.calls k 1 _ _ ([] : List (S59)) t1313 t1314 _ ?side1 ?side2 ?side3 A2.out).mono ?_); (case side1 => exact TabOk.below HT.out (kl HB) (Nat.le_refl _)); (case side2 => exact Kd.C_nil _ _); (case side3 => exact Nat.le_refl _); rintro e w13 ⟨v1315, rfl, ho0, hb⟩; refine ⟨_, rfl, ?_⟩; replace HO1308 := Aside0.mk (Kd.R_below (kr HO1308) hb); have HO1316 := Aside0.mk (Kd.R_lower (Kd.R_new' ho0 (Kd.R_lt (kr HO1312))) (below_size (kl HB))); replace HO1312 := Aside0.mk (Kd.R_elder' (kr HO1312) (Kd.R_base ho0) hb); replace HB := kH HB hb; (try clear hb); (try clear hb2); (try clear hk); (try clear hi); (try clear hgw); (try clear ho0); (try simp only [errW_none, errW_some]); obtain ⟨Ao14, co14, eo14⟩ := Kd.R_slice HO1312.out; subst eo14; have p1318 : 0 ≤ (7 : Int) := (by omega); have q1318 : 7 < (t1309.length : Int) := of_decide_eq_true (by first | (with_reducible assumption) | assumption); obtain ⟨ad1318, e1318, hx1318_0⟩ := Kd.at_int (Kd.R_reads' HO1312.out).2.2 7 p1318 q1318; cases e1318; (try simp only [show (7 : Int).toNat = 7 from rfl, Nat.reduceMul, Nat.reduceEqDiff, Go.Addr.add, ↓reduceIte] at hx1318_0); have qi1318 : (7 < t1309.length) = True := eq_true (by omega); (try rw [show ((7 : Int)).toNat = 7 from rfl] at hx1318_0); replace p1318 := eq_true p1318; (try (have q1318s := q1318; simp only [List.length_drop, List.length_take] at q1318s; replace q1318s := eq_true q1318s)); replace q1318 := eq_true q1318; have p1319 : 0 ≤ (14 : Int) := (by omega); have q1319 : 14 < (t1309.length : Int) := of_decide_eq_true (by first | (with_reducible assumption) | assumption); obtain ⟨ad1319, e1319, hx1319_0⟩ := Kd.at_int (Kd.R_reads' HO1312.out).2.2 14 p1319 q1319; obtain rfl : ad1318 = ad1319 := (by injection e1319); (try simp only [show (14 : Int).toNat = 14 from rfl, Nat.reduceMul, Nat.reduceEqDiff, Go.Addr.add, ↓reduceIte] at hx1319_0); have qi1319 : (14 < t1309.length) = True := eq_true (by omega); (try rw [show ((14 : Int)).toNat = 14 from rfl] at hx1319_0); replace p1319 := eq_true p1319; (try (have q1319s := q1319; simp only [List.length_drop, List.length_take] at q1319s; replace q1319s := eq_true q1319s)); replace q1319 := eq_true q1319; have CA8 := fun W => gaiterlaw00_Code.calls t1314 t1320 W A8.out; try simp only [errW_none, errW_some] at CA8) | (go_at_call 20; (with_reducible refine (CA8 _).mono ?_); rintro e w' ⟨rfl, ⟨nd, rfl⟩⟩))
       go_ret
       exact ⟨by first | rfl | (simp [errW_none, errW_some] <;> rfl) | (simp [*, errW_none, errW_some] <;> rfl), (kl HB)⟩
      ·rw [if_neg c7] at H
       exact absurd H (by simp)
     ·rw [if_neg c6] at H
      exact absurd H (by simp)
    ·rw [if_neg c5] at H
     exact absurd H (by simp)
   ·rw [if_neg c4] at H
    exact absurd H (by simp)
  ·rw [if_neg c3] at H
   exact absurd H (by simp)
 ·have H1 : (none) = some r := by rw [if_neg (show ¬ (some q1317).isNone = true by simp)] at H; exact H
  clear H; have H := H1; clear H1
  try simp only [errW_none, errW_some]
  exact absurd H (by simp)
end Go.Proofs.YtiahbcaoikoogaaDoor.All
end
section
namespace Go.Proofs.YtiahbcaoikoogaaDoor.All
open Go.RowKit Go.Proofs.YtiahbcaoikoogaaDoorW.PrintWords Go.Proofs.YtiahbcaoikoogaaDoorW.PrintLast Go.Proofs.YtiahbcaoikoogaaDoorW.PrintMore
attribute [local go_sem] max2_int min2_int max_two min_two max_three min_three max_four min_four   
set_option linter.unusedVariables false
set_option linter.unusedSimpArgs false
mutual
def gaiterref01_Bytes.l0 : Nat → List Int → List Int → Int → Option (List Int)
 | 0, _, _, _ => none
 | k + 1, x0, x3, x4 => if x4 < (x0.length : Int) then (if (Int.tmod x4 8) = 0 then (if x3.length < 140737488355328 then (gaiterref01_Bytes.j1 k x0 (x3 ++ [0]) x4) else (none)) else (gaiterref01_Bytes.j1 k x0 x3 x4)) else (some x3)
def gaiterref01_Bytes.j1 : Nat → List Int → List Int → Int → Option (List Int)
 | 0, _, _, _ => none
 | k + 1, x0, x3, x4 => if 0 ≤ x4 then (if x4 < (x0.length : Int) then (if (rd x0 x4) = 1 then (gaiterref01_Bytes.l1 k x0 x3 x4 128 0) else (gaiterref01_Bytes.l0 k x0 x3 (wrap64 (x4 + 1)))) else (none)) else (none)
def gaiterref01_Bytes.l1 : Nat → List Int → List Int → Int → Int → Int → Option (List Int)
 | 0, _, _, _, _, _ => none
 | k + 1, x0, x3, x4, x5, x6 => if x6 < (Int.tmod x4 8) then (gaiterref01_Bytes.l1 k x0 x3 x4 ((Int.tdiv x5 2) % 256) (wrap64 (x6 + 1))) else (if 0 ≤ (wrap64 ((x3.length : Int) - 1)) then (if (wrap64 ((x3.length : Int) - 1)) < (x3.length : Int) then (gaiterref01_Bytes.l0 k x0 (x3.set ((wrap64 ((x3.length : Int) - 1)) : Int).toNat (((rd x3 (wrap64 ((x3.length : Int) - 1))) + x5) % 256)) (wrap64 (x4 + 1))) else (none)) else (none))
end
def gaiterref01_Bytes.f (k : Nat) (l0 : List Int) : Option (List Int) := gaiterref01_Bytes.l0 k l0 ([] : List Int) 0
theorem gaiterref01_Bytes.mono_l : ∀ k, (∀ y0 y1 y2, LeO (gaiterref01_Bytes.l0 k y0 y1 y2) (gaiterref01_Bytes.l0 (k + 1) y0 y1 y2)) ∧ (∀ y0 y1 y2, LeO (gaiterref01_Bytes.j1 k y0 y1 y2) (gaiterref01_Bytes.j1 (k + 1) y0 y1 y2)) ∧ (∀ y0 y1 y2 y3 y4, LeO (gaiterref01_Bytes.l1 k y0 y1 y2 y3 y4) (gaiterref01_Bytes.l1 (k + 1) y0 y1 y2 y3 y4))
 | 0 => ⟨fun _ _ _ r h => by simp [gaiterref01_Bytes.l0] at h, fun _ _ _ r h => by simp [gaiterref01_Bytes.j1] at h, fun _ _ _ _ _ r h => by simp [gaiterref01_Bytes.l1] at h⟩
 | k + 1 => by
  obtain ⟨ih0, ih1, ih2⟩ := gaiterref01_Bytes.mono_l k
  refine ⟨?_, ?_, ?_⟩
  ·intro y0 y1 y2
   unfold gaiterref01_Bytes.l0
   repeat' first
   | (with_reducible exact ih0 _ _ _)
   | (with_reducible exact ih1 _ _ _)
   | (with_reducible exact ih2 _ _ _ _ _)
   | (with_reducible exact LeO.refl _)
   | (with_reducible exact LeO.none _)
   | (with_reducible refine LeO.ite ?_ ?_)
   | (with_reducible refine LeO.bind ?_ (fun _ => ?_))
   | exact ih0 _ _ _
   | exact ih1 _ _ _
   | exact ih2 _ _ _ _ _
   | exact LeO.none _
   | refine LeO.ite ?_ ?_
   | refine LeO.bind ?_ (fun _ => ?_)
  ·intro y0 y1 y2
   unfold gaiterref01_Bytes.j1
   repeat' first
   | (with_reducible exact ih0 _ _ _)
   | (with_reducible exact ih1 _ _ _)
   | (with_reducible exact ih2 _ _ _ _ _)
   | (with_reducible exact LeO.refl _)
   | (with_reducible exact LeO.none _)
   | (with_reducible refine LeO.ite ?_ ?_)
   | (with_reducible refine LeO.bind ?_ (fun _ => ?_))
   | exact ih0 _ _ _
   | exact ih1 _ _ _
   | exact ih2 _ _ _ _ _
   | exact LeO.none _
   | refine LeO.ite ?_ ?_
   | refine LeO.bind ?_ (fun _ => ?_)
  ·intro y0 y1 y2 y3 y4
   unfold gaiterref01_Bytes.l1
   repeat' first
   | (with_reducible exact ih0 _ _ _)
   | (with_reducible exact ih1 _ _ _)
   | (with_reducible exact ih2 _ _ _ _ _)
   | (with_reducible exact LeO.refl _)
   | (with_reducible exact LeO.none _)
   | (with_reducible refine LeO.ite ?_ ?_)
   | (with_reducible refine LeO.bind ?_ (fun _ => ?_))
   | exact ih0 _ _ _
   | exact ih1 _ _ _
   | exact ih2 _ _ _ _ _
   | exact LeO.none _
   | refine LeO.ite ?_ ?_
   | refine LeO.bind ?_ (fun _ => ?_)
theorem gaiterref01_Bytes.mono : ∀ a0 k, LeO (gaiterref01_Bytes.f k a0) (gaiterref01_Bytes.f (k + 1) a0) := by
 intro a0 k
 obtain ⟨ih0, ih1, ih2⟩ := gaiterref01_Bytes.mono_l k
 unfold gaiterref01_Bytes.f
 repeat' first
   | (with_reducible exact ih0 _ _ _)
   | (with_reducible exact ih1 _ _ _)
   | (with_reducible exact ih2 _ _ _ _ _)
   | (with_reducible exact LeO.refl _)
   | (with_reducible exact LeO.none _)
   | (with_reducible refine LeO.ite ?_ ?_)
   | (with_reducible refine LeO.bind ?_ (fun _ => ?_))
   | exact ih0 _ _ _
   | exact ih1 _ _ _
   | exact ih2 _ _ _ _ _
   | exact LeO.none _
   | refine LeO.ite ?_ ?_
   | refine LeO.bind ?_ (fun _ => ?_)
set_option maxHeartbeats 8000000 in
set_option maxRecDepth 100000 in
theorem gaiterref01_Bytes.calls (k : Nat) (A0 : Option Addr) (c0 : Nat) (l0 : List Int) (r : List Int) (w : World) (hr0 : Kd.C (Kd.int .u8) w A0 l0.length l0) (hc0 : l0.length ≤ c0) (h : gaiterref01_Bytes.f k l0 = some r) :
  Calls Tryd.prog 51 #[.slice A0 l0.length c0] w fun e w' => ∃ v0_ : Value, e = .returned (v0_) ∧ Kd.R (Kd.int .u8) 5 w' w.heap.size (fun _ => True) v0_ r ∧ Below w.heap.size w w' := by
 have HR0 := Aside0.mk hr0; have HC0 := Aside0.mk hc0; clear hr0 hc0; have HB := Aside0.mk (Below.refl w.heap.size w); have H : (gaiterref01_Bytes.l0 k l0 ([] : List Int) 0) = some r := h; clear h; have H' := Aside0.mk H; clear H
 go_enter Tryd.func51, Tryd.ntmps51
 go_wp2
 go_loopg [3, 4] k (fun kq v3 v4 w' => ∃ (x3_1 : List Int) (x4_1 : Int), v4 = .int .i64 x4_1 ∧ Aside0 (gaiterref01_Bytes.l0 kq l0 x3_1 x4_1 = some r) ∧ Aside0 (kq ≤ k) ∧ Aside0 (Kd.R (Kd.int .u8) 5 w' w.heap.size (fun _ => True) v3 x3_1) ∧ Aside0 (Below w.heap.size w w'))
 case atStart => exact ⟨(([] : List Int)), (0), (by first | rfl | (simp; done) | (simp [*]; done)), H', ⟨Nat.le_refl _⟩, ⟨by first | exact Kd.R_nil _ _ _ _ _ | exact Kd.N_nil _ _ _ _ _ | exact Kd.V_nil _ _ _ _ _ | exact Kd.Q_nil _ _ _ _ _ | exact Kd.S_nil _ _ _ _ _⟩, ⟨(kl HB)⟩⟩
 case round =>
  clear H'; obtain ⟨x3_1, x4_1, rfl, HA, HK1, HO_3, HB⟩ := hrel
  cases gk with
  | zero => exact absurd HA.out (by simp [gaiterref01_Bytes.l0])
  | succ k1 =>
   have H := HA.out; clear HA; simp only [gaiterref01_Bytes.l0] at H
   by_cases c2 : x4_1 < (l0.length : Int)
   ·rw [if_pos c2] at H; have c2b0 : decide (x4_1 < (l0.length : Int)) = true := decide_eq_true c2; clear c2; have HC3 := Aside0.mk H; clear H
    go_upto_if 15 with (fail)
    go_cut [3] (fun v3 wc => ∃ (kq : Nat) (x3_2 : List Int), Aside0 (gaiterref01_Bytes.j1 kq l0 x3_2 x4_1 = some r) ∧ Aside0 (kq ≤ k1) ∧ Aside0 (Kd.R (Kd.int .u8) 5 wc w.heap.size (fun _ => True) v3 x3_2) ∧ Aside0 (Below w.heap.size w wc))
    case first =>
     have H := HC3.out; clear HC3
     by_cases c4 : (Int.tmod x4_1 8) = 0
     ·rw [if_pos c4] at H; have c4b0 : ((Int.tmod x4_1 8) == 0) = true := beq_iff_eq.mpr c4; have c4b1 : ((Int.tmod x4_1 8) != 0) = false := bne_eq_false_iff_eq.mpr c4; clear c4
      (first | rw [c4b0] | (simp only [i64_w, i32_w]; rw [c4b0]) | skip)
      by_cases c5 : x3_1.length < 140737488355328
      ·rw [if_pos c5] at H; have LMc5 := Aside0.mk c5; clear c5; obtain ⟨y339, hy339⟩ : ∃ y_ : List Int, y_ = (x3_1 ++ [0]) := ⟨_, rfl⟩
       replace H : (gaiterref01_Bytes.j1 k1 l0 y339 x4_1) = some r := by first | (rw [hy339]; with_reducible exact H) | (have H2_ := (Option.bind_some _ _).symm.trans H; rw [hy339]; with_reducible exact H2_) | (have H2_ := (Option.bind_some _ _).symm.trans H; with_reducible exact H2_) | with_reducible exact H | (rw [hy339]; exact H) | exact H
       have Ny339 := Aside0.mk hy339; clear hy339; have H' := Aside0.mk H; clear H
       go_wp2_with (first | ((with_reducible refine gate_builtin (b := .append) (xs := #[.tmp 16, .tmp 17]) rfl ?_); at_builtin; refine Kd.R_append (Kd.int .u8) (w0 := w) w.heap.size rfl (.tmp 16) (.tmp 17) 25 5 (.int .u8 0) 1 rfl Tryd.underlying25 info5 rfl (by decide) (by omega) u3 x3_1 0 [.int .u8 0] (fun _ => True) (fun _ => False) rfl rfl ?aP (fun _ hk => hk.elim) ?aF ?aO ?aB ?aS ?aL ?_; (case aP => exact rfl); (case aB => exact (kl HB)); (case aF => exact (fun _ _ => trivial)); (case aO => exact (kr HO_3)); (case aS => exact (below_size (kl HB))); (case aL => have := LMc5.out; omega); intro v340 w6 ho hb hg hat; rw [← Ny339.out] at ho; have n0_ := Aside0.mk (hb); have n1_ := Aside0.mk (ho); clear HB; clear HO_3; have HB := n0_; have HO341 := n1_; clear n0_ n1_; clear ho hb hg hat))
       go_meet
       case rel => exact ⟨_, (y339), H', ⟨by have := HK1.out; first | omega | exact Nat.le_refl _⟩, ⟨kr HO341⟩, ⟨(kl HB)⟩⟩
      ·rw [if_neg c5] at H
       exact absurd H (by simp)
     ·rw [if_neg c4] at H; have c4b0 : ((Int.tmod x4_1 8) == 0) = false := beq_eq_false_iff_ne.mpr c4; have c4b1 : ((Int.tmod x4_1 8) != 0) = true := bne_iff_ne.mpr c4
      (first | rw [c4b0] | (simp only [i64_w, i32_w]; rw [c4b0]) | skip)
      have H' := Aside0.mk H; clear H
      go_wp2
      go_meet
      case rel => exact ⟨_, (x3_1), H', ⟨by have := HK1.out; first | omega | exact Nat.le_refl _⟩, ⟨kr HO_3⟩, ⟨(kl HB)⟩⟩
    case rest =>
     clear HC3; (try clear c2); (try clear c2b0); (try clear p2); (try clear c4); (try clear c4b0); (try clear c4b1); (try clear c5); obtain ⟨kq, x3_2, HA, HJ2, HO_3, HB⟩ := hcut
     cases kq with
     | zero => exact absurd HA.out (by simp [gaiterref01_Bytes.j1])
     | succ kj2 =>
      have H := HA.out; clear HA; simp only [gaiterref01_Bytes.j1] at H
      by_cases c7 : 0 ≤ x4_1
      ·rw [if_pos c7] at H; have c7b0 : decide (0 ≤ x4_1) = true := decide_eq_true c7; clear c7
       by_cases c8 : x4_1 < (l0.length : Int)
       ·rw [if_pos c8] at H; have c8b0 : decide (x4_1 < (l0.length : Int)) = true := decide_eq_true c8; clear c8
        by_cases c9 : (rd l0 x4_1) = 1
        ·rw [if_pos c9] at H; have c9b0 : ((rd l0 x4_1) == 1) = true := beq_iff_eq.mpr c9; have c9b1 : ((rd l0 x4_1) != 1) = false := bne_eq_false_iff_eq.mpr c9; clear c9; have H' := Aside0.mk H; clear H; have p342 : 0 ≤ (x4_1 : Int) := of_decide_eq_true (by first | (with_reducible assumption) | assumption); have q342 : x4_1 < (l0.length : Int) := of_decide_eq_true (by first | (with_reducible assumption) | assumption); obtain ⟨ad342, e342, hx342_0⟩ := Kd.at_int HR0.out x4_1 p342 q342
         cases e342
         replace hx342_0 := (HB.out.cell (World.block_lt_of_cell? w _ hx342_0)).trans hx342_0; replace p342 := eq_true p342
         (try (have q342s := q342; simp only [List.length_drop, List.length_take] at q342s; replace q342s := eq_true q342s)); replace q342 := eq_true q342
         go_wp2
         go_loopg [5, 6] kj2 (fun kq v5 v6 w' => ∃ (x5_3 : Int) (x6_3 : Int), v5 = .int .u8 x5_3 ∧ v6 = .int .i64 x6_3 ∧ Aside0 (gaiterref01_Bytes.l1 kq l0 x3_2 x4_1 x5_3 x6_3 = some r) ∧ Aside0 (kq ≤ kj2) ∧ Aside0 (Kd.R (Kd.int .u8) 5 w' w.heap.size (fun _ => True) u3 x3_2) ∧ Aside0 (Below w.heap.size w w'))
         case atStart => exact ⟨(128), (0), (by first | rfl | (simp; done) | (simp [*]; done)), (by first | rfl | (simp; done) | (simp [*]; done)), H', ⟨Nat.le_refl _⟩, ⟨kr HO_3⟩, ⟨(kl HB)⟩⟩
         case round =>
          clear H'; (try clear c2); (try clear c2b0); (try clear p2); (try clear p3); (try clear q3); (try clear hx3); (try clear c4); (try clear c4b0); (try clear c4b1); (try clear c5); (try clear c7); (try clear c7b0); (try clear c8); (try clear c8b0); (try clear c9); (try clear c9b0); (try clear c9b1); (try clear hx342_0); (try clear p2); (try clear p342); (try clear q342); obtain ⟨x5_3, x6_3, rfl, rfl, HA, HK3, HO_3, HB⟩ := hrel
          cases gk with
          | zero => exact absurd HA.out (by simp [gaiterref01_Bytes.l1])
          | succ k3 =>
           have H := HA.out; clear HA; simp only [gaiterref01_Bytes.l1] at H
           by_cases c10 : x6_3 < (Int.tmod x4_1 8)
           ·rw [if_pos c10] at H; have c10b0 : decide (x6_3 < (Int.tmod x4_1 8)) = true := decide_eq_true c10; clear c10; have H' := Aside0.mk H; clear H
            go_wp2
            go_roundg k3
            case measure => have := HK1.out; have := HJ2.out; have := HK3.out; omega
            case rel => exact ⟨((Int.tdiv x5_3 2) % 256), (wrap64 (x6_3 + 1)), (by first | rfl | (simp; done) | (simp [*]; done)), (by first | rfl | (simp; done) | (simp [*]; done)), H', ⟨by have := HK1.out; have := HJ2.out; have := HK3.out; omega⟩, ⟨kr HO_3⟩, ⟨(kl HB)⟩⟩
           ·rw [if_neg c10] at H; have c10b0 : decide (x6_3 < (Int.tmod x4_1 8)) = false := decide_eq_false c10; clear c10; obtain ⟨ji11, hji11⟩ : ∃ j_ : Int, (wrap64 ((x3_2.length : Int) - 1)) = j_ := ⟨_, rfl⟩
            replace H : (if 0 ≤ (ji11) then (if (ji11) < (x3_2.length : Int) then (gaiterref01_Bytes.l0 k3 l0 (x3_2.set ((ji11) : Int).toNat (((rd x3_2 (ji11)) + x5_3) % 256)) (wrap64 (x4_1 + 1))) else (none)) else (none)) = some r := by first | (rw [hji11] at H; exact H) | (simp only [hji11] at H ⊢; exact H)
            have hji11w : (IntKind.i64.wrap ((x3_2.length : Int) - 1)) = ji11 := (i64_w _).trans hji11
            by_cases c12 : 0 ≤ (ji11)
            ·rw [if_pos c12] at H; have c12b0 : decide (0 ≤ (ji11)) = true := decide_eq_true c12; clear c12
             by_cases c13 : (ji11) < (x3_2.length : Int)
             ·rw [if_pos c13] at H; have c13b0 : decide ((ji11) < (x3_2.length : Int)) = true := decide_eq_true c13; clear c13; obtain ⟨y344, hy344⟩ : ∃ y_ : List Int, y_ = (x3_2.set ((ji11) : Int).toNat (((rd x3_2 (ji11)) + x5_3) % 256)) := ⟨_, rfl⟩
              replace H : (gaiterref01_Bytes.l0 k3 l0 y344 (wrap64 (x4_1 + 1))) = some r := by first | (rw [hy344]; with_reducible exact H) | (have H2_ := (Option.bind_some _ _).symm.trans H; rw [hy344]; with_reducible exact H2_) | (have H2_ := (Option.bind_some _ _).symm.trans H; with_reducible exact H2_) | with_reducible exact H | (rw [hy344]; exact H) | exact H
              have Ny344 := Aside0.mk hy344; clear hy344; have H' := Aside0.mk H; clear H; obtain ⟨Ao15, co15, eo15⟩ := Kd.R_slice HO_3.out; subst eo15; have p343 : 0 ≤ ((ji11) : Int) := of_decide_eq_true (by first | (with_reducible assumption) | assumption); have q343 : (ji11) < (x3_2.length : Int) := of_decide_eq_true (by first | (with_reducible assumption) | assumption); obtain ⟨ad343, e343, hx343_0⟩ := Kd.at_int (Kd.R_reads' HO_3.out).2.2 (ji11) p343 q343
              cases e343
              replace p343 := eq_true p343
              (try (have q343s := q343; simp only [List.length_drop, List.length_take] at q343s; replace q343s := eq_true q343s)); replace q343 := eq_true q343
              have p14 : 0 ≤ ((ji11) : Int) := of_decide_eq_true (by first | (with_reducible assumption) | assumption); have q14 : ((ji11) : Int) < ((x3_2.length : Int) : Int) := of_decide_eq_true (by first | (with_reducible assumption) | assumption); obtain ⟨go14, co14, eo14, gb14, gl14, cl14, HG14⟩ := Kd.R_form HO_3.out (by omega)
              (first | cases eo14 | (injection eo14 with ea_ en_ ec_; (first | subst ea_ | (injection ea_ with ea_; subst ea_)); subst ec_; clear en_))
              have GB14 := Aside0.mk gb14; have GG14 := Aside0.mk HG14; clear gb14 gl14 HG14
              (first | simp only [add_plain] at hx343_0 | skip)
              obtain ⟨hx14_0, hf14_0⟩ := Kd.R_celln 0 HO_3.out ((ji11) : Int) p14 q14; replace p14 := eq_true p14
              (try (have q14s := q14; simp only [List.length_drop, List.length_take] at q14s; replace q14s := eq_true q14s)); replace q14 := eq_true q14
              have HP16 := Kd.R_putg HO_3.out ((ji11) : Int) (((rd x3_2 (ji11)) + x5_3) % 256)
              go_wp2_with (first | ((with_reducible refine gate_store (t := 5) (p := 44) rfl ?_); refine store_event (t := 5) (p := 44) (v := ?vo_w17) (w1 := (wr.setCell ⟨go14, ((ji11) : Int).toNat, none⟩ (.int .u8 (((rd x3_2 (ji11)) + x5_3) % 256)))) ?hg ?ho ?hn ?hr ?_; (case ho => rfl); (case hg => rfl); (case hn => rfl); (case hr => first | (go_simp; done) | (go_simp; rfl)); intro w17 hw; have hg : wr.grownBy w17 (some go14) := (by rw [hw]; exact HP16.2); have hp_ : Kd.R (Kd.int .u8) 5 w17 w.heap.size (fun _ => True) (.slice (some ⟨go14, 0, none⟩) x3_2.length co15) y344 := (by rw [hw, Ny344.out]; exact HP16.1); clear HP16; replace HO_3 := Aside0.mk (hp_); replace HB := Aside0.mk ((by rw [hw]; exact below_set (HB.out) GB14.out : Below w.heap.size w w17)); clear hg hw hp_))
              go_roundg k3
              case measure => have := HK1.out; have := HJ2.out; have := HK3.out; omega
              case rel => exact ⟨(y344), (wrap64 (x4_1 + 1)), (by first | rfl | (simp; done) | (simp [*]; done)), H', ⟨by have := HK1.out; have := HJ2.out; have := HK3.out; omega⟩, ⟨kr HO_3⟩, ⟨(kl HB)⟩⟩
             ·rw [if_neg c13] at H
              exact absurd H (by simp)
            ·rw [if_neg c12] at H
             exact absurd H (by simp)
        ·rw [if_neg c9] at H; have c9b0 : ((rd l0 x4_1) == 1) = false := beq_eq_false_iff_ne.mpr c9; have c9b1 : ((rd l0 x4_1) != 1) = true := bne_iff_ne.mpr c9; have H' := Aside0.mk H; clear H; have p342 : 0 ≤ (x4_1 : Int) := of_decide_eq_true (by first | (with_reducible assumption) | assumption); have q342 : x4_1 < (l0.length : Int) := of_decide_eq_true (by first | (with_reducible assumption) | assumption); obtain ⟨ad342, e342, hx342_0⟩ := Kd.at_int HR0.out x4_1 p342 q342
         cases e342
         replace hx342_0 := (HB.out.cell (World.block_lt_of_cell? w _ hx342_0)).trans hx342_0; replace p342 := eq_true p342
         (try (have q342s := q342; simp only [List.length_drop, List.length_take] at q342s; replace q342s := eq_true q342s)); replace q342 := eq_true q342
         go_wp2
         go_roundg kj2
         case measure => have := HK1.out; have := HJ2.out; omega
         case rel => exact ⟨(x3_2), (wrap64 (x4_1 + 1)), (by first | rfl | (simp; done) | (simp [*]; done)), H', ⟨by have := HK1.out; have := HJ2.out; omega⟩, ⟨kr HO_3⟩, ⟨(kl HB)⟩⟩
       ·rw [if_neg c8] at H
        exact absurd H (by simp)
      ·rw [if_neg c7] at H
       exact absurd H (by simp)
   ·rw [if_neg c2] at H; have c2b0 : decide (x4_1 < (l0.length : Int)) = false := decide_eq_false c2; clear c2; obtain rfl := Option.some.inj H
    go_wp2
    go_ret
    exact ⟨_, by first | rfl | (simp [errW_none, errW_some] <;> rfl) | (simp [*, errW_none, errW_some] <;> rfl), by (with_reducible repeat (first | apply Kd.R_alloc | apply Kd.R_drewN | apply Kd.R_drew)); exact HO_3.out, (kl HB)⟩
end Go.Proofs.YtiahbcaoikoogaaDoor.All
end
section
namespace Go.Proofs.YtiahbcaoikoogaaDoor.All
open Go.RowKit Go.Proofs.YtiahbcaoikoogaaDoorW.PrintWords Go.Proofs.YtiahbcaoikoogaaDoorW.PrintLast Go.Proofs.YtiahbcaoikoogaaDoorW.PrintMore
attribute [local go_sem] max2_int min2_int max_two min_two max_three min_three max_four min_four   
set_option linter.unusedVariables false
set_option linter.unusedSimpArgs false
def gaiterref01_Low.l0 : Nat → Int → List Int → Int → Option (List Int)
 | 0, _, _, _ => none
 | k + 1, x0, x5, x6 => if x6 ≥ 0 then (if 0 ≤ x6 then (if x6 < (x5.length : Int) then (gaiterref01_Low.l0 k (IntKind.u64.wrap (Int.tdiv x0 2)) (x5.set (x6 : Int).toNat ((Int.tmod x0 2) % 256)) (wrap64 (x6 - 1))) else (none)) else (none)) else (some x5)
def gaiterref01_Low.f (k : Nat) (a0 : Int) (a1 : Int) : Option (List Int) := if 0 ≤ a1 then (if (a1 : Int).toNat ≤ 281474976710656 then (gaiterref01_Low.l0 k a0 (List.replicate (a1 : Int).toNat 0) (wrap64 (a1 - 1))) else (none)) else (none)
set_option maxHeartbeats 8000000 in
set_option maxRecDepth 100000 in
theorem gaiterref01_Low.calls (k : Nat) (a0 : Int) (a1 : Int) (r : List Int) (w : World) (h : gaiterref01_Low.f k a0 a1 = some r) :
  Calls Tryd.prog 46 #[.int .u64 a0, .int .i64 a1] w fun e w' => ∃ v0_ : Value, e = .returned (v0_) ∧ Kd.R (Kd.int .u8) 5 w' w.heap.size (fun _ => True) v0_ r ∧ Below w.heap.size w w' := by
 have HB := Aside0.mk (Below.refl w.heap.size w); have H : (if 0 ≤ a1 then (if (a1 : Int).toNat ≤ 281474976710656 then (gaiterref01_Low.l0 k a0 (List.replicate (a1 : Int).toNat 0) (wrap64 (a1 - 1))) else (none)) else (none)) = some r := h; clear h
 by_cases c3 : 0 ≤ a1
 ·rw [if_pos c3] at H; have c3b0 := eq_true c3; have c3b1 : decide (0 ≤ a1) = true := decide_eq_true c3; clear c3
  by_cases c4 : (a1 : Int).toNat ≤ 281474976710656
  ·rw [if_pos c4] at H; have c4b0 := eq_true c4; have c4b1 : decide ((a1 : Int).toNat ≤ 281474976710656) = true := decide_eq_true c4; clear c4; obtain ⟨y255, hy255⟩ : ∃ y_ : List Int, y_ = (List.replicate (a1 : Int).toNat 0) := ⟨_, rfl⟩
   replace H : (gaiterref01_Low.l0 k a0 y255 (wrap64 (a1 - 1))) = some r := by first | (rw [hy255]; with_reducible exact H) | (have H2_ := (Option.bind_some _ _).symm.trans H; rw [hy255]; with_reducible exact H2_) | (have H2_ := (Option.bind_some _ _).symm.trans H; with_reducible exact H2_) | with_reducible exact H | (rw [hy255]; exact H) | exact H
   have Ny255 := Aside0.mk hy255; clear hy255; have H' := Aside0.mk H; clear H
   go_enter Tryd.func46, Tryd.ntmps46
   go_wp2_with (first | ((with_reducible refine gate_dst (N := 8) rfl ?_); refine Kd.R_make (Kd.int .u8) _ 5 rfl (N := 8) rfl 25 _ _ rfl a1 rfl rfl Tryd.underlying25 (.int .u8 0) 1 info5 rfl (by decide) (by omega) 0 (ok := fun _ => True) (okp := fun _ => True) rfl (fun _ hk => hk) trivial (of_decide_eq_true (by first | (with_reducible assumption) | assumption)) (Nat.le_trans (Nat.mul_le_mul_right _ (of_decide_eq_true (by first | (with_reducible assumption) | assumption) : a1.toNat ≤ 281474976710656)) (by omega)) (Below.refl _ _) (Nat.le_refl _) ?_; intro v256 w5 ho6 hb hg_ hnew_; clear hg_ hnew_; (first | rw [← Ny255.out] at ho6 | (simp only [Int.reduceToNat] at ho6; rw [← Ny255.out] at ho6)); have HO257 := Aside0.mk (Kd.R_lower ho6 (below_size (kl HB))); replace HB := kH HB hb; clear hb ho6))
   go_loopg [0, 6] k (fun kq v0 v6 w' => ∃ (x0_1 : Int) (x5_1 : List Int) (x6_1 : Int), v0 = .int .u64 x0_1 ∧ v6 = .int .i64 x6_1 ∧ Aside0 (gaiterref01_Low.l0 kq x0_1 x5_1 x6_1 = some r) ∧ Aside0 (kq ≤ k) ∧ Aside0 (Kd.R (Kd.int .u8) 5 w' w.heap.size (fun _ => True) v256 x5_1) ∧ Aside0 (Below w.heap.size w w'))
   case atStart => exact ⟨(a0), (y255), (wrap64 (a1 - 1)), (by first | rfl | (simp; done) | (simp [*]; done)), (by first | rfl | (simp; done) | (simp [*]; done)), H', ⟨Nat.le_refl _⟩, ⟨kr HO257⟩, ⟨(kl HB)⟩⟩
   case round =>
    clear H'; (try clear p2); (try clear c3); (try clear c3b0); (try clear c3b1); (try clear c4); (try clear c4b0); (try clear c4b1); (try clear p6); obtain ⟨x0_1, x5_1, x6_1, rfl, rfl, HA, HK1, HO_5, HB⟩ := hrel
    cases gk with
    | zero => exact absurd HA.out (by simp [gaiterref01_Low.l0])
    | succ k1 =>
     have H := HA.out; clear HA; simp only [gaiterref01_Low.l0] at H
     by_cases c7 : x6_1 ≥ 0
     ·rw [if_pos c7] at H; have c7b0 : decide (0 ≤ x6_1) = true := decide_eq_true c7; clear c7
      by_cases c8 : 0 ≤ x6_1
      ·rw [if_pos c8] at H; have c8b0 : decide (0 ≤ x6_1) = true := decide_eq_true c8; clear c8
       by_cases c9 : x6_1 < (x5_1.length : Int)
       ·rw [if_pos c9] at H; have c9b0 : decide (x6_1 < (x5_1.length : Int)) = true := decide_eq_true c9; clear c9; obtain ⟨y258, hy258⟩ : ∃ y_ : List Int, y_ = (x5_1.set (x6_1 : Int).toNat ((Int.tmod x0_1 2) % 256)) := ⟨_, rfl⟩
        replace H : (gaiterref01_Low.l0 k1 (IntKind.u64.wrap (Int.tdiv x0_1 2)) y258 (wrap64 (x6_1 - 1))) = some r := by first | (rw [hy258]; with_reducible exact H) | (have H2_ := (Option.bind_some _ _).symm.trans H; rw [hy258]; with_reducible exact H2_) | (have H2_ := (Option.bind_some _ _).symm.trans H; with_reducible exact H2_) | with_reducible exact H | (rw [hy258]; exact H) | exact H
        have Ny258 := Aside0.mk hy258; clear hy258; have H' := Aside0.mk H; clear H; have p10 : 0 ≤ (x6_1 : Int) := of_decide_eq_true (by first | (with_reducible assumption) | assumption); have q10 : (x6_1 : Int) < ((x5_1.length : Int) : Int) := of_decide_eq_true (by first | (with_reducible assumption) | assumption); obtain ⟨go10, co10, eo10, gb10, gl10, cl10, HG10⟩ := Kd.R_form HO_5.out (by omega)
        (first | cases eo10 | (injection eo10 with ea_ en_ ec_; (first | subst ea_ | (injection ea_ with ea_; subst ea_)); subst ec_; clear en_))
        have GB10 := Aside0.mk gb10; have GG10 := Aside0.mk HG10; clear gb10 gl10 HG10; obtain ⟨hx10_0, hf10_0⟩ := Kd.R_celln 0 HO_5.out (x6_1 : Int) p10 q10; replace p10 := eq_true p10
        (try (have q10s := q10; simp only [List.length_drop, List.length_take] at q10s; replace q10s := eq_true q10s)); replace q10 := eq_true q10
        have HP11 := Kd.R_putg HO_5.out (x6_1 : Int) ((Int.tmod x0_1 2) % 256)
        go_wp2_with (first | ((with_reducible refine gate_store (t := 5) (p := 20) rfl ?_); refine store_event (t := 5) (p := 20) (v := ?vo_w12) (w1 := (wr.setCell ⟨go10, (x6_1 : Int).toNat, none⟩ (.int .u8 ((Int.tmod x0_1 2) % 256)))) ?hg ?ho ?hn ?hr ?_; (case ho => rfl); (case hg => rfl); (case hn => rfl); (case hr => first | (go_simp; done) | (go_simp; rfl)); intro w12 hw; have hg : wr.grownBy w12 (some go10) := (by rw [hw]; exact HP11.2); have hp_ : Kd.R (Kd.int .u8) 5 w12 w.heap.size (fun _ => True) (.slice (some ⟨go10, 0, none⟩) x5_1.length co10) y258 := (by rw [hw, Ny258.out]; exact HP11.1); clear HP11; replace HO_5 := Aside0.mk (hp_); replace HB := Aside0.mk ((by rw [hw]; exact below_set (HB.out) GB10.out : Below w.heap.size w w12)); clear hg hw hp_))
        go_roundg k1
        case measure => have := HK1.out; omega
        case rel => exact ⟨(IntKind.u64.wrap (Int.tdiv x0_1 2)), (y258), (wrap64 (x6_1 - 1)), (by first | rfl | (simp; done) | (simp [*]; done)), (by first | rfl | (simp; done) | (simp [*]; done)), H', ⟨by have := HK1.out; omega⟩, ⟨kr HO_5⟩, ⟨(kl HB)⟩⟩
       ·rw [if_neg c9] at H
        exact absurd H (by simp)
      ·rw [if_neg c8] at H
       exact absurd H (by simp)
     ·rw [if_neg c7] at H; have c7b0 : decide (0 ≤ x6_1) = false := decide_eq_false c7; clear c7; obtain rfl := Option.some.inj H
      go_wp2
      go_ret
      exact ⟨_, by first | rfl | (simp [errW_none, errW_some] <;> rfl) | (simp [*, errW_none, errW_some] <;> rfl), by (with_reducible repeat (first | apply Kd.R_alloc | apply Kd.R_drewN | apply Kd.R_drew)); exact HO_5.out, (kl HB)⟩
  ·rw [if_neg c4] at H
   exact absurd H (by simp)
 ·rw [if_neg c3] at H
  exact absurd H (by simp)
end Go.Proofs.YtiahbcaoikoogaaDoor.All
end
