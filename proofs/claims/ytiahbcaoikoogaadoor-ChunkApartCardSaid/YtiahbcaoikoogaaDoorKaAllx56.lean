-- declarations that this claim needs, copied by a program of the session
import Derived.Test.YtiahbcaoikoogaaDoorKaAllx52
section
namespace Go.Proofs.YtiahbcaoikoogaaDoor.All
open Go.RowKit Go.Proofs.YtiahbcaoikoogaaDoorW.PrintWords Go.Proofs.YtiahbcaoikoogaaDoorW.PrintLast Go.Proofs.YtiahbcaoikoogaaDoorW.PrintMore
attribute [local go_sem] max2_int min2_int max_two min_two max_three min_three max_four min_four   
set_option linter.unusedVariables false
set_option linter.unusedSimpArgs false
def gaiterlaw09_up.f (k : Nat)  : Option (Bool) := (chunk_Encode.f k 2 (([(⟨1, 258⟩ : S59)] : List (S59)))).bind fun bt1309 => ((chunk_Encode.f k 1 ([] : List (S59))).bind fun bt1313 => (if bt1309.2.isNone = true then (if (bt1309.1.length : Int) = 16 then (if 7 < (bt1309.1.length : Int) then (if (rd bt1309.1 7) = 1 then (if 14 < (bt1309.1.length : Int) then (if (rd bt1309.1 14) = 1 then ((gaiterlaw00_Code.f bt1313.2).bind fun t1320 => (some (t1320 == 1))) else (none)) else (none)) else (none)) else (none)) else (none)) else (none)))
theorem gaiterlaw09_up.mono : ∀ k, LeO (gaiterlaw09_up.f k ) (gaiterlaw09_up.f (k + 1) ) := by
 intro  k
 unfold gaiterlaw09_up.f
 repeat' first
   | (with_reducible exact chunk_Encode.mono _ _ _)
   | (with_reducible exact LeO.refl _)
   | (with_reducible exact LeO.none _)
   | (with_reducible refine LeO.ite ?_ ?_)
   | (with_reducible refine LeO.bind ?_ (fun _ => ?_))
   | exact chunk_Encode.mono _ _ _
   | exact LeO.none _
   | refine LeO.ite ?_ ?_
   | refine LeO.bind ?_ (fun _ => ?_)
set_option maxHeartbeats 8000000 in
set_option maxRecDepth 100000 in
theorem gaiterlaw09_up.calls (k : Nat)  (r : Bool) (w : World) (hT : TabOk w) (h : gaiterlaw09_up.f k  = some r) :
  Calls Tryd.prog 37 #[] w fun e w' => e = .returned (.bool r) ∧ Below w.heap.size w w' := by
 have hu59 := Tryd.underlying59; have hu37 := Tryd.underlying37; have hu95 := Tryd.underlying95; have HT := Aside0.mk hT; clear hT; have HB := Aside0.mk (Below.refl w.heap.size w); have H : ((chunk_Encode.f k 2 (([(⟨1, 258⟩ : S59)] : List (S59)))).bind fun bt1309 => ((chunk_Encode.f k 1 ([] : List (S59))).bind fun bt1313 => (if bt1309.2.isNone = true then (if (bt1309.1.length : Int) = 16 then (if 7 < (bt1309.1.length : Int) then (if (rd bt1309.1 7) = 1 then (if 14 < (bt1309.1.length : Int) then (if (rd bt1309.1 14) = 1 then ((gaiterlaw00_Code.f bt1313.2).bind fun t1320 => (some (t1320 == 1))) else (none)) else (none)) else (none)) else (none)) else (none)) else (none)))) = some r := h; clear h; obtain ⟨y1306, hy1306⟩ : ∃ y_ : List (S59), y_ = (([(⟨1, 258⟩ : S59)] : List (S59))) := ⟨_, rfl⟩
 replace H : ((chunk_Encode.f k 2 y1306).bind fun bt1309 => ((chunk_Encode.f k 1 ([] : List (S59))).bind fun bt1313 => (if bt1309.2.isNone = true then (if (bt1309.1.length : Int) = 16 then (if 7 < (bt1309.1.length : Int) then (if (rd bt1309.1 7) = 1 then (if 14 < (bt1309.1.length : Int) then (if (rd bt1309.1 14) = 1 then ((gaiterlaw00_Code.f bt1313.2).bind fun t1320 => (some (t1320 == 1))) else (none)) else (none)) else (none)) else (none)) else (none)) else (none)))) = some r := by first | (rw [hy1306]; with_reducible exact H) | (have H2_ := (Option.bind_some _ _).symm.trans H; rw [hy1306]; with_reducible exact H2_) | (have H2_ := (Option.bind_some _ _).symm.trans H; with_reducible exact H2_) | with_reducible exact H | (rw [hy1306]; exact H) | exact H
 have Ny1306 := Aside0.mk hy1306; clear hy1306; replace H := Option.bind_eq_some_iff.mp H; obtain ⟨⟨t1309, t1310⟩, A10, H⟩ := H; replace H : ((chunk_Encode.f k 1 ([] : List (S59))).bind fun bt1313 => (if t1310.isNone = true then (if (t1309.length : Int) = 16 then (if 7 < (t1309.length : Int) then (if (rd t1309 7) = 1 then (if 14 < (t1309.length : Int) then (if (rd t1309 14) = 1 then ((gaiterlaw00_Code.f bt1313.2).bind fun t1320 => (some (t1320 == 1))) else (none)) else (none)) else (none)) else (none)) else (none)) else (none))) = some r := H; have A1 := Aside0.mk A10; clear A10; replace H := Option.bind_eq_some_iff.mp H; obtain ⟨⟨t1313, t1314⟩, A20, H⟩ := H; replace H : (if t1310.isNone = true then (if (t1309.length : Int) = 16 then (if 7 < (t1309.length : Int) then (if (rd t1309 7) = 1 then (if 14 < (t1309.length : Int) then (if (rd t1309 14) = 1 then ((gaiterlaw00_Code.f t1314).bind fun t1320 => (some (t1320 == 1))) else (none)) else (none)) else (none)) else (none)) else (none)) else (none)) = some r := H; have A2 := Aside0.mk A20; clear A20
 rcases t1310 with _ | q1317
 ·have H1 : (if (t1309.length : Int) = 16 then (if 7 < (t1309.length : Int) then (if (rd t1309 7) = 1 then (if 14 < (t1309.length : Int) then (if (rd t1309 14) = 1 then ((gaiterlaw00_Code.f t1314).bind fun t1320 => (some (t1320 == 1))) else (none)) else (none)) else (none)) else (none)) else (none)) = some r := by rw [if_pos (show (none : Option Int).isNone = true by rfl)] at H; exact H
  clear H; have H := H1; clear H1
  try simp only [errW_none, errW_some]
  by_cases c3 : (t1309.length : Int) = 16
  ·rw [if_pos c3] at H; have c3b0 : ((t1309.length : Int) == 16) = true := beq_iff_eq.mpr c3; have c3b1 : ((t1309.length : Int) != 16) = false := bne_eq_false_iff_eq.mpr c3; clear c3
   by_cases c4 : 7 < (t1309.length : Int)
   ·rw [if_pos c4] at H; have c4b0 : decide (7 < (t1309.length : Int)) = true := decide_eq_true c4; have c4b1 : decide (7 < t1309.length) = true := decide_eq_true (by omega); clear c4
    by_cases c5 : (rd t1309 7) = 1
    ·rw [if_pos c5] at H; have c5b0 : ((rd t1309 7) == 1) = true := beq_iff_eq.mpr c5; have c5b1 : ((rd t1309 7) != 1) = false := bne_eq_false_iff_eq.mpr c5; clear c5
     by_cases c6 : 14 < (t1309.length : Int)
     ·rw [if_pos c6] at H; have c6b0 : decide (14 < (t1309.length : Int)) = true := decide_eq_true c6; have c6b1 : decide (14 < t1309.length) = true := decide_eq_true (by omega); clear c6
      by_cases c7 : (rd t1309 14) = 1
      ·rw [if_pos c7] at H; have c7b0 : ((rd t1309 14) == 1) = true := beq_iff_eq.mpr c7; have c7b1 : ((rd t1309 14) != 1) = false := bne_eq_false_iff_eq.mpr c7; clear c7; replace H := Option.bind_eq_some_iff.mp H; obtain ⟨t1320, A80, H⟩ := H; replace H : (some (t1320 == 1)) = some r := H; have A8 := Aside0.mk A80; clear A80; obtain rfl := Option.some.inj H
       go_enter Tryd.func37, Tryd.ntmps37
       go_wp2_with (first | ((with_reducible refine gate_dst (N := 7) rfl ?_); (try (refine gate_guard (by rfl) ?_; dsimp only)); refine Kd.R_lit k59 _ 59 ?hg (N := 7) ?hd (xs := ([(⟨1, 258⟩ : S59)] : List (S59))) (inner := [.int .i64 1, .int .u64 258]) (ok := fun _ => True) (okp := fun _ => True) ?hr ?hp (fun _ hk => hk) trivial (Below.refl _ _) (Nat.le_refl _) (by simp) ?_; (case hd => rfl); (case hg => rfl); (case hr => first | (go_simp; done) | (go_simp; rfl)); (case hp => exact (Reps.c2 (show Kd.M k59 _ _ _ (⟨1, 258⟩ : S59) [.int .i64 1, .int .u64 258] from (k59_mkM _ _ _ (⟨1, 258⟩ : S59) )) (Reps.none _ _))); intro v1307 w9 ho10 hb hg_ hnew_; clear hg_ hnew_; (first | rw [← Ny1306.out] at ho10 | (simp only [Int.reduceToNat] at ho10; rw [← Ny1306.out] at ho10)); have HO1308 := Aside0.mk (Kd.R_lower ho10 (below_size (kl HB))); replace HB := kH HB hb; clear hb ho10; obtain ⟨Ao11, co11, eo11⟩ := Kd.R_slice HO1308.out; subst eo11) | ((with_reducible refine gate_callee (f := 38) rfl ?_); refine goesL_ (some 8) rfl rfl Tryd.func38 (by kernel_rfl) rfl #[.int .i64 2, .slice Ao11 y1306.length co11] rfl km ?_; (with_reducible refine (chunk_Encode.calls k 2 _ _ y1306 t1309 none _ ?side1 ?side2 ?side3 A1.out).mono ?_); (case side1 => exact TabOk.below HT.out (kl HB) (Nat.le_refl _)); (case side2 => repeat (first | exact (Kd.R_reads' HO1308.out).2.2 | (with_reducible refine Kd.C_alloc ?_ _) | (with_reducible refine Kd.C_drewN ?_ _) | (with_reducible refine Kd.C_drew ?_))); (case side3 => exact (Kd.R_reads' HO1308.out).2.1); rintro e w12 ⟨v1311, rfl, ho0, hb⟩; refine ⟨_, rfl, ?_⟩; replace HO1308 := Aside0.mk (Kd.R_below (kr HO1308) hb); have HO1312 := Aside0.mk (Kd.R_lower ho0 (below_size (kl HB))); replace HB := kH HB hb; (try clear hb); (try clear hb2); (try clear hk); (try clear hi); (try clear hgw); (try clear ho0); (try simp only [errW_none, errW_some])) | ((with_reducible refine gate_callee (f := 38) rfl ?_); refine goesL_ (some 12) rfl rfl Tryd.func38 (by kernel_rfl) rfl #[.int .i64 1, .slice none 0 0] rfl km ?_; (refine (chunk_Encode.calls k 1 _ _ ([] : List (S59)) t1313 t1314 _ ?side1 ?side2 ?side3 A2.out).mono ?_); (case side1 => exact TabOk.below HT.out (kl HB) (Nat.le_refl _)); (case side2 => exact Kd.C_nil _ _); (case side3 => exact Nat.le_refl _); rintro e w13 ⟨v1315, rfl, ho0, hb⟩; refine ⟨_, rfl, ?_⟩; replace HO1308 := Aside0.mk (Kd.R_below (kr HO1308) hb); have HO1316 := Aside0.mk (Kd.R_lower (Kd.R_new' ho0 (Kd.R_lt (kr HO1312))) (below_size (kl HB))); replace HO1312 := Aside0.mk (Kd.R_elder' (kr HO1312) (Kd.R_base ho0) hb); replace HB := kH HB hb; (try clear hb); (try clear hb2); (try clear hk); (try clear hi); (try clear hgw); (try clear ho0); (try simp only [errW_none, errW_some]); obtain ⟨Ao14, co14, eo14⟩ := Kd.R_slice HO1312.out; subst eo14; have p1318 : 0 ≤ (7 : Int) := (by omega); have q1318 : 7 < (t1309.length : Int) := of_decide_eq_true (by first | (with_reducible assumption) | assumption); obtain ⟨ad1318, e1318, hx1318_0⟩ := Kd.at_int (Kd.R_reads' HO1312.out).2.2 7 p1318 q1318; cases e1318; (try simp only [show (7 : Int).toNat = 7 from rfl, Nat.reduceMul, Nat.reduceEqDiff, Go.Addr.add, ↓reduceIte] at hx1318_0); have qi1318 : (7 < t1309.length) = True := eq_true (by omega); (try rw [show ((7 : Int)).toNat = 7 from rfl] at hx1318_0); replace p1318 := eq_true p1318; (try (have q1318s := q1318; simp only [List.length_drop, List.length_take] at q1318s; replace q1318s := eq_true q1318s)); replace q1318 := eq_true q1318; have p1319 : 0 ≤ (14 : Int) := (by omega); have q1319 : 14 < (t1309.length : Int) := of_decide_eq_true (by first | (with_reducible assumption) | assumption); obtain ⟨ad1319, e1319, hx1319_0⟩ := Kd.at_int (Kd.R_reads' HO1312.out).2.2 14 p1319 q1319; obtain rfl : ad1318 = ad1319 := (by injection e1319); (try simp only [show (14 : Int).toNat = 14 from rfl, Nat.reduceMul, Nat.reduceEqDiff, Go.Addr.add, ↓reduceIte] at hx1319_0); have qi1319 : (14 < t1309.length) = True := eq_true (by omega); (try rw [show ((14 : Int)).toNat = 14 from rfl] at hx1319_0); replace p1319 := eq_true p1319; (try (have q1319s := q1319; simp only [List.length_drop, List.length_take] at q1319s; replace q1319s := eq_true q1319s)); replace q1319 := eq_true q1319; have CA8 := fun W => gaiterlaw00_Code.calls t1314 t1320 W A8.out; try simp only [errW_none, errW_some] at CA8) | (go_at_call 20; (with_reducible refine (CA8 _).mono ?_); rintro e w' ⟨rfl, ⟨nd, rfl⟩⟩))
       go_ret
       exact ⟨by first | rfl | (simp [errW_none, errW_some] <;> rfl) | (simp [*, errW_none, errW_some] <;> rfl), (kl HB)⟩
      ·rw [if_neg c7] at H
       exact absurd H (by simp)
     ·rw [if_neg c6] at H
      exact absurd H (by simp)
    ·rw [if_neg c5] at H
     exact absurd H (by simp)
   ·rw [if_neg c4] at H
    exact absurd H (by simp)
  ·rw [if_neg c3] at H
   exact absurd H (by simp)
 ·have H1 : (none) = some r := by rw [if_neg (show ¬ (some q1317).isNone = true by simp)] at H; exact H
  clear H; have H := H1; clear H1
  try simp only [errW_none, errW_some]
  exact absurd H (by simp)
end Go.Proofs.YtiahbcaoikoogaaDoor.All
end
section
namespace Go.Proofs.YtiahbcaoikoogaaDoor.All
open Go.RowKit Go.Proofs.YtiahbcaoikoogaaDoorW.PrintWords Go.Proofs.YtiahbcaoikoogaaDoorW.PrintLast Go.Proofs.YtiahbcaoikoogaaDoorW.PrintMore
attribute [local go_sem] max2_int min2_int max_two min_two max_three min_three max_four min_four   
set_option linter.unusedVariables false
set_option linter.unusedSimpArgs false
def gaiterlaw00_Pick.f (a0 : Int) (a1 : Int) : Option (Int) := if a1 = 0 then (none) else (if (Int.tmod a0 a1) < 0 then (some (wrap64 ((Int.tmod a0 a1) + a1))) else (some (Int.tmod a0 a1)))
set_option maxHeartbeats 8000000 in
set_option maxRecDepth 100000 in
theorem gaiterlaw00_Pick.calls (a0 : Int) (a1 : Int) (r : Int) (w : World) (h : gaiterlaw00_Pick.f a0 a1 = some r) :
  Calls Tryd.prog 40 #[.int .i64 a0, .int .i64 a1] w fun e w' => e = .returned (.int .i64 r) ∧ Drawn0 w w' := by
 have H : (if a1 = 0 then (none) else (if (Int.tmod a0 a1) < 0 then (some (wrap64 ((Int.tmod a0 a1) + a1))) else (some (Int.tmod a0 a1)))) = some r := h; clear h
 by_cases c3 : a1 = 0
 ·rw [if_pos c3] at H
  exact absurd H (by simp)
 ·rw [if_neg c3] at H; have c3b0 : (a1 == 0) = false := beq_eq_false_iff_ne.mpr c3; have c3b1 : (a1 != 0) = true := bne_iff_ne.mpr c3
  by_cases c4 : (Int.tmod a0 a1) < 0
  ·rw [if_pos c4] at H; have c4b0 : decide ((Int.tmod a0 a1) < 0) = true := decide_eq_true c4; clear c4; obtain rfl := Option.some.inj H
   go_enter Tryd.func40, Tryd.ntmps40
   go_wp2
   go_ret
   exact ⟨by first | rfl | (simp; done) | (simp [*]; done), by repeat (first | exact Drawn0.refl _ | apply Drawn0.step)⟩
  ·rw [if_neg c4] at H; have c4b0 : decide ((Int.tmod a0 a1) < 0) = false := decide_eq_false c4; clear c4; obtain rfl := Option.some.inj H
   go_enter Tryd.func40, Tryd.ntmps40
   go_wp2
   go_ret
   exact ⟨by first | rfl | (simp; done) | (simp [*]; done), by repeat (first | exact Drawn0.refl _ | apply Drawn0.step)⟩
end Go.Proofs.YtiahbcaoikoogaaDoor.All
end
