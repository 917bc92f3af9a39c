-- copied by a program of the session
import Derived.Test.YtiahbcaoikoogaaDoorKtAllx20
namespace Go.Proofs.YtiahbcaoikoogaaDoor
open Go.Proofs.YtiahbcaoikoogaaDoor.All Go.RowKit Go.Proofs.YtiahbcaoikoogaaDoorW.PrintWords Go.Proofs.YtiahbcaoikoogaaDoorW.PrintLast Go.Proofs.YtiahbcaoikoogaaDoorW.PrintMore
attribute [local go_sem] A2f A2g A2w A2x A18 A19 A2h A2i   
set_option linter.unusedVariables false
set_option linter.unusedSimpArgs false
def A1u.f (k : Nat) (l0_0 : List Int) (a0_1 : Int) (l1 : List Int) : Option (Int) := if a0_1 = (l1.length : Int) then ((A0k.f k l1).bind fun t108 => (if (strOfNums l0_0).toList = (strOfNums t108).toList then (some 1) else (some 0))) else (some 0)
theorem A1u.mono : ∀ a0 a1 a2 k, LeO (A1u.f k a0 a1 a2) (A1u.f (k + 1) a0 a1 a2) := by
 intro a0 a1 a2 k
 unfold A1u.f
 repeat' first
   | (with_reducible exact A0k.mono _ _)
   | (with_reducible exact LeO.refl _)
   | (with_reducible exact LeO.none _)
   | (with_reducible refine LeO.ite ?_ ?_)
   | (with_reducible refine LeO.bind ?_ (fun _ => ?_))
   | exact A0k.mono _ _
   | exact LeO.none _
   | refine LeO.ite ?_ ?_
   | refine LeO.bind ?_ (fun _ => ?_)
def A1u.T1 : Bool × List (List Nat × List Nat) := (true, [([], []), ([0], [0]), ([], []), ([2], [2]), ([1, 3], [1, 3]), ([4], [4]), ([5], [5]), ([6, 5], [5, 6]), ([7, 5], [5, 7]), ([5], [5]), ([9, 5, 5], [5, 9]), ([10, 5], [5, 10]), ([8, 11, 5], [5, 8, 11]), ([5, 12], [5, 12])])
def A1u.B1 : List Nat := [0, 1, 0, 4, 15, 31, 63, 127, 255, 63, 575, 1599, 4095, 8191]
theorem A1u.tab1 : rtab .any (opsOf Tryd.f19 1) = A1u.T1 := by kernel_rfl
theorem A1u.bits1 : A2o A1u.T1.2 A1u.B1 = true := by kernel_rfl
set_option maxHeartbeats 8000000 in
set_option maxRecDepth 100000 in
theorem A1u.calls (k : Nat) (A0_0 : Option Addr) (c0_0 : Nat) (l0_0 : List Int) (a0_1 : Int) (A1 : Option Addr) (c1 : Nat) (l1 : List Int) (r : Int) (w : World) (hr0_0 : Kd.C (Kd.int .u8) w A0_0 l0_0.length l0_0) (hc0_0 : l0_0.length ≤ c0_0) (hr1 : Kd.C (Kd.int .u8) w A1 l1.length l1) (hc1 : l1.length ≤ c1) (h : A1u.f k l0_0 a0_1 l1 = some r) :
  Calls Tryd.prog 19 #[.agg #[.slice A0_0 l0_0.length c0_0, .int .i64 a0_1], .slice A1 l1.length c1] w fun e w' => e = .returned (.int .i64 r) ∧ Below w.heap.size w w' := by
 have hu31 := Tryd.underlying31
 have HR0_0 := A0b.mk hr0_0
 have HC0_0 := A0b.mk hc0_0
 clear hr0_0 hc0_0
 have HR1 := A0b.mk hr1
 have HC1 := A0b.mk hc1
 clear hr1 hc1
 have HB := A0b.mk (Below.refl w.heap.size w)
 have H : (if a0_1 = (l1.length : Int) then ((A0k.f k l1).bind fun t108 => (if (strOfNums l0_0).toList = (strOfNums t108).toList then (some 1) else (some 0))) else (some 0)) = some r := h
 clear h
 by_cases c3 : a0_1 = (l1.length : Int)
 ·rw [if_pos c3] at H
  have c3b0 : (a0_1 == (l1.length : Int)) = true := beq_iff_eq.mpr c3
  have c3b1 : (a0_1 != (l1.length : Int)) = false := bne_eq_false_iff_eq.mpr c3
  clear c3
  replace H := Option.bind_eq_some_iff.mp H
  obtain ⟨t108, A40, H⟩ := H
  replace H : (if (strOfNums l0_0).toList = (strOfNums t108).toList then (some 1) else (some 0)) = some r := H
  have A4 := A0b.mk A40
  clear A40
  by_cases c5 : (strOfNums l0_0).toList = (strOfNums t108).toList
  ·rw [if_pos c5] at H
   have c5b0 : ((strOfNums l0_0).toList == (strOfNums t108).toList) = true := beq_iff_eq.mpr c5
   have c5b1 : ((strOfNums l0_0).toList != (strOfNums t108).toList) = false := bne_eq_false_iff_eq.mpr c5
   clear c5
   obtain rfl := Option.some.inj H
   go_enter Tryd.func19, Tryd.ntmps19
   try go_wp2_with (first | ((with_reducible refine A0q (N := 2) rfl ?_); refine box_event ?hg (N := 2) ?hd (cs := #[.slice A0_0 l0_0.length c0_0, .int .i64 a0_1]) (t := 31) ?hr ?_; (case hd => rfl); (case hg => rfl); (case hr => first | (go_simp; done) | (go_simp; rfl)); intro gb107 hg w6 hbox hb; have n0_ := A0b.mk (A2k (by repeat (first | (with_reducible first | exact HB.out | apply A0x | apply A0p | apply A0j) | exact HB.out)) hb); have n1_ := A0b.mk (hbox); have n2_ := A0b.mk ((by rw [hg]; exact (A0n (by repeat (first | (with_reducible first | exact HB.out | apply A0x | apply A0p | apply A0j) | exact HB.out))) : w.heap.size ≤ gb107)); have n3_ := A0b.mk ((by rw [hg]; exact (A0n (by repeat (first | (with_reducible first | exact HB.out | apply A0x | apply A0p | apply A0j) | exact HB.out))) : w.heap.size ≤ gb107)); clear HB; have HB := n0_; have BK107 := n1_; have GW107 := n2_; have GE107 := n3_; clear n0_ n1_ n2_ n3_; clear hb hbox hg))
   have n0_ := A0b.mk (A0f BK107.out)
   have n1_ := A0b.mk (A0j HB.out)
   clear BK107
   clear HB
   have BK107 := n0_
   have HB := n1_
   clear n0_ n1_
   (try (have hcv8e := Kd.A3z (P := Tryd.prog) (A := A0_0) (c := c0_0) Tryd.underlying25 Tryd.underlying5 Tryd.underlying9 (Kd.A1v (Kd.A1j HR0_0.out HB.out))))
   refine A2d (n := 14) (S := fun w' => w'.cell? ⟨gb107, 0, none⟩ = some (.slice A0_0 l0_0.length c0_0) ∧ w'.cell? ⟨gb107, 1, none⟩ = some (.int .i64 a0_1) ∧ Kd.C (Kd.int .u8) w' A0_0 l0_0.length l0_0) (ds := []) #[false, false, false, false, false, false, false, false, false, false, false, false, false, false] (by kernel_rfl) rfl rfl ⟨(A0e BK107.out 0).trans rfl, (A0e BK107.out 1).trans rfl, Kd.A1j HR0_0.out HB.out⟩ (fun hHeld => ?_); refine A1q A1u.tab1 A1u.bits1 (fun HT_ HW_ => ?_)
   generalize w6.drew = w7 at BK107 HB hHeld ⊢
   refine A35 (i := 0) (N := some 5) (v := ?_) (a' := ?_) #[true, false, false, false, false, false, false, false, false, false, false, false, false, false] rfl rfl (A3f HT_.out (by kernel_rfl)) (fun _ _ _ h => h) (Or.inl ⟨by rfl, ?_⟩) ?_ ?_
   rotate_left
   ·intro w'
    go_simp
    with_reducible rfl
   rotate_left
   ·simp only [Act.put, List.setIfInBounds_toArray, List.set_cons_zero, List.set_cons_succ, A11, A2c]
    rfl
   refine A35 (i := 2) (N := some 7) (v := ?_) (a' := ?_) #[true, false, true, false, false, false, false, false, false, false, false, false, false, false] rfl rfl (A3f HT_.out (by kernel_rfl)) (fun _ _ _ h => h) (Or.inl ⟨by rfl, ?_⟩) ?_ ?_
   rotate_left
   ·intro w'
    go_simp
    with_reducible rfl
   rotate_left
   ·simp only [Act.put, List.setIfInBounds_toArray, List.set_cons_zero, List.set_cons_succ, A11, A2c]
    rfl
   refine A35 (i := 3) (N := some 8) (v := ?_) (a' := ?_) #[true, false, true, true, false, false, false, false, false, false, false, false, false, false] rfl rfl (A3f HT_.out (by kernel_rfl)) (fun _ _ _ h => h) (Or.inl ⟨by rfl, ?_⟩) ?_ ?_
   rotate_left
   ·intro w'
    go_simp
    with_reducible rfl
   rotate_left
   ·simp only [Act.put, List.setIfInBounds_toArray, List.set_cons_zero, List.set_cons_succ, A11, A2c]
    rfl
   refine take_ (i := 1) (N := some 6) (v := ?_) (a' := ?_) #[true, true, true, true, false, false, false, false, false, false, false, false, false, false] rfl rfl (take_ofW HT_.out HW_.out (by kernel_rfl)) (fun _ _ _ h => h) (Or.inl ⟨by rfl, ?_⟩) hHeld ?_ ?_
   rotate_left
   ·rintro w' ⟨s0, s1, s2⟩
    go_simp
    with_reducible rfl
   rotate_left
   ·simp only [Act.put, List.setIfInBounds_toArray, List.set_cons_zero, List.set_cons_succ, A11, A2c]
    rfl
   refine A35 (i := 4) (N := some 9) (v := ?_) (a' := ?_) #[true, true, true, true, true, false, false, false, false, false, false, false, false, false] rfl rfl (A3f HT_.out (by kernel_rfl)) (fun _ _ _ h => h) (Or.inl ⟨by rfl, ?_⟩) ?_ ?_
   rotate_left
   ·intro w'
    go_simp
    with_reducible rfl
   rotate_left
   ·simp only [Act.put, List.setIfInBounds_toArray, List.set_cons_zero, List.set_cons_succ, A11, A2c]
    rfl
   refine A35 (i := 5) (N := some 10) (v := ?_) (a' := ?_) #[true, true, true, true, true, true, false, false, false, false, false, false, false, false] rfl rfl (A3f HT_.out (by kernel_rfl)) (fun _ _ _ h => h) (Or.inl ⟨by rfl, ?_⟩) ?_ ?_
   rotate_left
   ·intro w'
    go_simp
    with_reducible rfl
   rotate_left
   ·simp only [Act.put, List.setIfInBounds_toArray, List.set_cons_zero, List.set_cons_succ, A11, A2c]
    rfl
   refine A35 (i := 6) (N := some 11) (v := ?_) (a' := ?_) #[true, true, true, true, true, true, true, false, false, false, false, false, false, false] rfl rfl (A3f HT_.out (by kernel_rfl)) (fun _ _ _ h => h) (Or.inl ⟨by rfl, ?_⟩) ?_ ?_
   rotate_left
   ·intro w'
    go_simp
    with_reducible rfl
   rotate_left
   ·simp only [Act.put, List.setIfInBounds_toArray, List.set_cons_zero, List.set_cons_succ, A11, A2c]
    rfl
   refine A35 (i := 9) (N := some 14) (v := ?_) (a' := ?_) #[true, true, true, true, true, true, true, false, false, true, false, false, false, false] rfl rfl (A3f HT_.out (by kernel_rfl)) (fun _ _ _ h => h) (Or.inl ⟨by rfl, ?_⟩) ?_ ?_
   rotate_left
   ·intro w'
    go_simp
    with_reducible rfl
   rotate_left
   ·simp only [Act.put, List.setIfInBounds_toArray, List.set_cons_zero, List.set_cons_succ, A11, A2c]
    rfl
   refine take_ (i := 7) (N := some 12) (v := ?_) (a' := ?_) #[true, true, true, true, true, true, true, true, false, true, false, false, false, false] rfl rfl (take_ofW HT_.out HW_.out (by kernel_rfl)) (fun _ _ _ h => h) (Or.inl ⟨by rfl, ?_⟩) hHeld ?_ ?_
   rotate_left
   ·rintro w' ⟨s0, s1, s2⟩
    go_simp
    with_reducible rfl
   rotate_left
   ·simp only [Act.put, List.setIfInBounds_toArray, List.set_cons_zero, List.set_cons_succ, A11, A2c]
    rfl
   refine take_ (i := 8) (N := some 13) (v := ?_) (a' := ?_) #[true, true, true, true, true, true, true, true, true, true, false, false, false, false] rfl rfl (take_ofW HT_.out HW_.out (by kernel_rfl)) (fun _ _ _ h => h) (Or.inl ⟨by rfl, ?_⟩) hHeld ?_ ?_
   rotate_left
   ·rintro w' ⟨s0, s1, s2⟩
    have hc_ := Kd.A3z (P := Tryd.prog) (A := A0_0) (c := c0_0) Tryd.underlying25 Tryd.underlying5 Tryd.underlying9 s2
    go_simp
    with_reducible rfl
   rotate_left
   ·simp only [Act.put, List.setIfInBounds_toArray, List.set_cons_zero, List.set_cons_succ, A11, A2c]
    rfl
   refine one_ (i := 10) (N := some 15) #[true, true, true, true, true, true, true, true, true, true, true, false, false, false] rfl rfl (A1h HT_.out (by kernel_rfl)) (by decide) (fun K hK => ?_)
   refine A29 Tryd.func51 (by kernel_rfl) rfl #[.slice A1 l1.length c1] (by rfl) rfl rfl (by (try simp only [List.map_toArray, List.map_cons, List.map_nil]); first | done | rfl | (simp only [List.length_drop, List.length_take]; rfl)) ?_
   with_reducible refine (A0k.calls k _ _ l1 t108 _ ?side1 ?side2 A4.out).mono ?_
   (case side1 => repeat (first | exact (Kd.A1j HR1.out HB.out) | (with_reducible refine Kd.A1e ?_ _) | (with_reducible refine Kd.A1d ?_ _) | (with_reducible refine Kd.A1v ?_)))
   (case side2 => exact HC1.out)
   rintro e w9 ⟨v109, rfl, ho0, hb⟩
   refine ⟨_, rfl, ?_⟩
   have n0_ := A0b.mk (Kd.A1t ho0 (A0n (by repeat (first | (with_reducible first | exact HB.out | apply A0x | apply A0p | apply A0j | refine A0i ?_ GE107.out) | exact HB.out))))
   have n1_ := A0b.mk (A1y (g := gb107) (o := .cells #[.slice A0_0 l0_0.length c0_0, .int .i64 a0_1] 31 (0, 0)) (by (with_reducible repeat (first | refine A2t ?_ _ | refine A0f ?_ | refine A2p ?_ _)); exact BK107.out) hb)
   have n2_ := A0b.mk (A2k (by repeat (first | (with_reducible first | exact HB.out | apply A0x | apply A0p | apply A0j | refine A0i ?_ GE107.out) | exact HB.out)) hb)
   clear BK107
   clear HB
   have HO110 := n0_
   have BK107 := n1_
   have HB := n2_
   clear n0_ n1_ n2_
   (try clear hb)
   (try clear hb2)
   (try clear hk)
   (try clear hi)
   (try clear hgw)
   (try clear ho0)
   refine hK.out _ _ ⟨(A0e BK107.out 0).trans rfl, (A0e BK107.out 1).trans rfl, Kd.A1j HR0_0.out HB.out⟩ (fun hHeld => ?_)
   clear hK K
   refine A3o (a' := ?_) ?_ ?_
   rotate_left
   ·show Act.put _ (some 15) _ = _
    simp only [Act.put, List.setIfInBounds_toArray, List.set_cons_zero, List.set_cons_succ, A11, A2c]
    rfl
   refine one_ (i := 11) (N := some 16) #[true, true, true, true, true, true, true, true, true, true, true, true, false, false] rfl rfl (A1h HT_.out (by kernel_rfl)) (by decide) (fun K hK => ?_)
   have hcv10 := own_string (P := Tryd.prog) Tryd.underlying25 Tryd.underlying5 Tryd.underlying9 (Kd.own_of_R HO110.out)
   refine value_ (w1 := ?_) (v := ?_) (by rfl) rfl ?_ ?_
   rotate_left 2
   ·go_simp
    constructor
    ·rfl
    ·rfl
   clear hcv10
   refine hK.out _ _ ⟨(A0e BK107.out 0).trans rfl, (A0e BK107.out 1).trans rfl, Kd.A1j HR0_0.out HB.out⟩ (fun hHeld => ?_)
   clear hK K
   refine A3o (a' := ?_) ?_ ?_
   rotate_left
   ·show Act.put _ (some 16) _ = _
    simp only [Act.put, List.setIfInBounds_toArray, List.set_cons_zero, List.set_cons_succ, A11, A2c]
    rfl
   refine A35 (i := 12) (N := some 17) (v := ?_) (a' := ?_) #[true, true, true, true, true, true, true, true, true, true, true, true, true, false] rfl rfl (A3f HT_.out (by kernel_rfl)) (fun _ _ _ h => h) (Or.inl ⟨by rfl, ?_⟩) ?_ ?_
   rotate_left
   ·intro w'
    go_simp
    with_reducible rfl
   rotate_left
   ·simp only [Act.put, List.setIfInBounds_toArray, List.set_cons_zero, List.set_cons_succ, A11, A2c]
    rfl
   refine A35 (i := 13) (N := some 18) (v := ?_) (a' := ?_) #[true, true, true, true, true, true, true, true, true, true, true, true, true, true] rfl rfl (A3f HT_.out (by kernel_rfl)) (fun _ _ _ h => h) (Or.inl ⟨by rfl, ?_⟩) ?_ ?_
   rotate_left
   ·intro w'
    go_simp
    with_reducible rfl
   rotate_left
   ·simp only [Act.put, List.setIfInBounds_toArray, List.set_cons_zero, List.set_cons_succ, A11, A2c]
    rfl
   refine A28 (A2a HT_.out (by kernel_rfl)) ?_
   try go_wp2
   go_ret
   exact ⟨by first | rfl | (simp [A0v, A0w] <;> rfl) | (simp [*, A0v, A0w] <;> rfl), by repeat (first | (with_reducible first | exact HB.out | apply A0x | apply A0p | apply A0j | refine A0i ?_ GE107.out) | exact HB.out)⟩
  ·rw [if_neg c5] at H
   have c5b0 : ((strOfNums l0_0).toList == (strOfNums t108).toList) = false := beq_eq_false_iff_ne.mpr c5
   have c5b1 : ((strOfNums l0_0).toList != (strOfNums t108).toList) = true := bne_iff_ne.mpr c5
   obtain rfl := Option.some.inj H
   go_enter Tryd.func19, Tryd.ntmps19
   try go_wp2_with (first | ((with_reducible refine A0q (N := 2) rfl ?_); refine box_event ?hg (N := 2) ?hd (cs := #[.slice A0_0 l0_0.length c0_0, .int .i64 a0_1]) (t := 31) ?hr ?_; (case hd => rfl); (case hg => rfl); (case hr => first | (go_simp; done) | (go_simp; rfl)); intro gb107 hg w12 hbox hb; have n0_ := A0b.mk (A2k (by repeat (first | (with_reducible first | exact HB.out | apply A0x | apply A0p | apply A0j) | exact HB.out)) hb); have n1_ := A0b.mk (hbox); have n2_ := A0b.mk ((by rw [hg]; exact (A0n (by repeat (first | (with_reducible first | exact HB.out | apply A0x | apply A0p | apply A0j) | exact HB.out))) : w.heap.size ≤ gb107)); have n3_ := A0b.mk ((by rw [hg]; exact (A0n (by repeat (first | (with_reducible first | exact HB.out | apply A0x | apply A0p | apply A0j) | exact HB.out))) : w.heap.size ≤ gb107)); clear HB; have HB := n0_; have BK107 := n1_; have GW107 := n2_; have GE107 := n3_; clear n0_ n1_ n2_ n3_; clear hb hbox hg))
   have n0_ := A0b.mk (A0f BK107.out)
   have n1_ := A0b.mk (A0j HB.out)
   clear BK107
   clear HB
   have BK107 := n0_
   have HB := n1_
   clear n0_ n1_
   (try (have hcv14e := Kd.A3z (P := Tryd.prog) (A := A0_0) (c := c0_0) Tryd.underlying25 Tryd.underlying5 Tryd.underlying9 (Kd.A1v (Kd.A1j HR0_0.out HB.out))))
   refine A2d (n := 14) (S := fun w' => w'.cell? ⟨gb107, 0, none⟩ = some (.slice A0_0 l0_0.length c0_0) ∧ w'.cell? ⟨gb107, 1, none⟩ = some (.int .i64 a0_1) ∧ Kd.C (Kd.int .u8) w' A0_0 l0_0.length l0_0) (ds := []) #[false, false, false, false, false, false, false, false, false, false, false, false, false, false] (by kernel_rfl) rfl rfl ⟨(A0e BK107.out 0).trans rfl, (A0e BK107.out 1).trans rfl, Kd.A1j HR0_0.out HB.out⟩ (fun hHeld => ?_); refine A1q A1u.tab1 A1u.bits1 (fun HT_ HW_ => ?_)
   generalize w12.drew = w13 at BK107 HB hHeld ⊢
   refine A35 (i := 0) (N := some 5) (v := ?_) (a' := ?_) #[true, false, false, false, false, false, false, false, false, false, false, false, false, false] rfl rfl (A3f HT_.out (by kernel_rfl)) (fun _ _ _ h => h) (Or.inl ⟨by rfl, ?_⟩) ?_ ?_
   rotate_left
   ·intro w'
    go_simp
    with_reducible rfl
   rotate_left
   ·simp only [Act.put, List.setIfInBounds_toArray, List.set_cons_zero, List.set_cons_succ, A11, A2c]
    rfl
   refine A35 (i := 2) (N := some 7) (v := ?_) (a' := ?_) #[true, false, true, false, false, false, false, false, false, false, false, false, false, false] rfl rfl (A3f HT_.out (by kernel_rfl)) (fun _ _ _ h => h) (Or.inl ⟨by rfl, ?_⟩) ?_ ?_
   rotate_left
   ·intro w'
    go_simp
    with_reducible rfl
   rotate_left
   ·simp only [Act.put, List.setIfInBounds_toArray, List.set_cons_zero, List.set_cons_succ, A11, A2c]
    rfl
   refine A35 (i := 3) (N := some 8) (v := ?_) (a' := ?_) #[true, false, true, true, false, false, false, false, false, false, false, false, false, false] rfl rfl (A3f HT_.out (by kernel_rfl)) (fun _ _ _ h => h) (Or.inl ⟨by rfl, ?_⟩) ?_ ?_
   rotate_left
   ·intro w'
    go_simp
    with_reducible rfl
   rotate_left
   ·simp only [Act.put, List.setIfInBounds_toArray, List.set_cons_zero, List.set_cons_succ, A11, A2c]
    rfl
   refine take_ (i := 1) (N := some 6) (v := ?_) (a' := ?_) #[true, true, true, true, false, false, false, false, false, false, false, false, false, false] rfl rfl (take_ofW HT_.out HW_.out (by kernel_rfl)) (fun _ _ _ h => h) (Or.inl ⟨by rfl, ?_⟩) hHeld ?_ ?_
   rotate_left
   ·rintro w' ⟨s0, s1, s2⟩
    go_simp
    with_reducible rfl
   rotate_left
   ·simp only [Act.put, List.setIfInBounds_toArray, List.set_cons_zero, List.set_cons_succ, A11, A2c]
    rfl
   refine A35 (i := 4) (N := some 9) (v := ?_) (a' := ?_) #[true, true, true, true, true, false, false, false, false, false, false, false, false, false] rfl rfl (A3f HT_.out (by kernel_rfl)) (fun _ _ _ h => h) (Or.inl ⟨by rfl, ?_⟩) ?_ ?_
   rotate_left
   ·intro w'
    go_simp
    with_reducible rfl
   rotate_left
   ·simp only [Act.put, List.setIfInBounds_toArray, List.set_cons_zero, List.set_cons_succ, A11, A2c]
    rfl
   refine A35 (i := 5) (N := some 10) (v := ?_) (a' := ?_) #[true, true, true, true, true, true, false, false, false, false, false, false, false, false] rfl rfl (A3f HT_.out (by kernel_rfl)) (fun _ _ _ h => h) (Or.inl ⟨by rfl, ?_⟩) ?_ ?_
   rotate_left
   ·intro w'
    go_simp
    with_reducible rfl
   rotate_left
   ·simp only [Act.put, List.setIfInBounds_toArray, List.set_cons_zero, List.set_cons_succ, A11, A2c]
    rfl
   refine A35 (i := 6) (N := some 11) (v := ?_) (a' := ?_) #[true, true, true, true, true, true, true, false, false, false, false, false, false, false] rfl rfl (A3f HT_.out (by kernel_rfl)) (fun _ _ _ h => h) (Or.inl ⟨by rfl, ?_⟩) ?_ ?_
   rotate_left
   ·intro w'
    go_simp
    with_reducible rfl
   rotate_left
   ·simp only [Act.put, List.setIfInBounds_toArray, List.set_cons_zero, List.set_cons_succ, A11, A2c]
    rfl
   refine A35 (i := 9) (N := some 14) (v := ?_) (a' := ?_) #[true, true, true, true, true, true, true, false, false, true, false, false, false, false] rfl rfl (A3f HT_.out (by kernel_rfl)) (fun _ _ _ h => h) (Or.inl ⟨by rfl, ?_⟩) ?_ ?_
   rotate_left
   ·intro w'
    go_simp
    with_reducible rfl
   rotate_left
   ·simp only [Act.put, List.setIfInBounds_toArray, List.set_cons_zero, List.set_cons_succ, A11, A2c]
    rfl
   refine take_ (i := 7) (N := some 12) (v := ?_) (a' := ?_) #[true, true, true, true, true, true, true, true, false, true, false, false, false, false] rfl rfl (take_ofW HT_.out HW_.out (by kernel_rfl)) (fun _ _ _ h => h) (Or.inl ⟨by rfl, ?_⟩) hHeld ?_ ?_
   rotate_left
   ·rintro w' ⟨s0, s1, s2⟩
    go_simp
    with_reducible rfl
   rotate_left
   ·simp only [Act.put, List.setIfInBounds_toArray, List.set_cons_zero, List.set_cons_succ, A11, A2c]
    rfl
   refine take_ (i := 8) (N := some 13) (v := ?_) (a' := ?_) #[true, true, true, true, true, true, true, true, true, true, false, false, false, false] rfl rfl (take_ofW HT_.out HW_.out (by kernel_rfl)) (fun _ _ _ h => h) (Or.inl ⟨by rfl, ?_⟩) hHeld ?_ ?_
   rotate_left
   ·rintro w' ⟨s0, s1, s2⟩
    have hc_ := Kd.A3z (P := Tryd.prog) (A := A0_0) (c := c0_0) Tryd.underlying25 Tryd.underlying5 Tryd.underlying9 s2
    go_simp
    with_reducible rfl
   rotate_left
   ·simp only [Act.put, List.setIfInBounds_toArray, List.set_cons_zero, List.set_cons_succ, A11, A2c]
    rfl
   refine one_ (i := 10) (N := some 15) #[true, true, true, true, true, true, true, true, true, true, true, false, false, false] rfl rfl (A1h HT_.out (by kernel_rfl)) (by decide) (fun K hK => ?_)
   refine A29 Tryd.func51 (by kernel_rfl) rfl #[.slice A1 l1.length c1] (by rfl) rfl rfl (by (try simp only [List.map_toArray, List.map_cons, List.map_nil]); first | done | rfl | (simp only [List.length_drop, List.length_take]; rfl)) ?_
   with_reducible refine (A0k.calls k _ _ l1 t108 _ ?side1 ?side2 A4.out).mono ?_
   (case side1 => repeat (first | exact (Kd.A1j HR1.out HB.out) | (with_reducible refine Kd.A1e ?_ _) | (with_reducible refine Kd.A1d ?_ _) | (with_reducible refine Kd.A1v ?_)))
   (case side2 => exact HC1.out)
   rintro e w15 ⟨v109, rfl, ho0, hb⟩
   refine ⟨_, rfl, ?_⟩
   have n0_ := A0b.mk (Kd.A1t ho0 (A0n (by repeat (first | (with_reducible first | exact HB.out | apply A0x | apply A0p | apply A0j | refine A0i ?_ GE107.out) | exact HB.out))))
   have n1_ := A0b.mk (A1y (g := gb107) (o := .cells #[.slice A0_0 l0_0.length c0_0, .int .i64 a0_1] 31 (0, 0)) (by (with_reducible repeat (first | refine A2t ?_ _ | refine A0f ?_ | refine A2p ?_ _)); exact BK107.out) hb)
   have n2_ := A0b.mk (A2k (by repeat (first | (with_reducible first | exact HB.out | apply A0x | apply A0p | apply A0j | refine A0i ?_ GE107.out) | exact HB.out)) hb)
   clear BK107
   clear HB
   have HO110 := n0_
   have BK107 := n1_
   have HB := n2_
   clear n0_ n1_ n2_
   (try clear hb)
   (try clear hb2)
   (try clear hk)
   (try clear hi)
   (try clear hgw)
   (try clear ho0)
   refine hK.out _ _ ⟨(A0e BK107.out 0).trans rfl, (A0e BK107.out 1).trans rfl, Kd.A1j HR0_0.out HB.out⟩ (fun hHeld => ?_)
   clear hK K
   refine A3o (a' := ?_) ?_ ?_
   rotate_left
   ·show Act.put _ (some 15) _ = _
    simp only [Act.put, List.setIfInBounds_toArray, List.set_cons_zero, List.set_cons_succ, A11, A2c]
    rfl
   refine one_ (i := 11) (N := some 16) #[true, true, true, true, true, true, true, true, true, true, true, true, false, false] rfl rfl (A1h HT_.out (by kernel_rfl)) (by decide) (fun K hK => ?_)
   have hcv16 := own_string (P := Tryd.prog) Tryd.underlying25 Tryd.underlying5 Tryd.underlying9 (Kd.own_of_R HO110.out)
   refine value_ (w1 := ?_) (v := ?_) (by rfl) rfl ?_ ?_
   rotate_left 2
   ·go_simp
    constructor
    ·rfl
    ·rfl
   clear hcv16
   refine hK.out _ _ ⟨(A0e BK107.out 0).trans rfl, (A0e BK107.out 1).trans rfl, Kd.A1j HR0_0.out HB.out⟩ (fun hHeld => ?_)
   clear hK K
   refine A3o (a' := ?_) ?_ ?_
   rotate_left
   ·show Act.put _ (some 16) _ = _
    simp only [Act.put, List.setIfInBounds_toArray, List.set_cons_zero, List.set_cons_succ, A11, A2c]
    rfl
   refine A35 (i := 12) (N := some 17) (v := ?_) (a' := ?_) #[true, true, true, true, true, true, true, true, true, true, true, true, true, false] rfl rfl (A3f HT_.out (by kernel_rfl)) (fun _ _ _ h => h) (Or.inl ⟨by rfl, ?_⟩) ?_ ?_
   rotate_left
   ·intro w'
    go_simp
    with_reducible rfl
   rotate_left
   ·simp only [Act.put, List.setIfInBounds_toArray, List.set_cons_zero, List.set_cons_succ, A11, A2c]
    rfl
   refine A35 (i := 13) (N := some 18) (v := ?_) (a' := ?_) #[true, true, true, true, true, true, true, true, true, true, true, true, true, true] rfl rfl (A3f HT_.out (by kernel_rfl)) (fun _ _ _ h => h) (Or.inl ⟨by rfl, ?_⟩) ?_ ?_
   rotate_left
   ·intro w'
    go_simp
    with_reducible rfl
   rotate_left
   ·simp only [Act.put, List.setIfInBounds_toArray, List.set_cons_zero, List.set_cons_succ, A11, A2c]
    rfl
   refine A28 (A2a HT_.out (by kernel_rfl)) ?_
   try go_wp2
   go_ret
   exact ⟨by first | rfl | (simp [A0v, A0w] <;> rfl) | (simp [*, A0v, A0w] <;> rfl), by repeat (first | (with_reducible first | exact HB.out | apply A0x | apply A0p | apply A0j | refine A0i ?_ GE107.out) | exact HB.out)⟩
 ·rw [if_neg c3] at H
  have c3b0 : (a0_1 == (l1.length : Int)) = false := beq_eq_false_iff_ne.mpr c3
  have c3b1 : (a0_1 != (l1.length : Int)) = true := bne_iff_ne.mpr c3
  obtain rfl := Option.some.inj H
  go_enter Tryd.func19, Tryd.ntmps19
  try go_wp2_with (first | ((with_reducible refine A0q (N := 2) rfl ?_); refine box_event ?hg (N := 2) ?hd (cs := #[.slice A0_0 l0_0.length c0_0, .int .i64 a0_1]) (t := 31) ?hr ?_; (case hd => rfl); (case hg => rfl); (case hr => first | (go_simp; done) | (go_simp; rfl)); intro gb107 hg w18 hbox hb; have n0_ := A0b.mk (A2k (by repeat (first | (with_reducible first | exact HB.out | apply A0x | apply A0p | apply A0j) | exact HB.out)) hb); have n1_ := A0b.mk (hbox); have n2_ := A0b.mk ((by rw [hg]; exact (A0n (by repeat (first | (with_reducible first | exact HB.out | apply A0x | apply A0p | apply A0j) | exact HB.out))) : w.heap.size ≤ gb107)); have n3_ := A0b.mk ((by rw [hg]; exact (A0n (by repeat (first | (with_reducible first | exact HB.out | apply A0x | apply A0p | apply A0j) | exact HB.out))) : w.heap.size ≤ gb107)); clear HB; have HB := n0_; have BK107 := n1_; have GW107 := n2_; have GE107 := n3_; clear n0_ n1_ n2_ n3_; clear hb hbox hg))
  have n0_ := A0b.mk (A0f BK107.out)
  have n1_ := A0b.mk (A0j HB.out)
  clear BK107
  clear HB
  have BK107 := n0_
  have HB := n1_
  clear n0_ n1_
  refine A2d (n := 14) (S := fun w' => w'.cell? ⟨gb107, 0, none⟩ = some (.slice A0_0 l0_0.length c0_0) ∧ w'.cell? ⟨gb107, 1, none⟩ = some (.int .i64 a0_1) ∧ Kd.C (Kd.int .u8) w' A0_0 l0_0.length l0_0) (ds := []) #[false, false, false, false, false, false, false, false, false, false, false, false, false, false] (by kernel_rfl) rfl rfl ⟨(A0e BK107.out 0).trans rfl, (A0e BK107.out 1).trans rfl, Kd.A1j HR0_0.out HB.out⟩ (fun hHeld => ?_); refine A1q A1u.tab1 A1u.bits1 (fun HT_ HW_ => ?_)
  generalize w18.drew = w19 at BK107 HB hHeld ⊢
  refine A35 (i := 0) (N := some 5) (v := ?_) (a' := ?_) #[true, false, false, false, false, false, false, false, false, false, false, false, false, false] rfl rfl (A3f HT_.out (by kernel_rfl)) (fun _ _ _ h => h) (Or.inl ⟨by rfl, ?_⟩) ?_ ?_
  rotate_left
  ·intro w'
   go_simp
   with_reducible rfl
  rotate_left
  ·simp only [Act.put, List.setIfInBounds_toArray, List.set_cons_zero, List.set_cons_succ, A11, A2c]
   rfl
  refine A35 (i := 2) (N := some 7) (v := ?_) (a' := ?_) #[true, false, true, false, false, false, false, false, false, false, false, false, false, false] rfl rfl (A3f HT_.out (by kernel_rfl)) (fun _ _ _ h => h) (Or.inl ⟨by rfl, ?_⟩) ?_ ?_
  rotate_left
  ·intro w'
   go_simp
   with_reducible rfl
  rotate_left
  ·simp only [Act.put, List.setIfInBounds_toArray, List.set_cons_zero, List.set_cons_succ, A11, A2c]
   rfl
  refine A35 (i := 3) (N := some 8) (v := ?_) (a' := ?_) #[true, false, true, true, false, false, false, false, false, false, false, false, false, false] rfl rfl (A3f HT_.out (by kernel_rfl)) (fun _ _ _ h => h) (Or.inl ⟨by rfl, ?_⟩) ?_ ?_
  rotate_left
  ·intro w'
   go_simp
   with_reducible rfl
  rotate_left
  ·simp only [Act.put, List.setIfInBounds_toArray, List.set_cons_zero, List.set_cons_succ, A11, A2c]
   rfl
  refine take_ (i := 1) (N := some 6) (v := ?_) (a' := ?_) #[true, true, true, true, false, false, false, false, false, false, false, false, false, false] rfl rfl (take_ofW HT_.out HW_.out (by kernel_rfl)) (fun _ _ _ h => h) (Or.inl ⟨by rfl, ?_⟩) hHeld ?_ ?_
  rotate_left
  ·rintro w' ⟨s0, s1, s2⟩
   go_simp
   with_reducible rfl
  rotate_left
  ·simp only [Act.put, List.setIfInBounds_toArray, List.set_cons_zero, List.set_cons_succ, A11, A2c]
   rfl
  refine A35 (i := 4) (N := some 9) (v := ?_) (a' := ?_) #[true, true, true, true, true, false, false, false, false, false, false, false, false, false] rfl rfl (A3f HT_.out (by kernel_rfl)) (fun _ _ _ h => h) (Or.inl ⟨by rfl, ?_⟩) ?_ ?_
  rotate_left
  ·intro w'
   go_simp
   with_reducible rfl
  rotate_left
  ·simp only [Act.put, List.setIfInBounds_toArray, List.set_cons_zero, List.set_cons_succ, A11, A2c]
   rfl
  refine A35 (i := 5) (N := some 10) (v := ?_) (a' := ?_) #[true, true, true, true, true, true, false, false, false, false, false, false, false, false] rfl rfl (A3f HT_.out (by kernel_rfl)) (fun _ _ _ h => h) (Or.inl ⟨by rfl, ?_⟩) ?_ ?_
  rotate_left
  ·intro w'
   go_simp
   with_reducible rfl
  rotate_left
  ·simp only [Act.put, List.setIfInBounds_toArray, List.set_cons_zero, List.set_cons_succ, A11, A2c]
   rfl
  refine A35 (i := 6) (N := some 11) (v := undef) (a' := ?_) #[true, true, true, true, true, true, true, false, false, false, false, false, false, false] rfl rfl (A3f HT_.out (by kernel_rfl)) (fun _ _ _ h => h) (Or.inr ⟨by rfl, rfl⟩) ?_ ?_
  rotate_left
  ·simp only [Act.put, List.setIfInBounds_toArray, List.set_cons_zero, List.set_cons_succ, A11, A2c]
   rfl
  refine A35 (i := 7) (N := some 12) (v := undef) (a' := ?_) #[true, true, true, true, true, true, true, true, false, false, false, false, false, false] rfl rfl (A3f HT_.out (by kernel_rfl)) (fun _ _ _ h => h) (Or.inr ⟨by rfl, rfl⟩) ?_ ?_
  rotate_left
  ·simp only [Act.put, List.setIfInBounds_toArray, List.set_cons_zero, List.set_cons_succ, A11, A2c]
   rfl
  refine A35 (i := 8) (N := some 13) (v := undef) (a' := ?_) #[true, true, true, true, true, true, true, true, true, false, false, false, false, false] rfl rfl (A3f HT_.out (by kernel_rfl)) (fun _ _ _ h => h) (Or.inr ⟨by rfl, rfl⟩) ?_ ?_
  rotate_left
  ·simp only [Act.put, List.setIfInBounds_toArray, List.set_cons_zero, List.set_cons_succ, A11, A2c]
   rfl
  refine A35 (i := 9) (N := some 14) (v := undef) (a' := ?_) #[true, true, true, true, true, true, true, true, true, true, false, false, false, false] rfl rfl (A3f HT_.out (by kernel_rfl)) (fun _ _ _ h => h) (Or.inr ⟨by rfl, rfl⟩) ?_ ?_
  rotate_left
  ·simp only [Act.put, List.setIfInBounds_toArray, List.set_cons_zero, List.set_cons_succ, A11, A2c]
   rfl
  refine A35 (i := 10) (N := some 15) (v := undef) (a' := ?_) #[true, true, true, true, true, true, true, true, true, true, true, false, false, false] rfl rfl (A3f HT_.out (by kernel_rfl)) (fun _ _ _ h => h) (Or.inr ⟨by rfl, rfl⟩) ?_ ?_
  rotate_left
  ·simp only [Act.put, List.setIfInBounds_toArray, List.set_cons_zero, List.set_cons_succ, A11, A2c]
   rfl
  refine A35 (i := 11) (N := some 16) (v := undef) (a' := ?_) #[true, true, true, true, true, true, true, true, true, true, true, true, false, false] rfl rfl (A3f HT_.out (by kernel_rfl)) (fun _ _ _ h => h) (Or.inr ⟨by rfl, rfl⟩) ?_ ?_
  rotate_left
  ·simp only [Act.put, List.setIfInBounds_toArray, List.set_cons_zero, List.set_cons_succ, A11, A2c]
   rfl
  refine A35 (i := 12) (N := some 17) (v := undef) (a' := ?_) #[true, true, true, true, true, true, true, true, true, true, true, true, true, false] rfl rfl (A3f HT_.out (by kernel_rfl)) (fun _ _ _ h => h) (Or.inr ⟨by rfl, rfl⟩) ?_ ?_
  rotate_left
  ·simp only [Act.put, List.setIfInBounds_toArray, List.set_cons_zero, List.set_cons_succ, A11, A2c]
   rfl
  refine A35 (i := 13) (N := some 18) (v := ?_) (a' := ?_) #[true, true, true, true, true, true, true, true, true, true, true, true, true, true] rfl rfl (A3f HT_.out (by kernel_rfl)) (fun _ _ _ h => h) (Or.inl ⟨by rfl, ?_⟩) ?_ ?_
  rotate_left
  ·intro w'
   go_simp
   with_reducible rfl
  rotate_left
  ·simp only [Act.put, List.setIfInBounds_toArray, List.set_cons_zero, List.set_cons_succ, A11, A2c]
   rfl
  refine A28 (A2a HT_.out (by kernel_rfl)) ?_
  try go_wp2
  go_ret
  exact ⟨by first | rfl | (simp [A0v, A0w] <;> rfl) | (simp [*, A0v, A0w] <;> rfl), by repeat (first | (with_reducible first | exact HB.out | apply A0x | apply A0p | apply A0j | refine A0i ?_ GE107.out) | exact HB.out)⟩
end Go.Proofs.YtiahbcaoikoogaaDoor
